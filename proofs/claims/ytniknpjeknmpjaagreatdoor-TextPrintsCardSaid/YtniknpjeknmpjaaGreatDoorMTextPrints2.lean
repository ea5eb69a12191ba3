/- TextPrints: parts of the proofs, put together. -/
import Derived.SizedLaws
import Derived.Deep.Slices
import Derived.ProofKit
import Derived.Test.YtniknpjeknmpjaaGreatDoorProg
import Derived.Below
import Derived.Deep.Draws
import Derived.Deep.AppendLies
import Derived.Maps.AppendAt
import Derived.OwnWalk
import Derived.Laws.BytesArg
import Derived.Laws.MakeOwn
import Derived.Laws.OwnMore
import Derived.Deep.OwnRows
import Derived.Tactics
import Derived.Lib.ConvBytes
import Derived.Laws.Slices
import Derived.WalkKit
import Derived.KernelRfl
import Derived.RowKit3
import Derived.Deep.LoopGhost
import Derived.Deep.QuietTactic
import Derived.BigQuiet
import Derived.WideLaws
import Derived.Deep.DeepCutAuto
import Derived.Deep.CutBlock
import Derived.Deep.RegionHeld3
import Derived.Laws.Rows
import Derived.Lib.AppendStr
import Derived.ArgAppend
import Derived.Laws.IdiomCopy
import Derived.OrdersHeld
import Derived.Laws.BitsLemmas
import Derived.RowKit
import Derived.Ground.NamesProg
import Derived.Shelf.SlGeneric
import Derived.Shelf.LaysM
import Derived.Shelf.Strings.SlTrimAscii
import Derived.Shelf.Strings.Search2
import Derived.Shelf.Strings.Search3
import Derived.Shelf.Strings.Count
import Derived.Shelf.Strings.Split
import Derived.Shelf.Strconv.ErrVarAll
import Derived.Shelf.Strconv.Itoa3
import Derived.Shelf.Strings.OnBuilder
import Derived.Shelf.Small.Wraps
import Derived.Shelf.Strings.Prefix
import Derived.Shelf.Small.Strs
import Derived.Test.YtniknpjeknmpjaaGreatDoorRows
import Derived.Lib.LaidU8
import Derived.Lib.LaidTab
import Derived.Stop.LaidErr
import Derived.Lib.QuietBelow
import Derived.OpenShut
import Derived.Test.YtniknpjeknmpjaaGreatDoorMTextPrints1
namespace Go.Proofs.YtniknpjeknmpjaaGreatDoor.Open
open Go Go.Proofs.YtniknpjeknmpjaaGreatDoorW.PrintWords
def Opens (P : Program) (t : TypeId) {α : Type} (d : Kd α) (G : α → Prop) : Prop :=
 P.cellsOf t = d.sz ∧ ∀ {H : Type} (enc : TypeId × Value → H) (w : World) (fuel : Nat) (cs : List Value) (x : DataW H × List MemPlace),
  DataW.trod enc P w 0 (fun _ => true) true fuel t cs = some x → (∀ n ∈ x.1.weights P t, n ≤ 140737488351232) → ∃ y, d.K w y cs ∧ G y
theorem Opens.int {P : Program} {t : TypeId} {k : IntKind} (ht : P.underlying t = some (.int k)) (hc : P.cellsOf t = 1) : Opens P t (Kd.int k) (fun n => (Lit.int k n).wf = true) := by
 refine ⟨hc, fun enc w fuel cs x h _ => ?_⟩
 obtain ⟨n, rfl, _, hw⟩ := DataW.trod_int ht h
 exact ⟨n, rfl, hw⟩
theorem Opens.bool {P : Program} {t : TypeId} (ht : P.underlying t = some .bool) (hc : P.cellsOf t = 1) : Opens P t Kd.bool (fun _ => True) := by
 refine ⟨hc, fun enc w fuel cs x h _ => ?_⟩
 obtain ⟨b, rfl, _⟩ := DataW.trod_bool ht h
 exact ⟨b, rfl, trivial⟩
theorem Opens.string {P : Program} {t : TypeId} (ht : P.underlying t = some .string) (hc : P.cellsOf t = 1) : Opens P t Kd.string (fun s => s.size ≤ 140737488351232) := by
 refine ⟨hc, fun enc w fuel cs x h hz => ?_⟩
 obtain ⟨s, rfl, rfl, _⟩ := DataW.trod_string ht h
 refine ⟨s, rfl, ?_⟩
 have := hz s.data.toList.length (by simp [DataW.weights])
 simpa using this
theorem weightsAll_mem {H : Type} {P : Program} {e : TypeId} : ∀ {l : List (DataW H)} {d : DataW H}, d ∈ l → ∀ n ∈ d.weights P e, n ∈ DataW.weightsAll P e l
 | a :: l, d, hd, n, hn => by
  simp only [DataW.weightsAll, List.mem_append]
  rcases List.mem_cons.1 hd with rfl | hd
  ·exact Or.inl hn
  ·exact Or.inr (weightsAll_mem hd n hn)
theorem choose_list {α : Type} {Q : Nat → α → Prop} : ∀ (n : Nat), (∀ i, i < n → ∃ y, Q i y) → ∃ ys : List α, ys.length = n ∧ ∀ i y, ys[i]? = some y → Q i y
 | 0, _ => ⟨[], rfl, fun i y h => by simp at h⟩
 | n + 1, h => by
  obtain ⟨ys, hl, hq⟩ := choose_list n (fun i hi => h i (by omega))
  obtain ⟨y, hy⟩ := h n (by omega)
  refine ⟨ys ++ [y], by simp [hl], fun i z hz => ?_⟩
  rcases Nat.lt_or_ge i n with hi | hi
  ·rw [List.getElem?_append_left (by omega)] at hz
   exact hq i z hz
  ·rw [List.getElem?_append_right (by omega)] at hz
   have : i = n := by
    have := (List.getElem?_eq_some_iff.1 hz).1
    simp at this
    omega
   subst this
   rw [hl, Nat.sub_self] at hz
   simp at hz
   subst hz
   exact hy
theorem Opens.slice {P : Program} {t e : TypeId} {α : Type} {d : Kd α} {G : α → Prop} {B : Nat} (ht : P.underlying t = some (.slice e)) (hc : P.cellsOf t = 1) (hB : P.bytesOf e = B) (hd : Opens P e d G) :
 Opens P t (Kd.slice e d) (fun xs => xs.length * B ≤ 140737488351232 ∧ xs.length ≤ maxLen ∧ ∀ x ∈ xs, G x) := by
 refine ⟨hc, fun enc w fuel cs x h hz => ?_⟩
 rcases Go.Deep.open_slice ht h with ⟨rfl, rfl⟩ | ⟨a, len, cap, m, n, D, Pl, rfl, _, hl, hm, hmc, rfl, hel⟩
 ·refine ⟨[], ⟨none, 0, rfl, Nat.le_refl _, ?_⟩, by simp [maxLen]⟩
  exact ⟨rfl, by simp, fun h => absurd h (by simp)⟩
 ·replace hmc : m = cap := by rw [hmc]; rfl
  subst hmc
  have hw : ∀ i, i < len → ∀ q ∈ (D i).weights P e, q ≤ 140737488351232 := by
   intro i hi q hq
   apply hz
   simp only [DataW.weights, ht, List.mem_cons, List.mem_append]
   right; left
   exact weightsAll_mem (d := D i) (List.mem_map.2 ⟨i, by simpa using hi, rfl⟩) q hq
  have hbig : (len + (m - len)) * B ≤ 140737488351232 := by
   apply hz
   simp only [DataW.weights, ht, List.mem_cons, List.length_map, List.length_range, hB]
   left; trivial
  obtain ⟨ys, hyl, hys⟩ := choose_list (Q := fun i y => ∃ c, w.cells? 0 (a.add (i * P.cellsOf e)) (P.cellsOf e) = some c ∧ d.K w y c ∧ G y) len (fun i hi => by
   obtain ⟨c, h1, h2⟩ := hel i (by omega)
   obtain ⟨y, hk, hg⟩ := hd.2 enc w _ _ _ h2 (hw i hi)
   exact ⟨y, c, h1, hk, hg⟩)
  refine ⟨ys, ⟨some a, m, by rw [hyl], by omega, ?_⟩, ?_, by omega, ?_⟩
  ·refine ⟨rfl, by unfold maxLen at hm; omega, fun _ => ⟨a, rfl, fun j p hj => ?_⟩⟩
   obtain ⟨c, h1, hk, hg⟩ := hys j p hj
   obtain ⟨_, h3, h4⟩ := World.cells?_some h1
   refine ⟨c, by rw [h3, hd.1], hk, fun i u hu => ?_⟩
   have hi : i < P.cellsOf e := by
    have := (List.getElem?_eq_some_iff.1 hu).1
    omega
   have h5 := h4 i hi
   rw [hu] at h5
   rw [← h5, ← hd.1]
   congr 1
   rw [Addr.add_add]
  ·rw [hyl]
   exact Nat.le_trans (Nat.mul_le_mul_right _ (by omega)) hbig
  ·intro y hy
   obtain ⟨i, hi⟩ := List.getElem?_of_mem hy
   obtain ⟨_, _, _, hg⟩ := hys i y hi
   exact hg
structure OpensFs (P : Program) (fs : List Field) (off : Nat) {α : Type} (d : Kd α) (G : α → Prop) : Prop where
 out : ∀ (H : Type) (enc : TypeId × Value → H) (w : World) (fuel : Nat) (cs : List Value) (xs : List (DataW H × List MemPlace)), cs.length = off + d.sz → xs.length = fs.length →
  (∀ (i : Nat) (f : Field), fs[i]? = some f → DataW.trod enc P w 0 (fun _ => true) true fuel f.type ((cs.drop f.offset).take (P.cellsOf f.type)) = xs[i]?) →
  (∀ n ∈ DataW.weightsEach P (fs.map (·.type)) (xs.map (·.1)), n ≤ 140737488351232) → ∃ y, d.K w y (cs.drop off) ∧ G y
theorem OpensFs.one {P : Program} {f : Field} {off : Nat} {α : Type} {d : Kd α} {G : α → Prop} (ho : f.offset = off) (hd : Opens P f.type d G) : OpensFs P [f] off d G := by
 refine ⟨fun H enc w fuel cs xs hl hx hf hz => ?_⟩
 have h0 := hf 0 f rfl
 obtain ⟨x, rfl⟩ : ∃ x, xs = [x] := by
  match xs, hx with
  | [x], _ => exact ⟨x, rfl⟩
 have h1 : (cs.drop f.offset).take (P.cellsOf f.type) = cs.drop off := by
  rw [ho, hd.1, List.take_of_length_le (by simp; omega)]
 rw [h1] at h0
 exact hd.2 enc w fuel _ x h0 (fun n hn => hz n (by simpa [DataW.weightsEach] using hn))
theorem OpensFs.cons {P : Program} {f : Field} {fs : List Field} {off : Nat} {α β : Type} {d : Kd α} {d2 : Kd β} {G : α → Prop} {G2 : β → Prop} (ho : f.offset = off) (hd : Opens P f.type d G) (h2 : OpensFs P fs (off + d.sz) d2 G2) :
 OpensFs P (f :: fs) off (Kd.pair d d2) (fun y => G y.1 ∧ G2 y.2) := by
 refine ⟨fun H enc w fuel cs xs hl hx hf hz => ?_⟩
 have hp : (Kd.pair d d2).sz = d.sz + d2.sz := rfl
 match xs, hx with
 | x :: xs, hx =>
  have h0 := hf 0 f rfl
  simp only [List.getElem?_cons_zero] at h0
  obtain ⟨y, hk, hg⟩ := hd.2 enc w fuel _ x h0 (fun n hn => hz n (by simp only [List.map_cons, DataW.weightsEach, List.mem_append]; exact Or.inl hn))
  obtain ⟨y2, hk2, hg2⟩ := h2.out H enc w fuel cs xs (by omega) (by simpa using hx) (fun i g hi => by simpa using hf (i + 1) g (by simpa using hi)) (fun n hn => hz n (by simp only [List.map_cons, DataW.weightsEach, List.mem_append]; exact Or.inr hn))
  refine ⟨(y, y2), ⟨_, _, ?_, hk, hk2⟩, hg, hg2⟩
  rw [ho, hd.1, ← List.drop_drop, List.take_append_drop]
theorem Opens.struct {P : Program} {t : TypeId} {fs : Array Field} {α : Type} {d : Kd α} {G : α → Prop} (ht : P.underlying t = some (.struct fs)) (hc : P.cellsOf t = d.sz) (hf : OpensFs P fs.toList 0 d G) : Opens P t d G := by
 refine ⟨hc, fun enc w fuel cs x h hz => ?_⟩
 obtain ⟨xs, n, rfl, rfl, hl, hx, hi⟩ := DataW.trod_struct ht h
 have := hf.out _ enc w n cs xs (by omega) (by simpa using hx) (fun i f h => hi i f (by simpa using h)) (fun q hq => hz q (by simpa [DataW.weights, ht] using hq))
 simpa using this
theorem Opens.iso {P : Program} {t : TypeId} {α β : Type} {d : Kd α} {G : α → Prop} (f : β → α) (g : α → β) (hg : ∀ y, f (g y) = y) (h : Opens P t d G) : Opens P t (Kd.iso d f) (fun x => G (f x)) := by
 refine ⟨h.1, fun enc w fuel cs x hx hz => ?_⟩
 obtain ⟨y, hk, hy⟩ := h.2 enc w fuel cs x hx hz
 exact ⟨g y, by show d.K w (f (g y)) cs; rw [hg]; exact hk, by show G (f (g y)); rw [hg]; exact hy⟩
theorem Opens.imp {P : Program} {t : TypeId} {α : Type} {d : Kd α} {G G' : α → Prop} (h : Opens P t d G) (hG : ∀ y, G y → G' y) : Opens P t d G' :=
 ⟨h.1, fun enc w fuel cs x hx hz => by
  obtain ⟨y, hk, hy⟩ := h.2 enc w fuel cs x hx hz
  exact ⟨y, hk, hG y hy⟩⟩
theorem Opens.arg {P : Program} {t : TypeId} {α : Type} {d : Kd α} {G : α → Prop} (h : Opens P t d G) {H : Type} {enc : TypeId × Value → H} {w : World} {v : Value} {x : DataW H} {ps : List MemPlace} (ht : DataW.Trod enc P w 0 (fun _ => true) true t v x ps)
 {ts : List TypeId} {ds : List (DataW H)} (hsz : (DataW.weightsEach P ts ds).all (· ≤ reachBytes) = true) {j : Nat} (h1 : ts[j]? = some t) (h2 : ds[j]? = some x) : ∃ y, d.K w y v.cells.toList ∧ G y := by
 obtain ⟨fuel, hf⟩ := ht
 refine h.2 enc w fuel _ _ hf (fun n hn => ?_)
 have := List.all_eq_true.1 hsz _ (DataW.weights_mem_each h1 h2 n hn)
 exact zB this
end Go.Proofs.YtniknpjeknmpjaaGreatDoor.Open
namespace Go.Proofs.YtniknpjeknmpjaaGreatDoor.Q
open Go.RowKit Go.Proofs.YtniknpjeknmpjaaGreatDoorW.PrintWords Go.Proofs.YtniknpjeknmpjaaGreatDoorW.PrintLast Go.Proofs.YtniknpjeknmpjaaGreatDoorW.PrintMore
attribute [local go_sem] max2_int min2_int max_two min_two max_three min_three max_four min_four
set_option linter.unusedVariables false
set_option linter.unusedSimpArgs false
def errW : Option Int → Value
 | none => .nilIface
 | some c => .iface 147 (.int .i64 c)
theorem errW_none : errW none = .nilIface := rfl
theorem errW_some (c : Int) : errW (some c) = .iface 147 (.int .i64 c) := rfl
theorem info3 : (Tryz.prog.info? 3).map (fun i => (i.zero, i.size, i.bytes)) = some (some (.int .i64 0), 1, 8) := by kernel_rfl
theorem info9 : (Tryz.prog.info? 9).map (fun i => (i.zero, i.size, i.bytes)) = some (some (.string ⟨#[]⟩), 1, 16) := by kernel_rfl
-- the values' own types

structure SIns where
 f0 : Int
 f1 : Int
 f2 : Int
 f3 : Int
 f4 : ByteArray
 f5 : (List Int)
def zIns : SIns := ⟨(0 : Int), (0 : Int), (0 : Int), (0 : Int), (⟨#[]⟩ : ByteArray), ([] : List Int)⟩
def kIns : Kd SIns := Kd.iso (Kd.pair (Kd.int .i64) (Kd.pair (Kd.int .i64) (Kd.pair (Kd.int .i64) (Kd.pair (Kd.int .i64) (Kd.pair Kd.string (Kd.slice 3 (Kd.int .i64))))))) (fun x : SIns => (x.f0, x.f1, x.f2, x.f3, x.f4, x.f5))
theorem kIns_open {w : World} {x : SIns} {cs : List Value} (h : kIns.K w x cs) : ∃ A5 c5, cs = [.int .i64 x.f0, .int .i64 x.f1, .int .i64 x.f2, .int .i64 x.f3, .string x.f4, .slice A5 x.f5.length c5] ∧ x.f5.length ≤ c5 ∧ (Kd.int .i64).C w A5 x.f5.length x.f5 := by
 obtain ⟨_, _, rfl, rfl, ⟨_, _, rfl, rfl, ⟨_, _, rfl, rfl, ⟨_, _, rfl, rfl, ⟨_, _, rfl, rfl, ⟨A5, c5, rfl, l5, g5⟩⟩⟩⟩⟩⟩ := h
 exact ⟨A5, c5, rfl, l5, g5⟩
theorem kIns_mkM (w : World) (base : Nat) (ok : Nat → Prop) (x : SIns) {v5 : Value} (g5 : (Kd.int .i64).R 3 w base ok v5 x.f5) : kIns.M w base ok x [.int .i64 x.f0, .int .i64 x.f1, .int .i64 x.f2, .int .i64 x.f3, .string x.f4, v5] := ⟨[.int .i64 x.f0], [.int .i64 x.f1, .int .i64 x.f2, .int .i64 x.f3, .string x.f4, v5], rfl, rfl, ⟨[.int .i64 x.f1], [.int .i64 x.f2, .int .i64 x.f3, .string x.f4, v5], rfl, rfl, ⟨[.int .i64 x.f2], [.int .i64 x.f3, .string x.f4, v5], rfl, rfl, ⟨[.int .i64 x.f3], [.string x.f4, v5], rfl, rfl, ⟨[.string x.f4], [v5], rfl, rfl, ⟨v5, rfl, g5⟩⟩⟩⟩⟩⟩
def rd_TIns (xs : List SIns) (i : Int) : SIns := xs.getD i.toNat zIns
theorem at_TIns {w : World} {A : Option Addr} {n : Nat} {xs : List SIns} (h : Kd.C kIns w A n xs) (i : Int) (h0 : 0 ≤ i) (h1 : i < n) : ∃ ad A5 c5, A = some ad ∧ w.cell? (ad.add (i.toNat * 6)) = some (.int .i64 (rd_TIns xs i).f0) ∧ w.cell? ⟨(ad.add (i.toNat * 6)).block, (ad.add (i.toNat * 6)).off + 1, none⟩ = some (.int .i64 (rd_TIns xs i).f1) ∧ w.cell? ⟨(ad.add (i.toNat * 6)).block, (ad.add (i.toNat * 6)).off + 2, none⟩ = some (.int .i64 (rd_TIns xs i).f2) ∧ w.cell? ⟨(ad.add (i.toNat * 6)).block, (ad.add (i.toNat * 6)).off + 3, none⟩ = some (.int .i64 (rd_TIns xs i).f3) ∧ w.cell? ⟨(ad.add (i.toNat * 6)).block, (ad.add (i.toNat * 6)).off + 4, none⟩ = some (.string (rd_TIns xs i).f4) ∧ w.cell? ⟨(ad.add (i.toNat * 6)).block, (ad.add (i.toNat * 6)).off + 5, none⟩ = some (.slice A5 (rd_TIns xs i).f5.length c5) ∧ (rd_TIns xs i).f5.length ≤ c5 ∧ (Kd.int .i64).C w A5 (rd_TIns xs i).f5.length (rd_TIns xs i).f5 := by
 obtain ⟨ad, c, e, _, hK, hc0⟩ := Kd.C_get h zIns i h0 h1
 have hc : ∀ j u, c[j]? = some u → w.cell? (ad.add (i.toNat * 6 + j)) = some u := hc0
 obtain ⟨A5, c5, rfl, l5, g5⟩ := kIns_open hK
 exact ⟨ad, A5, c5, e, hc 0 _ rfl, by rw [← add_field _ _ 1 (by omega)]; exact hc 1 _ rfl, by rw [← add_field _ _ 2 (by omega)]; exact hc 2 _ rfl, by rw [← add_field _ _ 3 (by omega)]; exact hc 3 _ rfl, by rw [← add_field _ _ 4 (by omega)]; exact hc 4 _ rfl, by rw [← add_field _ _ 5 (by omega)]; exact hc 5 _ rfl, l5, g5⟩
def rd_LIns (xs : List (List SIns)) (i : Int) : (List SIns) := xs.getD i.toNat ([] : List SIns)
theorem at_LIns {w : World} {A : Option Addr} {n : Nat} {xs : List (List SIns)} (h : Kd.C (Kd.slice 44 kIns) w A n xs) (i : Int) (h0 : 0 ≤ i) (h1 : i < n) : ∃ ad A0 c0, A = some ad ∧ w.cell? (ad.add i.toNat) = some (.slice A0 (rd_LIns xs i).length c0) ∧ (rd_LIns xs i).length ≤ c0 ∧ kIns.C w A0 (rd_LIns xs i).length (rd_LIns xs i) := by
 obtain ⟨ad, c, e, _, hK, hc0⟩ := Kd.C_get h ([] : List SIns) i h0 h1
 have hc : ∀ j u, c[j]? = some u → w.cell? (ad.add (i.toNat * 1 + j)) = some u := hc0
 obtain ⟨A0, c0, rfl, l0, g0⟩ := hK
 exact ⟨ad, A0, c0, e, by have hq := hc 0 _ rfl; rwa [Nat.mul_one, Nat.add_zero] at hq, l0, g0⟩


end Go.Proofs.YtniknpjeknmpjaaGreatDoor.Q
namespace Go.Proofs.YtniknpjeknmpjaaGreatDoor.Q
open Go.RowKit Go.Proofs.YtniknpjeknmpjaaGreatDoorW.PrintWords Go.Proofs.YtniknpjeknmpjaaGreatDoorW.PrintLast Go.Proofs.YtniknpjeknmpjaaGreatDoorW.PrintMore
set_option linter.unusedVariables false
section
variable {P Q : Prop}
theorem qB (h : P := by repeat (first | (with_reducible first | exact HB.out | apply below_alloc | apply pw_below_drewN | apply below_drew1 | refine below_set ?_ (Aside0.out (by assumption))) | exact HB.out)) : P := h
theorem qA (h : P := by first | (with_reducible assumption) | assumption) : P := h
theorem qE (h : P := by first | rfl | (simp [errW_none, errW_some] <;> rfl) | (simp [*, errW_none, errW_some] <;> rfl)) : P := h
theorem qT (h : P := by first | rfl | (simp; done) | (simp [*]; done)) : P := h
theorem qO (h : P := by first | omega | exact Nat.le_refl _) : P := h
theorem qD (h : P := by repeat (first | exact Drawn0.refl _ | apply Drawn0.step)) : P := h
theorem qL (h : P := by (try simp only [List.map_toArray, List.map_cons, List.map_nil]); first | done | rfl | (simp only [List.length_drop, List.length_take]; rfl)) : P := h
theorem qK (q : Q) (h : Q → P := by intro h_; (with_reducible repeat (first | refine blk_drewN ?_ _ | refine blk_drew ?_ | refine blk_alloc ?_ _)); exact h_) : P := h q
theorem qR (q : Q) (h : Q → P := by intro h_; (with_reducible repeat (first | apply Kd.R_alloc | apply Kd.R_drewN | apply Kd.R_drew)); exact h_) : P := h q
theorem qCB (q : Q) (h : Q → P := by intro h_; repeat (first | exact (Kd.C_below h_ HB.out) | (with_reducible refine Kd.C_alloc ?_ _) | (with_reducible refine Kd.C_drewN ?_ _) | (with_reducible refine Kd.C_drew ?_))) : P := h q
end
theorem qW {w0 w w1 : World} {g : Nat} {o : Obj} (bk : Aside0 (w0.heap[g]? = some o)) (hb : Below w.heap.size w w1) (h : w0.heap[g]? = some o → w.heap[g]? = some o := by intro h_; (with_reducible repeat (first | refine blk_drewN ?_ _ | refine blk_drew ?_ | refine blk_alloc ?_ _)); exact h_) : Aside0 (w1.heap[g]? = some o) := ⟨blk_below (h bk.out) hb⟩
theorem qH {w W w2 : World} (hb : Below W.heap.size W w2) (h : Below w.heap.size w W := by repeat (first | (with_reducible first | exact HB.out | apply below_alloc | apply pw_below_drewN | apply below_drew1 | refine below_set ?_ (Aside0.out (by assumption))) | exact HB.out)) : Aside0 (Below w.heap.size w w2) := ⟨below_step h hb⟩
theorem qG {w W : World} {g : Nat} (hg : g = W.heap.size) (h : Below w.heap.size w W := by repeat (first | (with_reducible first | exact HB.out | apply below_alloc | apply pw_below_drewN | apply below_drew1 | refine below_set ?_ (Aside0.out (by assumption))) | exact HB.out)) : Aside0 (w.heap.size ≤ g) := ⟨by rw [hg]; exact below_size h⟩
theorem qb {α β : Type} {x : Option α} {f : α → Option β} {r : β} (h : x.bind f = some r) : ∃ t, Aside0 (x = some t) ∧ f t = some r := by
 obtain ⟨t, h1, h2⟩ := Option.bind_eq_some_iff.mp h
 exact ⟨t, ⟨h1⟩, h2⟩
theorem qe {α : Type} [BEq α] [LawfulBEq α] {a b : α} (h : a = b) : (a == b) = true ∧ (a != b) = false := ⟨beq_iff_eq.mpr h, bne_eq_false_iff_eq.mpr h⟩
theorem qn {α : Type} [BEq α] [LawfulBEq α] {a b : α} (h : ¬ a = b) : (a == b) = false ∧ (a != b) = true := ⟨beq_eq_false_iff_ne.mpr h, bne_iff_ne.mpr h⟩
theorem bk1 {w : World} {g : Nat} {t : TypeId} {c0 : Value} (h : w.heap[g]? = some (.cells #[c0] t (0, 0))) : w.cell? ⟨g, 0, none⟩ = some c0 ∧ w.frozen? ⟨g, 0, none⟩ = false := ⟨(blk_cell h 0).trans rfl, blk_frozen h 0⟩
theorem bk3 {w : World} {g : Nat} {t : TypeId} {c0 c1 c2 : Value} (h : w.heap[g]? = some (.cells #[c0, c1, c2] t (0, 0))) : w.cell? ⟨g, 0, none⟩ = some c0 ∧ w.cell? ⟨g, 1, none⟩ = some c1 ∧ w.cell? ⟨g, 2, none⟩ = some c2 ∧ w.frozen? ⟨g, 0, none⟩ = false ∧ w.frozen? ⟨g, 1, none⟩ = false ∧ w.frozen? ⟨g, 2, none⟩ = false := ⟨(blk_cell h 0).trans rfl, (blk_cell h 1).trans rfl, (blk_cell h 2).trans rfl, blk_frozen h 0, blk_frozen h 1, blk_frozen h 2⟩
theorem bk4 {w : World} {g : Nat} {t : TypeId} {c0 c1 c2 c3 : Value} (h : w.heap[g]? = some (.cells #[c0, c1, c2, c3] t (0, 0))) : w.cell? ⟨g, 0, none⟩ = some c0 ∧ w.cell? ⟨g, 1, none⟩ = some c1 ∧ w.cell? ⟨g, 2, none⟩ = some c2 ∧ w.cell? ⟨g, 3, none⟩ = some c3 ∧ w.frozen? ⟨g, 0, none⟩ = false ∧ w.frozen? ⟨g, 1, none⟩ = false ∧ w.frozen? ⟨g, 2, none⟩ = false ∧ w.frozen? ⟨g, 3, none⟩ = false := ⟨(blk_cell h 0).trans rfl, (blk_cell h 1).trans rfl, (blk_cell h 2).trans rfl, (blk_cell h 3).trans rfl, blk_frozen h 0, blk_frozen h 1, blk_frozen h 2, blk_frozen h 3⟩
theorem bk6 {w : World} {g : Nat} {t : TypeId} {c0 c1 c2 c3 c4 c5 : Value} (h : w.heap[g]? = some (.cells #[c0, c1, c2, c3, c4, c5] t (0, 0))) : w.cell? ⟨g, 0, none⟩ = some c0 ∧ w.cell? ⟨g, 1, none⟩ = some c1 ∧ w.cell? ⟨g, 2, none⟩ = some c2 ∧ w.cell? ⟨g, 3, none⟩ = some c3 ∧ w.cell? ⟨g, 4, none⟩ = some c4 ∧ w.cell? ⟨g, 5, none⟩ = some c5 ∧ w.frozen? ⟨g, 0, none⟩ = false ∧ w.frozen? ⟨g, 1, none⟩ = false ∧ w.frozen? ⟨g, 2, none⟩ = false ∧ w.frozen? ⟨g, 3, none⟩ = false ∧ w.frozen? ⟨g, 4, none⟩ = false ∧ w.frozen? ⟨g, 5, none⟩ = false := ⟨(blk_cell h 0).trans rfl, (blk_cell h 1).trans rfl, (blk_cell h 2).trans rfl, (blk_cell h 3).trans rfl, (blk_cell h 4).trans rfl, (blk_cell h 5).trans rfl, blk_frozen h 0, blk_frozen h 1, blk_frozen h 2, blk_frozen h 3, blk_frozen h 4, blk_frozen h 5⟩
def bA (n m : Nat) : Array Bool := ((List.range n).map m.testBit).toArray
section
variable {P : Program} {ops : Array Oper} {Q : Exit → Act → World → Prop} {md : Region.Mode} {S : World → Prop} {ds : List Nat}
theorem pu_ {i : Nat} {N : Option Tmp} {oi : Oper} {v : Value} {fuel : Nat} {l : Array Bool} {a a' : Act} {w : World} (l' : Array Bool) (h : wpAnyLast P md ops Q S ds fuel l' a' w) (hi : ops[i]? = some oi := by rfl) (hN : oi.dst = N := by rfl) (hc : anyB md ops l l' i = true := by exact any_of HT_.out (by kernel_rfl)) (hQ : ∀ c a w, Q (.panic c) (a.put oi.dst v) w → Q (.panic c) a w := by exact fun _ _ _ h => h) (hy : Yields P ops oi v a := by exact Or.inl ⟨by rfl, by intro w'; first | (go_simp; done) | (go_simp; with_reducible rfl)⟩) (ha : a.put N v = a' := by (conv => lhs; simp only [Act.put, List.setIfInBounds_toArray, List.set_cons_zero, List.set_cons_succ, i64_w, i32_w]); try rfl) : wpAnyLast P md ops Q S ds (fuel + 1) l a w := pure_ l' hi hN hc hQ hy ha h
theorem tk_ {i : Nat} {N : Option Tmp} {oi : Oper} {v : Value} {fuel : Nat} {l : Array Bool} {a a' : Act} {w : World} (l' : Array Bool) (h : wpAnyLast P md ops Q S ds fuel l' a' w) (hi : ops[i]? = some oi := by rfl) (hN : oi.dst = N := by rfl) (hc : takeB md ops ds l l' i = true := by exact take_ofW HT_.out HW_.out (by kernel_rfl)) (hQ : ∀ c a w, Q (.panic c) (a.put oi.dst v) w → Q (.panic c) a w := by exact fun _ _ _ h => h) (hy : YieldsIf P ops S oi v a := by refine Or.inl ⟨by rfl, ?_⟩; intro w' s_; repeat (obtain ⟨s0_, s_⟩ : _ ∧ _ := s_); first | (go_simp; done) | (go_simp; with_reducible rfl)) (hS : S w := by exact hHeld) (ha : a.put N v = a' := by (conv => lhs; simp only [Act.put, List.setIfInBounds_toArray, List.set_cons_zero, List.set_cons_succ, i64_w, i32_w]); try rfl) : wpAnyLast P md ops Q S ds (fuel + 1) l a w := take_ l' hi hN hc hQ hy hS ha h
end
end Go.Proofs.YtniknpjeknmpjaaGreatDoor.Q
namespace Go.Proofs
open Go.Shelf
def Tryz.lays160_ren : Go.Shelf.Ren := ⟨fun | 160 => 57 | 232 => 72 | 231 => 71 | 227 => 73 | 234 => 75 | 233 => 74 | 236 => 77 | 235 => 76 | 228 => 86 | 271 => 89 | 151 => 88 | 197 => 87 | 120 => 102 | 152 => 101 | 260 => 100 | 137 => 61 | 119 => 116 | 224 => 109 | 225 => 108 | 217 => 79 | 266 => 94 | n => n, fun | 9 => 9 | 4 => 4 | 3 => 3 | 5 => 5 | 117 => 119 | 116 => 118 | 0 => 0 | 124 => 122 | 21 => 21 | 105 => 128 | 46 => 145 | 119 => 153 | 139 => 156 | 138 => 155 | n => n, fun | 3 => 2 | 4 => 3 | n => n⟩
theorem Tryz.lays160 : Go.Proofs.Lays.n160 Tryz.prog Tryz.lays160_ren := {
 mixed := by kernel_rfl
 f119 := Tryz.func116.trans (congrArg some (by kernel_rfl))
 f120 := Tryz.func102.trans (congrArg some (by kernel_rfl))
 f137 := Tryz.func61.trans (congrArg some (by kernel_rfl))
 f151 := Tryz.func88.trans (congrArg some (by kernel_rfl))
 f152 := Tryz.func101.trans (congrArg some (by kernel_rfl))
 f160 := Tryz.func57.trans (congrArg some (by kernel_rfl))
 f197 := Tryz.func87.trans (congrArg some (by kernel_rfl))
 f217 := Tryz.func79.trans (congrArg some (by kernel_rfl))
 f224 := Tryz.func109.trans (congrArg some (by kernel_rfl))
 f225 := Tryz.func108.trans (congrArg some (by kernel_rfl))
 f227 := Tryz.func73.trans (congrArg some (by kernel_rfl))
 f228 := Tryz.func86.trans (congrArg some (by kernel_rfl))
 f231 := Tryz.func71.trans (congrArg some (by kernel_rfl))
 f232 := Tryz.func72.trans (congrArg some (by kernel_rfl))
 f233 := Tryz.func74.trans (congrArg some (by kernel_rfl))
 f234 := Tryz.func75.trans (congrArg some (by kernel_rfl))
 f235 := Tryz.func76.trans (congrArg some (by kernel_rfl))
 f236 := Tryz.func77.trans (congrArg some (by kernel_rfl))
 f260 := Tryz.func100.trans (congrArg some (by kernel_rfl))
 f266 := Tryz.func94.trans (congrArg some (by kernel_rfl))
 f271 := Tryz.func89.trans (congrArg some (by kernel_rfl))
 t0 := Tryz.underlying0
 a0 := Tryz.isAgg0
 z0 := Tryz.sizeOf0
 v0 := Tryz.zeroValue0
 t3 := Tryz.underlying3
 a3 := Tryz.isAgg3
 z3 := Tryz.sizeOf3
 v3 := Tryz.zeroValue3
 t4 := Tryz.underlying4
 a4 := Tryz.isAgg4
 z4 := Tryz.sizeOf4
 v4 := Tryz.zeroValue4
 t5 := Tryz.underlying5
 a5 := Tryz.isAgg5
 z5 := Tryz.sizeOf5
 v5 := Tryz.zeroValue5
 t9 := Tryz.underlying9
 a9 := Tryz.isAgg9
 z9 := Tryz.sizeOf9
 v9 := Tryz.zeroValue9
 t21 := Tryz.underlying21
 a21 := Tryz.isAgg21
 z21 := Tryz.sizeOf21
 v21 := Tryz.zeroValue21
 t46 := Tryz.underlying145
 a46 := Tryz.isAgg145
 z46 := Tryz.sizeOf145
 v46 := Tryz.zeroValue145
 t105 := Tryz.underlying128
 a105 := Tryz.isAgg128
 z105 := Tryz.sizeOf128
 v105 := Tryz.zeroValue128
 t116 := Tryz.underlying118
 a116 := Tryz.isAgg118
 z116 := Tryz.sizeOf118
 t117 := Tryz.underlying119
 a117 := Tryz.isAgg119
 z117 := Tryz.sizeOf119
 v117 := Tryz.zeroValue119
 t119 := Tryz.underlying153
 a119 := Tryz.isAgg153
 z119 := Tryz.sizeOf153
 t124 := Tryz.underlying122
 a124 := Tryz.isAgg122
 z124 := Tryz.sizeOf122
 v124 := Tryz.zeroValue122
 t138 := Tryz.underlying155
 a138 := Tryz.isAgg155
 z138 := Tryz.sizeOf155
 v138 := Tryz.zeroValue155
 t139 := Tryz.underlying156
 a139 := Tryz.isAgg156
 z139 := Tryz.sizeOf156
 v139 := Tryz.zeroValue156
 g3 := by kernel_rfl
 g4 := by kernel_rfl }
def Tryz.lays156_ren : Go.Shelf.Ren := ⟨fun | 156 => 29 | 165 => 56 | 166 => 28 | 169 => 36 | 240 => 55 | 241 => 70 | 276 => 69 | 277 => 85 | n => n, fun | 31 => 70 | 9 => 9 | 3 => 3 | 4 => 4 | 0 => 0 | 20 => 20 | 72 => 49 | 76 => 73 | 70 => 46 | 37 => 47 | 75 => 72 | 127 => 105 | 164 => 114 | 5 => 5 | 80 => 53 | n => n, fun | n => n⟩
theorem Tryz.lays156 : Go.Proofs.Lays.n156 Tryz.prog Tryz.lays156_ren := {
 mixed := by kernel_rfl
 f156 := Tryz.func29.trans (congrArg some (by kernel_rfl))
 f165 := Tryz.func56.trans (congrArg some (by kernel_rfl))
 f166 := Tryz.func28.trans (congrArg some (by kernel_rfl))
 f169 := Tryz.func36.trans (congrArg some (by kernel_rfl))
 f240 := Tryz.func55.trans (congrArg some (by kernel_rfl))
 f241 := Tryz.func70.trans (congrArg some (by kernel_rfl))
 f276 := Tryz.func69.trans (congrArg some (by kernel_rfl))
 f277 := Tryz.func85.trans (congrArg some (by kernel_rfl))
 t0 := Tryz.underlying0
 a0 := Tryz.isAgg0
 z0 := Tryz.sizeOf0
 v0 := Tryz.zeroValue0
 t3 := Tryz.underlying3
 a3 := Tryz.isAgg3
 z3 := Tryz.sizeOf3
 v3 := Tryz.zeroValue3
 t4 := Tryz.underlying4
 a4 := Tryz.isAgg4
 z4 := Tryz.sizeOf4
 v4 := Tryz.zeroValue4
 t9 := Tryz.underlying9
 a9 := Tryz.isAgg9
 z9 := Tryz.sizeOf9
 v9 := Tryz.zeroValue9
 t20 := Tryz.underlying20
 a20 := Tryz.isAgg20
 z20 := Tryz.sizeOf20
 v20 := Tryz.zeroValue20
 t31 := Tryz.underlying70
 a31 := Tryz.isAgg70
 z31 := Tryz.sizeOf70
 v31 := Tryz.zeroValue70
 t37 := Tryz.underlying47
 a37 := Tryz.isAgg47
 z37 := Tryz.sizeOf47
 v37 := Tryz.zeroValue47
 t70 := Tryz.underlying46
 a70 := Tryz.isAgg46
 z70 := Tryz.sizeOf46
 v70 := Tryz.zeroValue46
 t72 := Tryz.underlying49
 a72 := Tryz.isAgg49
 z72 := Tryz.sizeOf49
 v72 := Tryz.zeroValue49
 t75 := Tryz.underlying72
 a75 := Tryz.isAgg72
 z75 := Tryz.sizeOf72
 v75 := Tryz.zeroValue72
 t76 := Tryz.underlying73
 a76 := Tryz.isAgg73
 z76 := Tryz.sizeOf73
 v76 := Tryz.zeroValue73
 t127 := Tryz.underlying105
 a127 := Tryz.isAgg105
 z127 := Tryz.sizeOf105
 v127 := Tryz.zeroValue105
 t164 := Tryz.underlying114
 a164 := Tryz.isAgg114
 z164 := Tryz.sizeOf114
 v164 := Tryz.zeroValue114 }
def Tryz.lays104_ren : Go.Shelf.Ren := ⟨fun | 104 => 47 | 211 => 62 | 207 => 80 | n => n, fun | 9 => 9 | 4 => 4 | 24 => 89 | 3 => 3 | n => n, fun | n => n⟩
theorem Tryz.lays104 : Go.Proofs.Lays.n104 Tryz.prog Tryz.lays104_ren := {
 mixed := by kernel_rfl
 f104 := Tryz.func47.trans (congrArg some (by kernel_rfl))
 f207 := Tryz.func80.trans (congrArg some (by kernel_rfl))
 f211 := Tryz.func62.trans (congrArg some (by kernel_rfl))
 t3 := Tryz.underlying3
 a3 := Tryz.isAgg3
 z3 := Tryz.sizeOf3
 v3 := Tryz.zeroValue3
 t4 := Tryz.underlying4
 a4 := Tryz.isAgg4
 z4 := Tryz.sizeOf4
 v4 := Tryz.zeroValue4
 t9 := Tryz.underlying9
 a9 := Tryz.isAgg9
 z9 := Tryz.sizeOf9
 v9 := Tryz.zeroValue9
 t24 := Tryz.underlying89
 a24 := Tryz.isAgg89
 z24 := Tryz.sizeOf89
 v24 := Tryz.zeroValue89 }
def Tryz.lays100_ren : Go.Shelf.Ren := ⟨fun | 100 => 66 | 207 => 80 | n => n, fun | 9 => 9 | 4 => 4 | 3 => 3 | n => n, fun | n => n⟩
theorem Tryz.lays100 : Go.Proofs.Lays.n100 Tryz.prog Tryz.lays100_ren := {
 mixed := by kernel_rfl
 f100 := Tryz.func66.trans (congrArg some (by kernel_rfl))
 f207 := Tryz.func80.trans (congrArg some (by kernel_rfl))
 t3 := Tryz.underlying3
 a3 := Tryz.isAgg3
 z3 := Tryz.sizeOf3
 v3 := Tryz.zeroValue3
 t4 := Tryz.underlying4
 a4 := Tryz.isAgg4
 z4 := Tryz.sizeOf4
 v4 := Tryz.zeroValue4
 t9 := Tryz.underlying9
 a9 := Tryz.isAgg9
 z9 := Tryz.sizeOf9
 v9 := Tryz.zeroValue9 }
def Tryz.lays137_ren : Go.Shelf.Ren := ⟨fun | 137 => 61 | 217 => 79 | 266 => 94 | n => n, fun | 9 => 9 | 5 => 5 | 3 => 3 | n => n, fun | n => n⟩
theorem Tryz.lays137 : Go.Proofs.Lays.n137 Tryz.prog Tryz.lays137_ren := {
 mixed := by kernel_rfl
 f137 := Tryz.func61.trans (congrArg some (by kernel_rfl))
 f217 := Tryz.func79.trans (congrArg some (by kernel_rfl))
 f266 := Tryz.func94.trans (congrArg some (by kernel_rfl))
 t3 := Tryz.underlying3
 a3 := Tryz.isAgg3
 z3 := Tryz.sizeOf3
 v3 := Tryz.zeroValue3
 t5 := Tryz.underlying5
 a5 := Tryz.isAgg5
 z5 := Tryz.sizeOf5
 v5 := Tryz.zeroValue5
 t9 := Tryz.underlying9
 a9 := Tryz.isAgg9
 z9 := Tryz.sizeOf9
 v9 := Tryz.zeroValue9 }
def Tryz.lays146_ren : Go.Shelf.Ren := ⟨fun | 146 => 48 | 221 => 63 | 268 => 81 | 138 => 82 | 143 => 83 | 195 => 95 | 197 => 87 | 218 => 96 | 219 => 97 | 260 => 100 | 217 => 79 | 225 => 108 | 224 => 109 | 267 => 110 | 266 => 94 | 314 => 119 | n => n, fun | 9 => 9 | 31 => 70 | 3 => 3 | 4 => 4 | 0 => 0 | 105 => 128 | 21 => 21 | 5 => 5 | 46 => 145 | 119 => 153 | 139 => 156 | 138 => 155 | 146 => 159 | 51 => 143 | n => n, fun | 1 => 0 | 3 => 2 | 4 => 3 | n => n⟩
theorem Tryz.lays146 : Go.Proofs.LaysM.n146 Tryz.prog Tryz.lays146_ren := {
 mixed := by kernel_rfl
 f138 := Tryz.func82.trans (congrArg some (by kernel_rfl))
 f143 := Tryz.func83.trans (congrArg some (by kernel_rfl))
 f146 := Tryz.func48.trans (congrArg some (by kernel_rfl))
 f195 := Tryz.func95.trans (congrArg some (by kernel_rfl))
 f197 := Tryz.func87.trans (congrArg some (by kernel_rfl))
 f217 := Tryz.func79.trans (congrArg some (by kernel_rfl))
 f218 := Tryz.func96.trans (congrArg some (by kernel_rfl))
 f219 := Tryz.func97.trans (congrArg some (by kernel_rfl))
 f221 := Tryz.func63.trans (congrArg some (by kernel_rfl))
 f224 := Tryz.func109.trans (congrArg some (by kernel_rfl))
 f225 := Tryz.func108.trans (congrArg some (by kernel_rfl))
 f260 := Tryz.func100.trans (congrArg some (by kernel_rfl))
 f266 := Tryz.func94.trans (congrArg some (by kernel_rfl))
 f267 := Tryz.func110.trans (congrArg some (by kernel_rfl))
 f268 := Tryz.func81.trans (congrArg some (by kernel_rfl))
 f314 := Tryz.func119.trans (congrArg some (by kernel_rfl))
 t0 := Tryz.underlying0
 a0 := Tryz.isAgg0
 z0 := Tryz.sizeOf0
 v0 := Tryz.zeroValue0
 t3 := Tryz.underlying3
 a3 := Tryz.isAgg3
 z3 := Tryz.sizeOf3
 v3 := Tryz.zeroValue3
 t4 := Tryz.underlying4
 a4 := Tryz.isAgg4
 z4 := Tryz.sizeOf4
 v4 := Tryz.zeroValue4
 t5 := Tryz.underlying5
 a5 := Tryz.isAgg5
 z5 := Tryz.sizeOf5
 v5 := Tryz.zeroValue5
 t9 := Tryz.underlying9
 a9 := Tryz.isAgg9
 z9 := Tryz.sizeOf9
 v9 := Tryz.zeroValue9
 t21 := Tryz.underlying21
 a21 := Tryz.isAgg21
 z21 := Tryz.sizeOf21
 v21 := Tryz.zeroValue21
 t31 := Tryz.underlying70
 a31 := Tryz.isAgg70
 z31 := Tryz.sizeOf70
 v31 := Tryz.zeroValue70
 t46 := Tryz.underlying145
 a46 := Tryz.isAgg145
 z46 := Tryz.sizeOf145
 v46 := Tryz.zeroValue145
 t51 := Tryz.underlying143
 a51 := Tryz.isAgg143
 z51 := Tryz.sizeOf143
 v51 := Tryz.zeroValue143
 t105 := Tryz.underlying128
 a105 := Tryz.isAgg128
 z105 := Tryz.sizeOf128
 v105 := Tryz.zeroValue128
 t119 := Tryz.underlying153
 a119 := Tryz.isAgg153
 z119 := Tryz.sizeOf153
 t138 := Tryz.underlying155
 a138 := Tryz.isAgg155
 z138 := Tryz.sizeOf155
 v138 := Tryz.zeroValue155
 t139 := Tryz.underlying156
 a139 := Tryz.isAgg156
 z139 := Tryz.sizeOf156
 v139 := Tryz.zeroValue156
 t146 := Tryz.underlying159
 a146 := Tryz.isAgg159
 z146 := Tryz.sizeOf159
 v146 := Tryz.zeroValue159
 g1 := by kernel_rfl
 g3 := by kernel_rfl
 g4 := by kernel_rfl
 i0 := by kernel_rfl
 i3 := by kernel_rfl
 i4 := by kernel_rfl
 i5 := by kernel_rfl
 i9 := by kernel_rfl
 i21 := by kernel_rfl
 i31 := by kernel_rfl
 i46 := by kernel_rfl
 i51 := by kernel_rfl
 i105 := by kernel_rfl
 i138 := by kernel_rfl
 i139 := by kernel_rfl
 i146 := by kernel_rfl
 m1 := by kernel_rfl
 s1_3 := fun w h => Go.Proofs.cell_of_shapedOpen_int (zero := #[.int .i64 0]) (t := 3) h (zB (by kernel_rfl)) (by kernel_rfl) rfl (by kernel_rfl) (by kernel_rfl) Tryz.underlying3
 m3 := by kernel_rfl
 m4 := by kernel_rfl }
def Tryz.lays172_ren : Go.Shelf.Ren := ⟨fun | 172 => 84 | 244 => 98 | 245 => 99 | 247 => 111 | 279 => 112 | 280 => 113 | 281 => 114 | 282 => 115 | 287 => 120 | 316 => 121 | 171 => 34 | 205 => 122 | 321 => 123 | 322 => 124 | 243 => 58 | 246 => 78 | 283 => 90 | 284 => 91 | 285 => 92 | 286 => 93 | 129 => 104 | 317 => 103 | 318 => 105 | 319 => 106 | 320 => 107 | 337 => 117 | 338 => 118 | n => n, fun | 9 => 9 | 3 => 3 | 75 => 72 | 76 => 73 | 4 => 4 | 5 => 5 | 167 => 147 | 37 => 47 | 0 => 0 | 85 => 148 | 2 => 2 | 168 => 150 | 53 => 132 | 175 => 161 | 46 => 145 | 210 => 165 | 127 => 105 | 145 => 172 | 143 => 170 | 21 => 21 | 171 => 131 | 173 => 135 | 212 => 142 | 51 => 143 | 20 => 20 | 213 => 144 | 232 => 167 | 233 => 168 | 80 => 53 | n => n, fun | 15 => 4 | 16 => 5 | 17 => 1 | 18 => 6 | 19 => 7 | n => n⟩
theorem Tryz.lays172 : Go.Proofs.LaysC.n172 Tryz.prog Tryz.lays172_ren := {
 mixed := by kernel_rfl
 f129 := Tryz.func104.trans (congrArg some (by kernel_rfl))
 f171 := Tryz.func34.trans (congrArg some (by kernel_rfl))
 f172 := Tryz.func84.trans (congrArg some (by kernel_rfl))
 f205 := Tryz.func122.trans (congrArg some (by kernel_rfl))
 f243 := Tryz.func58.trans (congrArg some (by kernel_rfl))
 f244 := Tryz.func98.trans (congrArg some (by kernel_rfl))
 f245 := Tryz.func99.trans (congrArg some (by kernel_rfl))
 f246 := Tryz.func78.trans (congrArg some (by kernel_rfl))
 f247 := Tryz.func111.trans (congrArg some (by kernel_rfl))
 f279 := Tryz.func112.trans (congrArg some (by kernel_rfl))
 f280 := Tryz.func113.trans (congrArg some (by kernel_rfl))
 f281 := Tryz.func114.trans (congrArg some (by kernel_rfl))
 f282 := Tryz.func115.trans (congrArg some (by kernel_rfl))
 f283 := Tryz.func90.trans (congrArg some (by kernel_rfl))
 f284 := Tryz.func91.trans (congrArg some (by kernel_rfl))
 f285 := Tryz.func92.trans (congrArg some (by kernel_rfl))
 f286 := Tryz.func93.trans (congrArg some (by kernel_rfl))
 f287 := Tryz.func120.trans (congrArg some (by kernel_rfl))
 f316 := Tryz.func121.trans (congrArg some (by kernel_rfl))
 f317 := Tryz.func103.trans (congrArg some (by kernel_rfl))
 f318 := Tryz.func105.trans (congrArg some (by kernel_rfl))
 f319 := Tryz.func106.trans (congrArg some (by kernel_rfl))
 f320 := Tryz.func107.trans (congrArg some (by kernel_rfl))
 f321 := Tryz.func123.trans (congrArg some (by kernel_rfl))
 f322 := Tryz.func124.trans (congrArg some (by kernel_rfl))
 f337 := Tryz.func117.trans (congrArg some (by kernel_rfl))
 f338 := Tryz.func118.trans (congrArg some (by kernel_rfl))
 t0 := Tryz.underlying0
 a0 := Tryz.isAgg0
 z0 := Tryz.sizeOf0
 v0 := Tryz.zeroValue0
 t2 := Tryz.underlying2
 a2 := Tryz.isAgg2
 z2 := Tryz.sizeOf2
 v2 := Tryz.zeroValue2
 t3 := Tryz.underlying3
 a3 := Tryz.isAgg3
 z3 := Tryz.sizeOf3
 v3 := Tryz.zeroValue3
 t4 := Tryz.underlying4
 a4 := Tryz.isAgg4
 z4 := Tryz.sizeOf4
 v4 := Tryz.zeroValue4
 t5 := Tryz.underlying5
 a5 := Tryz.isAgg5
 z5 := Tryz.sizeOf5
 v5 := Tryz.zeroValue5
 t9 := Tryz.underlying9
 a9 := Tryz.isAgg9
 z9 := Tryz.sizeOf9
 v9 := Tryz.zeroValue9
 t20 := Tryz.underlying20
 a20 := Tryz.isAgg20
 z20 := Tryz.sizeOf20
 v20 := Tryz.zeroValue20
 t21 := Tryz.underlying21
 a21 := Tryz.isAgg21
 z21 := Tryz.sizeOf21
 v21 := Tryz.zeroValue21
 t37 := Tryz.underlying47
 a37 := Tryz.isAgg47
 z37 := Tryz.sizeOf47
 v37 := Tryz.zeroValue47
 t46 := Tryz.underlying145
 a46 := Tryz.isAgg145
 z46 := Tryz.sizeOf145
 v46 := Tryz.zeroValue145
 t51 := Tryz.underlying143
 a51 := Tryz.isAgg143
 z51 := Tryz.sizeOf143
 v51 := Tryz.zeroValue143
 t53 := Tryz.underlying132
 a53 := Tryz.isAgg132
 z53 := Tryz.sizeOf132
 v53 := Tryz.zeroValue132
 t75 := Tryz.underlying72
 a75 := Tryz.isAgg72
 z75 := Tryz.sizeOf72
 v75 := Tryz.zeroValue72
 t76 := Tryz.underlying73
 a76 := Tryz.isAgg73
 z76 := Tryz.sizeOf73
 v76 := Tryz.zeroValue73
 t85 := Tryz.underlying148
 a85 := Tryz.isAgg148
 z85 := Tryz.sizeOf148
 v85 := Tryz.zeroValue148
 t127 := Tryz.underlying105
 a127 := Tryz.isAgg105
 z127 := Tryz.sizeOf105
 v127 := Tryz.zeroValue105
 t143 := Tryz.underlying170
 a143 := Tryz.isAgg170
 z143 := Tryz.sizeOf170
 v143 := Tryz.zeroValue170
 t145 := Tryz.underlying172
 a145 := Tryz.isAgg172
 z145 := Tryz.sizeOf172
 v145 := Tryz.zeroValue172
 t167 := Tryz.underlying147
 a167 := Tryz.isAgg147
 z167 := Tryz.sizeOf147
 v167 := Tryz.zeroValue147
 t168 := Tryz.underlying150
 a168 := Tryz.isAgg150
 z168 := Tryz.sizeOf150
 v168 := Tryz.zeroValue150
 t171 := Tryz.underlying131
 a171 := Tryz.isAgg131
 z171 := Tryz.sizeOf131
 v171 := Tryz.zeroValue131
 t173 := Tryz.underlying135
 a173 := Tryz.isAgg135
 z173 := Tryz.sizeOf135
 v173 := Tryz.zeroValue135
 t175 := Tryz.underlying161
 a175 := Tryz.isAgg161
 z175 := Tryz.sizeOf161
 v175 := Tryz.zeroValue161
 t210 := Tryz.underlying165
 a210 := Tryz.isAgg165
 z210 := Tryz.sizeOf165
 v210 := Tryz.zeroValue165
 t212 := Tryz.underlying142
 a212 := Tryz.isAgg142
 z212 := Tryz.sizeOf142
 v212 := Tryz.zeroValue142
 t213 := Tryz.underlying144
 a213 := Tryz.isAgg144
 z213 := Tryz.sizeOf144
 t232 := Tryz.underlying167
 a232 := Tryz.isAgg167
 z232 := Tryz.sizeOf167
 v232 := Tryz.zeroValue167
 t233 := Tryz.underlying168
 a233 := Tryz.isAgg168
 z233 := Tryz.sizeOf168
 v233 := Tryz.zeroValue168
 g15 := by kernel_rfl
 g16 := by kernel_rfl
 g17 := by kernel_rfl
 g18 := by kernel_rfl
 g19 := by kernel_rfl
 t80 := Tryz.underlying53
 a80 := Tryz.isAgg53
 z80 := Tryz.sizeOf53
 v80 := Tryz.zeroValue53
 i0 := by kernel_rfl
 i2 := by kernel_rfl
 i3 := by kernel_rfl
 i4 := by kernel_rfl
 i5 := by kernel_rfl
 i9 := by kernel_rfl
 i20 := by kernel_rfl
 i21 := by kernel_rfl
 i37 := by kernel_rfl
 i46 := by kernel_rfl
 i51 := by kernel_rfl
 i53 := by kernel_rfl
 i75 := by kernel_rfl
 i76 := by kernel_rfl
 i80 := by kernel_rfl
 i85 := by kernel_rfl
 i127 := by kernel_rfl
 i143 := by kernel_rfl
 i145 := by kernel_rfl
 i167 := by kernel_rfl
 i168 := by kernel_rfl
 i171 := by kernel_rfl
 i173 := by kernel_rfl
 i175 := by kernel_rfl
 i210 := by kernel_rfl
 i212 := by kernel_rfl
 i232 := by kernel_rfl
 i233 := by kernel_rfl
 m15 := by kernel_rfl
 m16 := by kernel_rfl
 m17 := by kernel_rfl
 m18 := by kernel_rfl
 m19 := by kernel_rfl
 c0 := by kernel_rfl
 c2 := by kernel_rfl
 c3 := by kernel_rfl
 c4 := by kernel_rfl
 c5 := by kernel_rfl
 c9 := by kernel_rfl
 c20 := by kernel_rfl
 c21 := by kernel_rfl
 c37 := by kernel_rfl
 c46 := by kernel_rfl
 c51 := by kernel_rfl
 c53 := by kernel_rfl
 c75 := by kernel_rfl
 c76 := by kernel_rfl
 c80 := by kernel_rfl
 c85 := by kernel_rfl
 c127 := by kernel_rfl
 c143 := by kernel_rfl
 c145 := by kernel_rfl
 c167 := by kernel_rfl
 c168 := by kernel_rfl
 c171 := by kernel_rfl
 c173 := by kernel_rfl
 c175 := by kernel_rfl
 c210 := by kernel_rfl
 c212 := by kernel_rfl
 c213 := by kernel_rfl
 c232 := by kernel_rfl
 c233 := by kernel_rfl }
def Tryz.lays171_ren : Go.Shelf.Ren := ⟨fun | 171 => 34 | 243 => 58 | 246 => 78 | 283 => 90 | 284 => 91 | 285 => 92 | 286 => 93 | 129 => 104 | 317 => 103 | 318 => 105 | 319 => 106 | 320 => 107 | 337 => 117 | 338 => 118 | n => n, fun | 3 => 3 | 9 => 9 | 2 => 2 | 4 => 4 | 171 => 131 | 0 => 0 | 53 => 132 | 37 => 47 | 5 => 5 | 173 => 135 | 212 => 142 | 51 => 143 | 20 => 20 | 213 => 144 | 46 => 145 | 232 => 167 | 233 => 168 | n => n, fun | 17 => 1 | 18 => 6 | 19 => 7 | n => n⟩
theorem Tryz.lays171 : Go.Proofs.LaysM.n171 Tryz.prog Tryz.lays171_ren := {
 mixed := by kernel_rfl
 f129 := Tryz.func104.trans (congrArg some (by kernel_rfl))
 f171 := Tryz.func34.trans (congrArg some (by kernel_rfl))
 f243 := Tryz.func58.trans (congrArg some (by kernel_rfl))
 f246 := Tryz.func78.trans (congrArg some (by kernel_rfl))
 f283 := Tryz.func90.trans (congrArg some (by kernel_rfl))
 f284 := Tryz.func91.trans (congrArg some (by kernel_rfl))
 f285 := Tryz.func92.trans (congrArg some (by kernel_rfl))
 f286 := Tryz.func93.trans (congrArg some (by kernel_rfl))
 f317 := Tryz.func103.trans (congrArg some (by kernel_rfl))
 f318 := Tryz.func105.trans (congrArg some (by kernel_rfl))
 f319 := Tryz.func106.trans (congrArg some (by kernel_rfl))
 f320 := Tryz.func107.trans (congrArg some (by kernel_rfl))
 f337 := Tryz.func117.trans (congrArg some (by kernel_rfl))
 f338 := Tryz.func118.trans (congrArg some (by kernel_rfl))
 t0 := Tryz.underlying0
 a0 := Tryz.isAgg0
 z0 := Tryz.sizeOf0
 v0 := Tryz.zeroValue0
 t2 := Tryz.underlying2
 a2 := Tryz.isAgg2
 z2 := Tryz.sizeOf2
 v2 := Tryz.zeroValue2
 t3 := Tryz.underlying3
 a3 := Tryz.isAgg3
 z3 := Tryz.sizeOf3
 v3 := Tryz.zeroValue3
 t4 := Tryz.underlying4
 a4 := Tryz.isAgg4
 z4 := Tryz.sizeOf4
 v4 := Tryz.zeroValue4
 t5 := Tryz.underlying5
 a5 := Tryz.isAgg5
 z5 := Tryz.sizeOf5
 v5 := Tryz.zeroValue5
 t9 := Tryz.underlying9
 a9 := Tryz.isAgg9
 z9 := Tryz.sizeOf9
 v9 := Tryz.zeroValue9
 t20 := Tryz.underlying20
 a20 := Tryz.isAgg20
 z20 := Tryz.sizeOf20
 v20 := Tryz.zeroValue20
 t37 := Tryz.underlying47
 a37 := Tryz.isAgg47
 z37 := Tryz.sizeOf47
 v37 := Tryz.zeroValue47
 t46 := Tryz.underlying145
 a46 := Tryz.isAgg145
 z46 := Tryz.sizeOf145
 v46 := Tryz.zeroValue145
 t51 := Tryz.underlying143
 a51 := Tryz.isAgg143
 z51 := Tryz.sizeOf143
 v51 := Tryz.zeroValue143
 t53 := Tryz.underlying132
 a53 := Tryz.isAgg132
 z53 := Tryz.sizeOf132
 v53 := Tryz.zeroValue132
 t171 := Tryz.underlying131
 a171 := Tryz.isAgg131
 z171 := Tryz.sizeOf131
 v171 := Tryz.zeroValue131
 t173 := Tryz.underlying135
 a173 := Tryz.isAgg135
 z173 := Tryz.sizeOf135
 v173 := Tryz.zeroValue135
 t212 := Tryz.underlying142
 a212 := Tryz.isAgg142
 z212 := Tryz.sizeOf142
 v212 := Tryz.zeroValue142
 t213 := Tryz.underlying144
 a213 := Tryz.isAgg144
 z213 := Tryz.sizeOf144
 t232 := Tryz.underlying167
 a232 := Tryz.isAgg167
 z232 := Tryz.sizeOf167
 v232 := Tryz.zeroValue167
 t233 := Tryz.underlying168
 a233 := Tryz.isAgg168
 z233 := Tryz.sizeOf168
 v233 := Tryz.zeroValue168
 g17 := by kernel_rfl
 g18 := by kernel_rfl
 g19 := by kernel_rfl
 i0 := by kernel_rfl
 i2 := by kernel_rfl
 i3 := by kernel_rfl
 i4 := by kernel_rfl
 i5 := by kernel_rfl
 i9 := by kernel_rfl
 i20 := by kernel_rfl
 i37 := by kernel_rfl
 i46 := by kernel_rfl
 i51 := by kernel_rfl
 i53 := by kernel_rfl
 i171 := by kernel_rfl
 i173 := by kernel_rfl
 i212 := by kernel_rfl
 i232 := by kernel_rfl
 i233 := by kernel_rfl
 m17 := by kernel_rfl
 m18 := by kernel_rfl
 m19 := by kernel_rfl }
end Go.Proofs
namespace Go.Proofs.YtniknpjeknmpjaaGreatDoor.Q
open Go.RowKit Go.Shelf Go.Proofs.YtniknpjeknmpjaaGreatDoorW.PrintWords Go.Proofs.YtniknpjeknmpjaaGreatDoorW.PrintLast Go.Proofs.YtniknpjeknmpjaaGreatDoorW.PrintMore
set_option linter.unusedVariables false
theorem var_below {P : Program} {w w1 : World} {n : String} {cs : Array Value} (h : w.var? P n = some cs) (hb : Below w.heap.size w w1) : w1.var? P n = some cs := by
 unfold World.var? at *
 cases hg : P.globalNamed n with
 | none => rw [hg] at h; simp at h
 | some g =>
  rw [hg] at h
  simp only [zJ] at h ⊢
  cases hk : w.heap[g]? with
  | none => rw [hk] at h; simp at h
  | some o => rw [hb.block g (Array.getElem?_eq_some_iff.1 hk).1]; exact h
structure LaidW (w : World) : Prop where
 tab : Lib.TabIs Tryz.prog w "internal/strconv.uint64pow10" .u64 Lib.pow10Tab
 syn : ∃ tp p, w.var? Tryz.prog "strconv.ErrSyntax" = some #[.iface tp p]
 rng : ∃ tp p, w.var? Tryz.prog "strconv.ErrRange" = some #[.iface tp p]
theorem LaidW.below {w w1 : World} (h : LaidW w) (hb : Below w.heap.size w w1) : LaidW w1 := by
 obtain ⟨h1, ⟨t1, p1, h2⟩, t2, p2, h3⟩ := h
 exact ⟨var_below h1 hb, ⟨t1, p1, var_below h2 hb⟩, t2, p2, var_below h3 hb⟩
theorem LaidW.alloc {w : World} (h : LaidW w) (o : Obj) : LaidW (w.alloc o) := h.below (below_alloc (Below.refl _ _) o)
theorem LaidW.drewN {w : World} (h : LaidW w) (n : Nat) : LaidW (w.drewN n) := h.below (pw_below_drewN (Below.refl _ _) n)
theorem LaidW.drew {w : World} (h : LaidW w) : LaidW w.drew := h.below (below_drew (Below.refl _ _))
theorem star_name : "*" ++ "errors.errorString" = "*errors.errorString" := by decide
theorem row_err (u : TypeId) (h : Tryz.prog.typeName? 3 u = some "*errors.errorString") : u = 170 :=
 typeName_ptr_named (nm := "errors.errorString") (by rw [star_name]; kernel_rfl) (by kernel_rfl) (by decide) u (by rw [star_name]; exact h)
theorem err_of {n : String} {text : List UInt8} {r : List (String × DataW Unit)} {W : World} {g : Nat}
 (h : laidMet Tryz.prog ((n, .iface "*errors.errorString" (.ptr (.agg [.lit (.string text)]))) :: r) W) (hg : Tryz.prog.globalNamed n = some g) (ht : (Tryz.prog.globals[g]?).map (·.type) = some 72) :
 ∃ tp p, W.var? Tryz.prog n = some #[.iface tp p] := by
 obtain ⟨a0, s0, hv0, -, -, -⟩ := laid_sentinel h hg ht Tryz.underlying72 row_err Tryz.underlying170 Tryz.underlying172 rfl rfl Tryz.underlying9 (by kernel_rfl) (by kernel_rfl)
 exact ⟨_, _, hv0⟩
def laidList : List (String × DataW Unit) := [("math/bits.deBruijn32tab", Rows.laid_math_bits_deBruijn32tab), ("math/bits.deBruijn64tab", Rows.laid_math_bits_deBruijn64tab), ("internal/strconv.uint64pow10", Rows.laid_internal_strconv_uint64pow10), ("unicode/utf8.acceptRanges", Rows.laid_unicode_utf8_acceptRanges), ("strconv.ErrRange", Rows.laid_strconv_ErrRange), ("strconv.ErrSyntax", Rows.laid_strconv_ErrSyntax), ("unicode/utf8.first", Rows.laid_unicode_utf8_first)]
theorem LaidW.of_met {W : World} (h : laidMet Tryz.prog laidList W) : LaidW W := by
 have h2 := laidMet.tail (laidMet.tail h)
 have h4 := laidMet.tail (laidMet.tail h2)
 have h5 := laidMet.tail h4
 exact ⟨Lib.tabIs_of_head (g := 1) (by kernel_rfl) (by kernel_rfl) Tryz.underlying142 Tryz.underlying132 (by kernel_rfl) (by kernel_rfl) h2,
  err_of h5 (g := 4) (by kernel_rfl) (by kernel_rfl), err_of h4 (g := 5) (by kernel_rfl) (by kernel_rfl)⟩
def strconv_Itoa_34.f (a0 : Int) : Option ByteArray := if -9223372036854775808 ≤ a0 ∧ a0 ≤ 9223372036854775807 then some ⟨(Lib.itoa a0).toArray⟩ else none
theorem strconv_Itoa_34.calls (a0 : Int) (r : ByteArray) (w : World) (hL : LaidW w) (h : strconv_Itoa_34.f a0 = some r) :
 Calls Tryz.prog 34 #[.int .i64 a0] w fun e w' => e = .returned (.string r) ∧ Below w.heap.size w w' := by
 unfold strconv_Itoa_34.f at h
 split at h
 ·next c =>
  obtain rfl := zI h
  refine (Any.strconv_Itoa Tryz.lays171 a0 c.1 c.2 w hL.tab).mono ?_
  rintro e w' ⟨rfl, k, os, rfl⟩
  exact ⟨rfl, below_regrown w (w.drawn + k) os⟩
 ·cases h
end Go.Proofs.YtniknpjeknmpjaaGreatDoor.Q
namespace Go.Proofs.YtniknpjeknmpjaaGreatDoor.Q
open Go.RowKit Go.Proofs.YtniknpjeknmpjaaGreatDoorW.PrintWords Go.Proofs.YtniknpjeknmpjaaGreatDoorW.PrintLast Go.Proofs.YtniknpjeknmpjaaGreatDoorW.PrintMore
attribute [local go_sem] max2_int min2_int max_two min_two max_three min_three max_four min_four
set_option linter.unusedVariables false
set_option linter.unusedSimpArgs false

mutual
def cubbylaw08_heavy.l0 : Nat → List (List (SIns)) → Int → Int → Option (Bool)
 | 0, _, _, _ => none
 | k + 1, x0, x3, x4 => if x4 < (x0.length : Int) then (cubbylaw08_heavy.j1 k x0 x3 x4 (decide (x3 ≤ 300))) else (cubbylaw08_heavy.j1 k x0 x3 x4 false)
def cubbylaw08_heavy.j1 : Nat → List (List (SIns)) → Int → Int → Bool → Option (Bool)
 | 0, _, _, _, _ => none
 | k + 1, x0, x3, x4, x16 => if x16 = true then (if 0 ≤ x4 then (if x4 < (x0.length : Int) then (cubbylaw08_heavy.l1 k x0 (wrap64 (x3 + (mn ((rd_LIns x0 x4).length : Int) 1048576))) x4 0) else (none)) else (none)) else (some (decide (x3 > 300)))
def cubbylaw08_heavy.l1 : Nat → List (List (SIns)) → Int → Int → Int → Option (Bool)
 | 0, _, _, _, _ => none
 | k + 1, x0, x3, x4, x5 => if 0 ≤ x4 then (if x4 < (x0.length : Int) then (if x5 < ((rd_LIns x0 x4).length : Int) then (cubbylaw08_heavy.j3 k x0 x3 x4 x5 (decide (x5 ≤ 300))) else (cubbylaw08_heavy.j3 k x0 x3 x4 x5 false)) else (none)) else (none)
def cubbylaw08_heavy.j3 : Nat → List (List (SIns)) → Int → Int → Int → Bool → Option (Bool)
 | 0, _, _, _, _, _ => none
 | k + 1, x0, x3, x4, x5, x37 => if x37 = true then (if 0 ≤ x4 then (if x4 < (x0.length : Int) then (if 0 ≤ x5 then (if x5 < ((rd_LIns x0 x4).length : Int) then (if (((rd_TIns (rd_LIns x0 x4) x5).f5).length : Int) > 20 then (some true) else (if (((rd_TIns (rd_LIns x0 x4) x5).f4).size : Int) > 256 then (some true) else (cubbylaw08_heavy.l1 k x0 x3 x4 (wrap64 (x5 + 1))))) else (none)) else (none)) else (none)) else (none)) else (cubbylaw08_heavy.l0 k x0 x3 (wrap64 (x4 + 1)))
end
def cubbylaw08_heavy.f (k : Nat) (l0 : List (List (SIns))) : Option (Bool) := if (l0.length : Int) > 50 then (some true) else (cubbylaw08_heavy.l0 k l0 0 0)
set_option maxHeartbeats 8000000 in
set_option maxRecDepth 100000 in
theorem cubbylaw08_heavy.calls (k : Nat) (A0 : Option Addr) (c0 : Nat) (l0 : List (List (SIns))) (r : Bool) (w : World) (hr0 : Kd.C (Kd.slice 44 kIns) w A0 l0.length l0) (hc0 : l0.length ≤ c0) (h : cubbylaw08_heavy.f k l0 = some r) :
 Calls Tryz.prog 6 #[.slice A0 l0.length c0] w fun e w' => e = .returned (.bool r) ∧ Below w.heap.size w w' := by
 have HR0 := zA hr0
 have HC0 := zA hc0
 clear hr0 hc0
 have HB := zA (Below.refl w.heap.size w)
 have H := h; clear h; unfold cubbylaw08_heavy.f at H
 by_cases c2 : (l0.length : Int) > 50
 ·rw [zC c2] at H
  have c2b0 : decide (50 < (l0.length : Int)) = true := zF c2
  have c2b1 : decide (50 < l0.length) = true := zF (by omega)
  clear c2
  obtain rfl := zI H
  go_enter Tryz.func6, Tryz.ntmps6
  go_wp2
  go_ret
  exact ⟨qE, qB⟩
 ·rw [zD c2] at H
  have c2b0 : decide (50 < (l0.length : Int)) = false := zG c2
  have c2b1 : decide (50 < l0.length) = false := zG (by omega)
  clear c2
  have H' := zA H
  clear H
  go_enter Tryz.func6, Tryz.ntmps6
  go_wp2
  go_loopg [3, 4] k (fun kq v3 v4 w' => ∃ (x3_1 : Int) (x4_1 : Int), v3 = .int .i64 x3_1 ∧ v4 = .int .i64 x4_1 ∧ Aside0 (cubbylaw08_heavy.l0 kq l0 x3_1 x4_1 = some r) ∧ Aside0 (kq ≤ k) ∧ Aside0 (Below w.heap.size w w'))
  case atStart => exact ⟨(0), (0), qT, qT, H', ⟨Nat.le_refl _⟩, ⟨qB⟩⟩
  case round =>
   clear H'
   try clear c2b0 c2b1; try clear p2
   obtain ⟨x3_1, x4_1, rfl, rfl, HA, HK1, HB⟩ := hrel
   cases gk with
   | zero => exact absurd HA.out (by simp [cubbylaw08_heavy.l0])
   | succ k1 =>
    have H := HA.out
    clear HA
    simp only [cubbylaw08_heavy.l0] at H
    have HC3 := zA H
    clear H
    go_upto_region 5 with (fail)
    go_cut [16] (fun v16 wc => ∃ (kq : Nat) (x16_2 : Bool), v16 = .bool x16_2 ∧ Aside0 (cubbylaw08_heavy.j1 kq l0 x3_1 x4_1 x16_2 = some r) ∧ Aside0 (kq ≤ k1) ∧ Aside0 (Below w.heap.size w wc))
    case first =>
     have H := HC3.out
     clear HC3
     by_cases c4 : x4_1 < (l0.length : Int)
     ·rw [zC c4] at H
      have c4b0 := zF c4
      clear c4
      (first | rw [c4b0] | (simp only [i64_w, i32_w]; rw [c4b0]) | skip)
      have H' := zA H
      clear H
      go_wp2
      go_meet
      case rel => exact ⟨_, (decide (x3_1 ≤ 300)), qT, H', ⟨by have := HK1.out; first | omega | exact Nat.le_refl _⟩, ⟨qB⟩⟩
     ·rw [zD c4] at H
      have c4b0 := zG c4
      clear c4
      (first | rw [c4b0] | (simp only [i64_w, i32_w]; rw [c4b0]) | skip)
      have H' := zA H
      clear H
      go_wp2
      go_meet
      case rel => exact ⟨_, (false), qT, H', ⟨by have := HK1.out; first | omega | exact Nat.le_refl _⟩, ⟨qB⟩⟩
    case rest =>
     clear HC3
     try clear c2b0 c2b1; try clear p2; try clear c4; try clear c4b0
     obtain ⟨kq, x16_2, rfl, HA, HJ2, HB⟩ := hcut
     cases kq with
     | zero => exact absurd HA.out (by simp [cubbylaw08_heavy.j1])
     | succ kj2 =>
      have H := HA.out
      clear HA
      simp only [cubbylaw08_heavy.j1] at H
      by_cases c5 : x16_2 = true
      ·subst c5
       have H1 : (if 0 ≤ x4_1 then (if x4_1 < (l0.length : Int) then (cubbylaw08_heavy.l1 kj2 l0 (wrap64 (x3_1 + (mn ((rd_LIns l0 x4_1).length : Int) 1048576))) x4_1 0) else (none)) else (none)) = some r := by rw [zC rfl] at H; exact H
       clear H
       have H := H1
       clear H1
       by_cases c6 : 0 ≤ x4_1
       ·rw [zC c6] at H
        have c6b0 := zF c6
        clear c6
        by_cases c7 : x4_1 < (l0.length : Int)
        ·rw [zC c7] at H
         have c7b0 := zF c7
         clear c7
         obtain ⟨ji8, hji8⟩ : ∃ j_ : Int, (mn ((rd_LIns l0 x4_1).length : Int) 1048576) = j_ := ⟨_, rfl⟩
         replace H : (cubbylaw08_heavy.l1 kj2 l0 (wrap64 (x3_1 + (ji8))) x4_1 0) = some r := by first | (rw [hji8] at H; exact H) | (simp only [hji8] at H ⊢; exact H)
         have hji8_ : (if 1048576 < ((rd_LIns l0 x4_1).length : Int) then 1048576 else ((rd_LIns l0 x4_1).length : Int)) = ji8 := hji8
         have H' := zA H
         clear H
         have p101 : 0 ≤ (x4_1 : Int) := zB qA
         have q101 : x4_1 < (l0.length : Int) := zB qA
         obtain ⟨ad101, A101_0, c101_0, e101, hx101_0, hl101_0, hi101_0⟩ := at_LIns HR0.out x4_1 p101 q101
         cases e101
         replace hx101_0 := (HB.out.cell (zE w _ hx101_0)).trans hx101_0
         have HR101_0 := zA hi101_0
         have HC101_0 := zA hl101_0
         clear hi101_0 hl101_0
         replace p101 := eq_true p101
         replace q101 := eq_true q101
         go_wp2
         go_loopg [5] kj2 (fun kq v5 w' => ∃ (x5_3 : Int), v5 = .int .i64 x5_3 ∧ Aside0 (cubbylaw08_heavy.l1 kq l0 (wrap64 (x3_1 + (ji8))) x4_1 x5_3 = some r) ∧ Aside0 (kq ≤ kj2) ∧ Aside0 (Below w.heap.size w w'))
         case atStart => exact ⟨(0), qT, H', ⟨Nat.le_refl _⟩, ⟨qB⟩⟩
         case round =>
          clear H'
          try clear c1; try clear p1; try clear q1; try clear hx1; try clear c2b0 c2b1; try clear p2; try clear c4; try clear c4b0; try clear c5; try clear c6b0; try clear p6; try clear c7b0; try clear hx101_0; try clear p101; try clear q101
          obtain ⟨x5_3, rfl, HA, HK3, HB⟩ := hrel
          cases gk with
          | zero => exact absurd HA.out (by simp [cubbylaw08_heavy.l1])
          | succ k3 =>
           have H := HA.out
           clear HA
           simp only [cubbylaw08_heavy.l1] at H
           have HC9 := zA H
           clear H
           go_upto_region 9 with (fail)
           go_cut [37] (fun v37 wc => ∃ (kq : Nat) (x37_8 : Bool), v37 = .bool x37_8 ∧ Aside0 (cubbylaw08_heavy.j3 kq l0 (wrap64 (x3_1 + (ji8))) x4_1 x5_3 x37_8 = some r) ∧ Aside0 (kq ≤ k3) ∧ Aside0 (Below w.heap.size w wc))
           case first =>
            have H := HC9.out
            clear HC9
            by_cases c10 : 0 ≤ x4_1
            ·rw [zC c10] at H
             have c10b0 := zF c10
             clear c10
             (first | rw [c10b0] | (simp only [i64_w, i32_w]; rw [c10b0]) | skip)
             by_cases c11 : x4_1 < (l0.length : Int)
             ·rw [zC c11] at H
              have c11b0 := zF c11
              clear c11
              by_cases c12 : x5_3 < ((rd_LIns l0 x4_1).length : Int)
              ·rw [zC c12] at H
               have c12b0 := zF c12
               clear c12
               have H' := zA H
               clear H
               have p102 : 0 ≤ (x4_1 : Int) := zB qA
               have q102 : x4_1 < (l0.length : Int) := zB qA
               obtain ⟨ad102, A102_0, c102_0, e102, hx102_0, hl102_0, hi102_0⟩ := at_LIns HR0.out x4_1 p102 q102
               obtain rfl : ad101 = ad102 := (by injection e102)
               replace hx102_0 := (HB.out.cell (zE w _ hx102_0)).trans hx102_0
               have HR102_0 := zA hi102_0
               have HC102_0 := zA hl102_0
               clear hi102_0 hl102_0
               replace p102 := eq_true p102
               replace q102 := eq_true q102
               go_wp2
               go_meet
               case rel => exact ⟨_, (decide (x5_3 ≤ 300)), qT, H', ⟨by have := HK1.out; have := HJ2.out; have := HK3.out; first | omega | exact Nat.le_refl _⟩, ⟨qB⟩⟩
              ·rw [zD c12] at H
               have c12b0 := zG c12
               clear c12
               have H' := zA H
               clear H
               have p102 : 0 ≤ (x4_1 : Int) := zB qA
               have q102 : x4_1 < (l0.length : Int) := zB qA
               obtain ⟨ad102, A102_0, c102_0, e102, hx102_0, hl102_0, hi102_0⟩ := at_LIns HR0.out x4_1 p102 q102
               obtain rfl : ad101 = ad102 := (by injection e102)
               replace hx102_0 := (HB.out.cell (zE w _ hx102_0)).trans hx102_0
               have HR102_0 := zA hi102_0
               have HC102_0 := zA hl102_0
               clear hi102_0 hl102_0
               replace p102 := eq_true p102
               replace q102 := eq_true q102
               go_wp2
               go_meet
               case rel => exact ⟨_, (false), qT, H', ⟨by have := HK1.out; have := HJ2.out; have := HK3.out; first | omega | exact Nat.le_refl _⟩, ⟨qB⟩⟩
             ·rw [zD c11] at H
              exact absurd H (by simp)
            ·rw [zD c10] at H
             exact absurd H (by simp)
           case rest =>
            clear HC9
            try clear c1; try clear p1; try clear q1; try clear hx1; try clear c2b0 c2b1; try clear p2; try clear c4; try clear c4b0; try clear c5; try clear c6b0; try clear p6; try clear c7b0; try clear c10; try clear c10b0; try clear p10; try clear q10; try clear hx10; try clear c11; try clear c11b0; try clear c12; try clear c12b0; try clear hx101_0; try clear hx102_0; try clear p101; try clear p102; try clear q101; try clear q102
            obtain ⟨kq, x37_8, rfl, HA, HJ8, HB⟩ := hcut
            cases kq with
            | zero => exact absurd HA.out (by simp [cubbylaw08_heavy.j3])
            | succ kj8 =>
             have H := HA.out
             clear HA
             simp only [cubbylaw08_heavy.j3] at H
             by_cases c13 : x37_8 = true
             ·subst c13
              have H1 : (if 0 ≤ x4_1 then (if x4_1 < (l0.length : Int) then (if 0 ≤ x5_3 then (if x5_3 < ((rd_LIns l0 x4_1).length : Int) then (if (((rd_TIns (rd_LIns l0 x4_1) x5_3).f5).length : Int) > 20 then (some true) else (if (((rd_TIns (rd_LIns l0 x4_1) x5_3).f4).size : Int) > 256 then (some true) else (cubbylaw08_heavy.l1 kj8 l0 (wrap64 (x3_1 + (ji8))) x4_1 (wrap64 (x5_3 + 1))))) else (none)) else (none)) else (none)) else (none)) = some r := by rw [zC rfl] at H; exact H
              clear H
              have H := H1
              clear H1
              by_cases c14 : 0 ≤ x4_1
              ·rw [zC c14] at H
               have c14b0 := zF c14
               clear c14
               by_cases c15 : x4_1 < (l0.length : Int)
               ·rw [zC c15] at H
                have c15b0 := zF c15
                clear c15
                by_cases c16 : 0 ≤ x5_3
                ·rw [zC c16] at H
                 have c16b0 := zF c16
                 clear c16
                 by_cases c17 : x5_3 < ((rd_LIns l0 x4_1).length : Int)
                 ·rw [zC c17] at H
                  have c17b0 := zF c17
                  clear c17
                  by_cases c18 : (((rd_TIns (rd_LIns l0 x4_1) x5_3).f5).length : Int) > 20
                  ·rw [zC c18] at H
                   have c18b0 : decide (20 < (((rd_TIns (rd_LIns l0 x4_1) x5_3).f5).length : Int)) = true := zF c18
                   have c18b1 : decide (20 < ((rd_TIns (rd_LIns l0 x4_1) x5_3).f5).length) = true := zF (by omega)
                   clear c18
                   obtain rfl := zI H
                   have p103 : 0 ≤ (x4_1 : Int) := zB qA
                   have q103 : x4_1 < (l0.length : Int) := zB qA
                   obtain ⟨ad103, A103_0, c103_0, e103, hx103_0, hl103_0, hi103_0⟩ := at_LIns HR0.out x4_1 p103 q103
                   obtain rfl : ad101 = ad103 := (by injection e103)
                   replace hx103_0 := (HB.out.cell (zE w _ hx103_0)).trans hx103_0
                   have HR103_0 := zA hi103_0
                   have HC103_0 := zA hl103_0
                   clear hi103_0 hl103_0
                   replace p103 := eq_true p103
                   replace q103 := eq_true q103
                   have p104 : 0 ≤ (x5_3 : Int) := zB qA
                   have q104 : x5_3 < ((rd_LIns l0 x4_1).length : Int) := zB qA
                   obtain ⟨ad104, A104_5, c104_5, e104, hx104_0, hx104_1, hx104_2, hx104_3, hx104_4, hx104_5, hl104_5, hi104_5⟩ := at_TIns HR103_0.out x5_3 p104 q104
                   cases e104
                   replace hx104_0 := (HB.out.cell (zE w _ hx104_0)).trans hx104_0
                   replace hx104_1 := (HB.out.cell (zE w _ hx104_1)).trans hx104_1
                   replace hx104_2 := (HB.out.cell (zE w _ hx104_2)).trans hx104_2
                   replace hx104_3 := (HB.out.cell (zE w _ hx104_3)).trans hx104_3
                   replace hx104_4 := (HB.out.cell (zE w _ hx104_4)).trans hx104_4
                   replace hx104_5 := (HB.out.cell (zE w _ hx104_5)).trans hx104_5
                   have HR104_5 := zA hi104_5
                   have HC104_5 := zA hl104_5
                   clear hi104_5 hl104_5
                   replace p104 := eq_true p104
                   replace q104 := eq_true q104
                   go_wp2
                   go_ret
                   exact ⟨by first | rfl | (simp [errW_none, errW_some] <;> rfl) | (simp only [← hji8]; first | rfl | (simp [errW_none, errW_some] <;> rfl)) | (simp [*, errW_none, errW_some] <;> rfl), qB⟩
                  ·rw [zD c18] at H
                   have c18b0 : decide (20 < (((rd_TIns (rd_LIns l0 x4_1) x5_3).f5).length : Int)) = false := zG c18
                   have c18b1 : decide (20 < ((rd_TIns (rd_LIns l0 x4_1) x5_3).f5).length) = false := zG (by omega)
                   clear c18
                   by_cases c19 : (((rd_TIns (rd_LIns l0 x4_1) x5_3).f4).size : Int) > 256
                   ·rw [zC c19] at H
                    have c19b0 : decide (256 < (((rd_TIns (rd_LIns l0 x4_1) x5_3).f4).size : Int)) = true := zF c19
                    have c19b1 : decide (256 < ((rd_TIns (rd_LIns l0 x4_1) x5_3).f4).size) = true := zF (by omega)
                    clear c19
                    obtain rfl := zI H
                    have p103 : 0 ≤ (x4_1 : Int) := zB qA
                    have q103 : x4_1 < (l0.length : Int) := zB qA
                    obtain ⟨ad103, A103_0, c103_0, e103, hx103_0, hl103_0, hi103_0⟩ := at_LIns HR0.out x4_1 p103 q103
                    obtain rfl : ad101 = ad103 := (by injection e103)
                    replace hx103_0 := (HB.out.cell (zE w _ hx103_0)).trans hx103_0
                    have HR103_0 := zA hi103_0
                    have HC103_0 := zA hl103_0
                    clear hi103_0 hl103_0
                    replace p103 := eq_true p103
                    replace q103 := eq_true q103
                    have p104 : 0 ≤ (x5_3 : Int) := zB qA
                    have q104 : x5_3 < ((rd_LIns l0 x4_1).length : Int) := zB qA
                    obtain ⟨ad104, A104_5, c104_5, e104, hx104_0, hx104_1, hx104_2, hx104_3, hx104_4, hx104_5, hl104_5, hi104_5⟩ := at_TIns HR103_0.out x5_3 p104 q104
                    cases e104
                    replace hx104_0 := (HB.out.cell (zE w _ hx104_0)).trans hx104_0
                    replace hx104_1 := (HB.out.cell (zE w _ hx104_1)).trans hx104_1
                    replace hx104_2 := (HB.out.cell (zE w _ hx104_2)).trans hx104_2
                    replace hx104_3 := (HB.out.cell (zE w _ hx104_3)).trans hx104_3
                    replace hx104_4 := (HB.out.cell (zE w _ hx104_4)).trans hx104_4
                    replace hx104_5 := (HB.out.cell (zE w _ hx104_5)).trans hx104_5
                    have HR104_5 := zA hi104_5
                    have HC104_5 := zA hl104_5
                    clear hi104_5 hl104_5
                    replace p104 := eq_true p104
                    replace q104 := eq_true q104
                    have p105 : 0 ≤ (x4_1 : Int) := zB qA
                    have q105 : x4_1 < (l0.length : Int) := zB qA
                    obtain ⟨ad105, A105_0, c105_0, e105, hx105_0, hl105_0, hi105_0⟩ := at_LIns HR0.out x4_1 p105 q105
                    obtain rfl : ad101 = ad105 := (by injection e105)
                    replace hx105_0 := (HB.out.cell (zE w _ hx105_0)).trans hx105_0
                    have HR105_0 := zA hi105_0
                    have HC105_0 := zA hl105_0
                    clear hi105_0 hl105_0
                    replace p105 := eq_true p105
                    replace q105 := eq_true q105
                    have ea_ := zI (hx103_0.symm.trans hx105_0)
                    injection ea_ with ea_ en_ ec_
                    subst ea_
                    subst ec_
                    clear en_
                    have p106 : 0 ≤ (x5_3 : Int) := zB qA
                    have q106 : x5_3 < ((rd_LIns l0 x4_1).length : Int) := zB qA
                    obtain ⟨ad106, A106_5, c106_5, e106, hx106_0, hx106_1, hx106_2, hx106_3, hx106_4, hx106_5, hl106_5, hi106_5⟩ := at_TIns HR105_0.out x5_3 p106 q106
                    cases e106
                    replace hx106_0 := (HB.out.cell (zE w _ hx106_0)).trans hx106_0
                    replace hx106_1 := (HB.out.cell (zE w _ hx106_1)).trans hx106_1
                    replace hx106_2 := (HB.out.cell (zE w _ hx106_2)).trans hx106_2
                    replace hx106_3 := (HB.out.cell (zE w _ hx106_3)).trans hx106_3
                    replace hx106_4 := (HB.out.cell (zE w _ hx106_4)).trans hx106_4
                    replace hx106_5 := (HB.out.cell (zE w _ hx106_5)).trans hx106_5
                    have HR106_5 := zA hi106_5
                    have HC106_5 := zA hl106_5
                    clear hi106_5 hl106_5
                    replace p106 := eq_true p106
                    replace q106 := eq_true q106
                    go_wp2
                    go_ret
                    exact ⟨by first | rfl | (simp [errW_none, errW_some] <;> rfl) | (simp only [← hji8]; first | rfl | (simp [errW_none, errW_some] <;> rfl)) | (simp [*, errW_none, errW_some] <;> rfl), qB⟩
                   ·rw [zD c19] at H
                    have c19b0 : decide (256 < (((rd_TIns (rd_LIns l0 x4_1) x5_3).f4).size : Int)) = false := zG c19
                    have c19b1 : decide (256 < ((rd_TIns (rd_LIns l0 x4_1) x5_3).f4).size) = false := zG (by omega)
                    clear c19
                    have H' := zA H
                    clear H
                    have p103 : 0 ≤ (x4_1 : Int) := zB qA
                    have q103 : x4_1 < (l0.length : Int) := zB qA
                    obtain ⟨ad103, A103_0, c103_0, e103, hx103_0, hl103_0, hi103_0⟩ := at_LIns HR0.out x4_1 p103 q103
                    obtain rfl : ad101 = ad103 := (by injection e103)
                    replace hx103_0 := (HB.out.cell (zE w _ hx103_0)).trans hx103_0
                    have HR103_0 := zA hi103_0
                    have HC103_0 := zA hl103_0
                    clear hi103_0 hl103_0
                    replace p103 := eq_true p103
                    replace q103 := eq_true q103
                    have p104 : 0 ≤ (x5_3 : Int) := zB qA
                    have q104 : x5_3 < ((rd_LIns l0 x4_1).length : Int) := zB qA
                    obtain ⟨ad104, A104_5, c104_5, e104, hx104_0, hx104_1, hx104_2, hx104_3, hx104_4, hx104_5, hl104_5, hi104_5⟩ := at_TIns HR103_0.out x5_3 p104 q104
                    cases e104
                    replace hx104_0 := (HB.out.cell (zE w _ hx104_0)).trans hx104_0
                    replace hx104_1 := (HB.out.cell (zE w _ hx104_1)).trans hx104_1
                    replace hx104_2 := (HB.out.cell (zE w _ hx104_2)).trans hx104_2
                    replace hx104_3 := (HB.out.cell (zE w _ hx104_3)).trans hx104_3
                    replace hx104_4 := (HB.out.cell (zE w _ hx104_4)).trans hx104_4
                    replace hx104_5 := (HB.out.cell (zE w _ hx104_5)).trans hx104_5
                    have HR104_5 := zA hi104_5
                    have HC104_5 := zA hl104_5
                    clear hi104_5 hl104_5
                    replace p104 := eq_true p104
                    replace q104 := eq_true q104
                    have p105 : 0 ≤ (x4_1 : Int) := zB qA
                    have q105 : x4_1 < (l0.length : Int) := zB qA
                    obtain ⟨ad105, A105_0, c105_0, e105, hx105_0, hl105_0, hi105_0⟩ := at_LIns HR0.out x4_1 p105 q105
                    obtain rfl : ad101 = ad105 := (by injection e105)
                    replace hx105_0 := (HB.out.cell (zE w _ hx105_0)).trans hx105_0
                    have HR105_0 := zA hi105_0
                    have HC105_0 := zA hl105_0
                    clear hi105_0 hl105_0
                    replace p105 := eq_true p105
                    replace q105 := eq_true q105
                    have ea_ := zI (hx103_0.symm.trans hx105_0)
                    injection ea_ with ea_ en_ ec_
                    subst ea_
                    subst ec_
                    clear en_
                    have p106 : 0 ≤ (x5_3 : Int) := zB qA
                    have q106 : x5_3 < ((rd_LIns l0 x4_1).length : Int) := zB qA
                    obtain ⟨ad106, A106_5, c106_5, e106, hx106_0, hx106_1, hx106_2, hx106_3, hx106_4, hx106_5, hl106_5, hi106_5⟩ := at_TIns HR105_0.out x5_3 p106 q106
                    cases e106
                    replace hx106_0 := (HB.out.cell (zE w _ hx106_0)).trans hx106_0
                    replace hx106_1 := (HB.out.cell (zE w _ hx106_1)).trans hx106_1
                    replace hx106_2 := (HB.out.cell (zE w _ hx106_2)).trans hx106_2
                    replace hx106_3 := (HB.out.cell (zE w _ hx106_3)).trans hx106_3
                    replace hx106_4 := (HB.out.cell (zE w _ hx106_4)).trans hx106_4
                    replace hx106_5 := (HB.out.cell (zE w _ hx106_5)).trans hx106_5
                    have HR106_5 := zA hi106_5
                    have HC106_5 := zA hl106_5
                    clear hi106_5 hl106_5
                    replace p106 := eq_true p106
                    replace q106 := eq_true q106
                    go_wp2
                    go_roundg kj8
                    case measure => have := HK1.out; have := HJ2.out; have := HK3.out; have := HJ8.out; omega
                    case rel => exact ⟨(wrap64 (x5_3 + 1)), qT, H', ⟨by have := HK1.out; have := HJ2.out; have := HK3.out; have := HJ8.out; omega⟩, ⟨qB⟩⟩
                 ·rw [zD c17] at H
                  exact absurd H (by simp)
                ·rw [zD c16] at H
                 exact absurd H (by simp)
               ·rw [zD c15] at H
                exact absurd H (by simp)
              ·rw [zD c14] at H
               exact absurd H (by simp)
             ·replace c13 := Bool.eq_false_iff.mpr c13
              subst c13
              have H1 : (cubbylaw08_heavy.l0 kj8 l0 (wrap64 (x3_1 + (ji8))) (wrap64 (x4_1 + 1))) = some r := by rw [zD (show ¬ (false = true) by decide)] at H; exact H
              clear H
              have H := H1
              clear H1
              have H' := zA H
              clear H
              go_wp2
              go_roundg kj8
              case measure => have := HK1.out; have := HJ2.out; have := HK3.out; have := HJ8.out; omega
              case rel => exact ⟨((wrap64 (x3_1 + (ji8)))), (wrap64 (x4_1 + 1)), (by first | rfl | (simp; done) | (simp only [← hji8] <;> (first | rfl | simp)) | (simp [*]; done)), qT, H', ⟨by have := HK1.out; have := HJ2.out; have := HK3.out; have := HJ8.out; omega⟩, ⟨qB⟩⟩
        ·rw [zD c7] at H
         exact absurd H (by simp)
       ·rw [zD c6] at H
        exact absurd H (by simp)
      ·replace c5 := Bool.eq_false_iff.mpr c5
       subst c5
       have H1 : (some (decide (x3_1 > 300))) = some r := by rw [zD (show ¬ (false = true) by decide)] at H; exact H
       clear H
       have H := H1
       clear H1
       obtain rfl := zI H
       go_wp2
       go_ret
       exact ⟨qE, qB⟩

mutual
def cubbyref07_Same.j0 : Nat → Bool → Int → Int → Int → Int → ByteArray → List Int → Int → Int → Int → Int → ByteArray → List Int → Option (Bool)
 | 0, _, _, _, _, _, _, _, _, _, _, _, _, _ => none
 | k + 1, x47, x301000, x301001, x301002, x301003, x301004, x301005, x302000, x302001, x302002, x302003, x302004, x302005 => if x47 = true then (some false) else (cubbyref07_Same.l0 k 0 x301000 x301001 x301002 x301003 x301004 x301005 x302000 x302001 x302002 x302003 x302004 x302005)
def cubbyref07_Same.l0 : Nat → Int → Int → Int → Int → Int → ByteArray → List Int → Int → Int → Int → Int → ByteArray → List Int → Option (Bool)
 | 0, _, _, _, _, _, _, _, _, _, _, _, _, _ => none
 | k + 1, x5, x301000, x301001, x301002, x301003, x301004, x301005, x302000, x302001, x302002, x302003, x302004, x302005 => if x5 < (x301005.length : Int) then (if 0 ≤ x5 then (if x5 < (x302005.length : Int) then (if (rd x301005 x5) = (rd x302005 x5) then (cubbyref07_Same.l0 k (wrap64 (x5 + 1)) x301000 x301001 x301002 x301003 x301004 x301005 x302000 x302001 x302002 x302003 x302004 x302005) else (some false)) else (none)) else (none)) else (some true)
end
def cubbyref07_Same.f (k : Nat) (a0_0 : Int) (a0_1 : Int) (a0_2 : Int) (a0_3 : Int) (a0_4 : ByteArray) (l0_5 : List Int) (a1_0 : Int) (a1_1 : Int) (a1_2 : Int) (a1_3 : Int) (a1_4 : ByteArray) (l1_5 : List Int) : Option (Bool) := if a0_0 = a1_0 then (if a0_1 = a1_1 then (if a0_2 = a1_2 then (if a0_3 = a1_3 then (if a0_4.toList = a1_4.toList then (cubbyref07_Same.j0 k ((l0_5.length : Int) != (l1_5.length : Int)) a0_0 a0_1 a0_2 a0_3 a0_4 l0_5 a1_0 a1_1 a1_2 a1_3 a1_4 l1_5) else (cubbyref07_Same.j0 k true a0_0 a0_1 a0_2 a0_3 a0_4 l0_5 a1_0 a1_1 a1_2 a1_3 a1_4 l1_5)) else (cubbyref07_Same.j0 k true a0_0 a0_1 a0_2 a0_3 a0_4 l0_5 a1_0 a1_1 a1_2 a1_3 a1_4 l1_5)) else (cubbyref07_Same.j0 k true a0_0 a0_1 a0_2 a0_3 a0_4 l0_5 a1_0 a1_1 a1_2 a1_3 a1_4 l1_5)) else (cubbyref07_Same.j0 k true a0_0 a0_1 a0_2 a0_3 a0_4 l0_5 a1_0 a1_1 a1_2 a1_3 a1_4 l1_5)) else (cubbyref07_Same.j0 k true a0_0 a0_1 a0_2 a0_3 a0_4 l0_5 a1_0 a1_1 a1_2 a1_3 a1_4 l1_5)
set_option maxHeartbeats 8000000 in
set_option maxRecDepth 100000 in
theorem cubbyref07_Same.calls (k : Nat) (a0_0 : Int) (a0_1 : Int) (a0_2 : Int) (a0_3 : Int) (a0_4 : ByteArray) (A0_5 : Option Addr) (c0_5 : Nat) (l0_5 : List Int) (a1_0 : Int) (a1_1 : Int) (a1_2 : Int) (a1_3 : Int) (a1_4 : ByteArray) (A1_5 : Option Addr) (c1_5 : Nat) (l1_5 : List Int) (r : Bool) (w : World) (hr0_5 : Kd.C (Kd.int .i64) w A0_5 l0_5.length l0_5) (hc0_5 : l0_5.length ≤ c0_5) (hr1_5 : Kd.C (Kd.int .i64) w A1_5 l1_5.length l1_5) (hc1_5 : l1_5.length ≤ c1_5) (h : cubbyref07_Same.f k a0_0 a0_1 a0_2 a0_3 a0_4 l0_5 a1_0 a1_1 a1_2 a1_3 a1_4 l1_5 = some r) :
 Calls Tryz.prog 51 #[.agg #[.int .i64 a0_0, .int .i64 a0_1, .int .i64 a0_2, .int .i64 a0_3, .string a0_4, .slice A0_5 l0_5.length c0_5], .agg #[.int .i64 a1_0, .int .i64 a1_1, .int .i64 a1_2, .int .i64 a1_3, .string a1_4, .slice A1_5 l1_5.length c1_5]] w fun e w' => e = .returned (.bool r) ∧ Below w.heap.size w w' := by
 have hu44 := Tryz.underlying44
 have HR0_5 := zA hr0_5
 have HC0_5 := zA hc0_5
 clear hr0_5 hc0_5
 have HR1_5 := zA hr1_5
 have HC1_5 := zA hc1_5
 clear hr1_5 hc1_5
 have HB := zA (Below.refl w.heap.size w)
 have H := h; clear h; unfold cubbyref07_Same.f at H
 have HC3 := zA H
 clear H
 go_enter Tryz.func51, Tryz.ntmps51
 go_upto_region 1 with (first | ((with_reducible refine gate_dst (N := 2) rfl ?_); (try (refine gate_guard (by rfl) ?_; dsimp only)); refine box_event (by rfl) (N := 2) (by rfl) (cs := #[.int .i64 a0_0, .int .i64 a0_1, .int .i64 a0_2, .int .i64 a0_3, .string a0_4, .slice A0_5 l0_5.length c0_5]) (t := 44) ?hr ?_; (case hr => go_simp <;> rfl); intro gb300 hg w4 hbox hb; have BK300 := zA (hbox); have GW300 := qG hg; have GE300 := GW300; replace HB := qH hb; clear hb hbox hg) | ((with_reducible refine gate_dst (N := 3) rfl ?_); (try (refine gate_guard (by rfl) ?_; dsimp only)); refine box_event (by rfl) (N := 3) (by rfl) (cs := #[.int .i64 a1_0, .int .i64 a1_1, .int .i64 a1_2, .int .i64 a1_3, .string a1_4, .slice A1_5 l1_5.length c1_5]) (t := 44) ?hr ?_; (case hr => go_simp <;> rfl); intro gb301 hg w5 hbox hb; have BK301 := zA (hbox); have GW301 := qG hg; have GE301 := GW301; replace HB := qH hb; have NB300_301 := zA ((by rw [hg]; exact Nat.ne_of_lt (blk_lt (g := gb300) (o := .cells #[.int .i64 a0_0, .int .i64 a0_1, .int .i64 a0_2, .int .i64 a0_3, .string a0_4, .slice A0_5 l0_5.length c0_5] 44 (0, 0)) (qK BK300.out)) : gb300 ≠ gb301)); have NB301_300 := zA ((by rw [hg]; exact Nat.ne_of_gt (blk_lt (g := gb300) (o := .cells #[.int .i64 a0_0, .int .i64 a0_1, .int .i64 a0_2, .int .i64 a0_3, .string a0_4, .slice A0_5 l0_5.length c0_5] 44 (0, 0)) (qK BK300.out)) : gb301 ≠ gb300)); replace BK300 := qW BK300 hb; clear hb hbox hg))
 repeat (go_quiet (first | ((with_reducible refine gate_dst (N := 2) rfl ?_); (try (refine gate_guard (by rfl) ?_; dsimp only)); refine box_event (by rfl) (N := 2) (by rfl) (cs := #[.int .i64 a0_0, .int .i64 a0_1, .int .i64 a0_2, .int .i64 a0_3, .string a0_4, .slice A0_5 l0_5.length c0_5]) (t := 44) ?hr ?_; (case hr => go_simp <;> rfl); intro gb300 hg w4 hbox hb; have BK300 := zA (hbox); have GW300 := qG hg; have GE300 := GW300; replace HB := qH hb; clear hb hbox hg) | ((with_reducible refine gate_dst (N := 3) rfl ?_); (try (refine gate_guard (by rfl) ?_; dsimp only)); refine box_event (by rfl) (N := 3) (by rfl) (cs := #[.int .i64 a1_0, .int .i64 a1_1, .int .i64 a1_2, .int .i64 a1_3, .string a1_4, .slice A1_5 l1_5.length c1_5]) (t := 44) ?hr ?_; (case hr => go_simp <;> rfl); intro gb301 hg w5 hbox hb; have BK301 := zA (hbox); have GW301 := qG hg; have GE301 := GW301; replace HB := qH hb; have NB300_301 := zA ((by rw [hg]; exact Nat.ne_of_lt (blk_lt (g := gb300) (o := .cells #[.int .i64 a0_0, .int .i64 a0_1, .int .i64 a0_2, .int .i64 a0_3, .string a0_4, .slice A0_5 l0_5.length c0_5] 44 (0, 0)) (qK BK300.out)) : gb300 ≠ gb301)); have NB301_300 := zA ((by rw [hg]; exact Nat.ne_of_gt (blk_lt (g := gb300) (o := .cells #[.int .i64 a0_0, .int .i64 a0_1, .int .i64 a0_2, .int .i64 a0_3, .string a0_4, .slice A0_5 l0_5.length c0_5] 44 (0, 0)) (qK BK300.out)) : gb301 ≠ gb300)); replace BK300 := qW BK300 hb; clear hb hbox hg)); go_upto_region 1 with (first | ((with_reducible refine gate_dst (N := 2) rfl ?_); (try (refine gate_guard (by rfl) ?_; dsimp only)); refine box_event (by rfl) (N := 2) (by rfl) (cs := #[.int .i64 a0_0, .int .i64 a0_1, .int .i64 a0_2, .int .i64 a0_3, .string a0_4, .slice A0_5 l0_5.length c0_5]) (t := 44) ?hr ?_; (case hr => go_simp <;> rfl); intro gb300 hg w4 hbox hb; have BK300 := zA (hbox); have GW300 := qG hg; have GE300 := GW300; replace HB := qH hb; clear hb hbox hg) | ((with_reducible refine gate_dst (N := 3) rfl ?_); (try (refine gate_guard (by rfl) ?_; dsimp only)); refine box_event (by rfl) (N := 3) (by rfl) (cs := #[.int .i64 a1_0, .int .i64 a1_1, .int .i64 a1_2, .int .i64 a1_3, .string a1_4, .slice A1_5 l1_5.length c1_5]) (t := 44) ?hr ?_; (case hr => go_simp <;> rfl); intro gb301 hg w5 hbox hb; have BK301 := zA (hbox); have GW301 := qG hg; have GE301 := GW301; replace HB := qH hb; have NB300_301 := zA ((by rw [hg]; exact Nat.ne_of_lt (blk_lt (g := gb300) (o := .cells #[.int .i64 a0_0, .int .i64 a0_1, .int .i64 a0_2, .int .i64 a0_3, .string a0_4, .slice A0_5 l0_5.length c0_5] 44 (0, 0)) (qK BK300.out)) : gb300 ≠ gb301)); have NB301_300 := zA ((by rw [hg]; exact Nat.ne_of_gt (blk_lt (g := gb300) (o := .cells #[.int .i64 a0_0, .int .i64 a0_1, .int .i64 a0_2, .int .i64 a0_3, .string a0_4, .slice A0_5 l0_5.length c0_5] 44 (0, 0)) (qK BK300.out)) : gb301 ≠ gb300)); replace BK300 := qW BK300 hb; clear hb hbox hg)))
 (try simp only [Act.put, List.setIfInBounds_toArray, List.set_cons_zero, List.set_cons_succ])
 go_cut [47] (fun v47 wc => ∃ (kq : Nat) (x47_2 : Bool), v47 = .bool x47_2 ∧ Aside0 (cubbyref07_Same.j0 kq x47_2 a0_0 a0_1 a0_2 a0_3 a0_4 l0_5 a1_0 a1_1 a1_2 a1_3 a1_4 l1_5 = some r) ∧ Aside0 (kq ≤ k) ∧ Aside0 (wc.heap[gb300]? = some (.cells #[.int .i64 a0_0, .int .i64 a0_1, .int .i64 a0_2, .int .i64 a0_3, .string a0_4, (.slice A0_5 l0_5.length c0_5)] 44 (0, 0))) ∧ Aside0 (wc.heap[gb301]? = some (.cells #[.int .i64 a1_0, .int .i64 a1_1, .int .i64 a1_2, .int .i64 a1_3, .string a1_4, (.slice A1_5 l1_5.length c1_5)] 44 (0, 0))) ∧ Aside0 (Below w.heap.size w wc))
 case first =>
  have H := HC3.out
  clear HC3
  by_cases c6 : a0_0 = a1_0
  ·rw [zC c6] at H
   obtain ⟨c6b0, c6b1⟩ := qe c6; clear c6
   (first | rw [c6b0] | (simp only [i64_w, i32_w]; rw [c6b0]) | skip)
   by_cases c7 : a0_1 = a1_1
   ·rw [zC c7] at H
    obtain ⟨c7b0, c7b1⟩ := qe c7; clear c7
    by_cases c8 : a0_2 = a1_2
    ·rw [zC c8] at H
     obtain ⟨c8b0, c8b1⟩ := qe c8; clear c8
     by_cases c9 : a0_3 = a1_3
     ·rw [zC c9] at H
      obtain ⟨c9b0, c9b1⟩ := qe c9; clear c9
      by_cases c10 : a0_4.toList = a1_4.toList
      ·rw [zC c10] at H
       obtain ⟨c10b0, c10b1⟩ := qe c10; clear c10
       have H' := zA H
       clear H
       have hnb11 := NB300_301.out
       have hnc11 := NB301_300.out
       have z12_0 := bk6 BK300.out
       have z13_0 := bk6 BK301.out
       go_wp2
       repeat (go_quiet (fail); try go_wp2)
       go_meet
       case rel => exact ⟨_, (((l0_5.length : Int) != (l1_5.length : Int))), qT, H', ⟨qO⟩, ⟨qK BK300.out⟩, ⟨qK BK301.out⟩, ⟨qB⟩⟩
      ·rw [zD c10] at H
       obtain ⟨c10b0, c10b1⟩ := qn c10
       have H' := zA H
       clear H
       have hnb14 := NB300_301.out
       have hnc14 := NB301_300.out
       have z15_0 := bk6 BK300.out
       have z16_0 := bk6 BK301.out
       go_wp2
       repeat (go_quiet (fail); try go_wp2)
       go_meet
       case rel => exact ⟨_, (true), qT, H', ⟨qO⟩, ⟨qK BK300.out⟩, ⟨qK BK301.out⟩, ⟨qB⟩⟩
     ·rw [zD c9] at H
      obtain ⟨c9b0, c9b1⟩ := qn c9
      have H' := zA H
      clear H
      have hnb17 := NB300_301.out
      have hnc17 := NB301_300.out
      have z18_0 := bk6 BK300.out
      have z19_0 := bk6 BK301.out
      go_wp2
      repeat (go_quiet (fail); try go_wp2)
      go_meet
      case rel => exact ⟨_, (true), qT, H', ⟨qO⟩, ⟨qK BK300.out⟩, ⟨qK BK301.out⟩, ⟨qB⟩⟩
    ·rw [zD c8] at H
     obtain ⟨c8b0, c8b1⟩ := qn c8
     have H' := zA H
     clear H
     have hnb20 := NB300_301.out
     have hnc20 := NB301_300.out
     have z21_0 := bk6 BK300.out
     have z22_0 := bk6 BK301.out
     go_wp2
     repeat (go_quiet (fail); try go_wp2)
     go_meet
     case rel => exact ⟨_, (true), qT, H', ⟨qO⟩, ⟨qK BK300.out⟩, ⟨qK BK301.out⟩, ⟨qB⟩⟩
   ·rw [zD c7] at H
    obtain ⟨c7b0, c7b1⟩ := qn c7
    have H' := zA H
    clear H
    have hnb23 := NB300_301.out
    have hnc23 := NB301_300.out
    have z24_0 := bk6 BK300.out
    have z25_0 := bk6 BK301.out
    go_wp2
    repeat (go_quiet (fail); try go_wp2)
    go_meet
    case rel => exact ⟨_, (true), qT, H', ⟨qO⟩, ⟨qK BK300.out⟩, ⟨qK BK301.out⟩, ⟨qB⟩⟩
  ·rw [zD c6] at H
   obtain ⟨c6b0, c6b1⟩ := qn c6
   (first | rw [c6b0] | (simp only [i64_w, i32_w]; rw [c6b0]) | skip)
   have H' := zA H
   clear H
   have hnb26 := NB300_301.out
   have hnc26 := NB301_300.out
   have z27_0 := bk6 BK300.out
   have z28_0 := bk6 BK301.out
   go_wp2
   repeat (go_quiet (fail); try go_wp2)
   go_meet
   case rel => exact ⟨_, (true), qT, H', ⟨qO⟩, ⟨qK BK300.out⟩, ⟨qK BK301.out⟩, ⟨qB⟩⟩
 case rest =>
  clear HC3
  try clear c1; try clear c2; try clear p2; try clear c5; try clear c6; try clear c6b0 c6b1; try clear c7; try clear c7b0 c7b1; try clear c8; try clear c8b0 c8b1; try clear c9; try clear c9b0 c9b1; try clear c10; try clear c10b0 c10b1; try clear c11; try clear c14; try clear c17; try clear c20; try clear c23; try clear c26; try clear z12_0; try clear z13_0; try clear z15_0; try clear z16_0; try clear z18_0; try clear z19_0; try clear z21_0; try clear z22_0; try clear z24_0; try clear z25_0; try clear z27_0; try clear z28_0
  obtain ⟨kq, x47_2, rfl, HA, HJ2, BK300, BK301, HB⟩ := hcut
  cases kq with
  | zero => exact absurd HA.out (by simp [cubbyref07_Same.j0])
  | succ kj2 =>
   have H := HA.out
   clear HA
   simp only [cubbyref07_Same.j0] at H
   by_cases c29 : x47_2 = true
   ·subst c29
    have H1 : (some false) = some r := by rw [zC rfl] at H; exact H
    clear H
    have H := H1
    clear H1
    obtain rfl := zI H
    go_wp2
    repeat (go_quiet (fail); try go_wp2)
    go_ret
    exact ⟨qE, qB⟩
   ·replace c29 := Bool.eq_false_iff.mpr c29
    subst c29
    have H1 : (cubbyref07_Same.l0 kj2 0 a0_0 a0_1 a0_2 a0_3 a0_4 l0_5 a1_0 a1_1 a1_2 a1_3 a1_4 l1_5) = some r := by rw [zD (show ¬ (false = true) by decide)] at H; exact H
    clear H
    have H := H1
    clear H1
    have H' := zA H
    clear H
    go_wp2
    repeat (go_quiet (fail); try go_wp2)
    go_loopg [5] kj2 (fun kq v5 w' => ∃ (x5_2 : Int), v5 = .int .i64 x5_2 ∧ Aside0 (cubbyref07_Same.l0 kq x5_2 a0_0 a0_1 a0_2 a0_3 a0_4 l0_5 a1_0 a1_1 a1_2 a1_3 a1_4 l1_5 = some r) ∧ Aside0 (kq ≤ kj2) ∧ Aside0 (w'.heap[gb300]? = some (.cells #[.int .i64 a0_0, .int .i64 a0_1, .int .i64 a0_2, .int .i64 a0_3, .string a0_4, (.slice A0_5 l0_5.length c0_5)] 44 (0, 0))) ∧ Aside0 (w'.heap[gb301]? = some (.cells #[.int .i64 a1_0, .int .i64 a1_1, .int .i64 a1_2, .int .i64 a1_3, .string a1_4, (.slice A1_5 l1_5.length c1_5)] 44 (0, 0))) ∧ Aside0 (Below w.heap.size w w'))
    case atStart => exact ⟨(0), qT, H', ⟨Nat.le_refl _⟩, ⟨qK BK300.out⟩, ⟨qK BK301.out⟩, ⟨qB⟩⟩
    case round =>
     clear H'
     try clear c1; try clear c2; try clear p2; try clear c5; try clear c6; try clear c6b0 c6b1; try clear c7; try clear c7b0 c7b1; try clear c8; try clear c8b0 c8b1; try clear c9; try clear c9b0 c9b1; try clear c10; try clear c10b0 c10b1; try clear c11; try clear c14; try clear c17; try clear c20; try clear c23; try clear c26; try clear c29; try clear z12_0; try clear z13_0; try clear z15_0; try clear z16_0; try clear z18_0; try clear z19_0; try clear z21_0; try clear z22_0; try clear z24_0; try clear z25_0; try clear z27_0; try clear z28_0
     obtain ⟨x5_2, rfl, HA, HK2, BK300, BK301, HB⟩ := hrel
     cases gk with
     | zero => exact absurd HA.out (by simp [cubbyref07_Same.l0])
     | succ k2 =>
      have H := HA.out
      clear HA
      simp only [cubbyref07_Same.l0] at H
      by_cases c30 : x5_2 < (l0_5.length : Int)
      ·rw [zC c30] at H
       have c30b0 := zF c30
       clear c30
       by_cases c31 : 0 ≤ x5_2
       ·rw [zC c31] at H
        have c31b0 := zF c31
        clear c31
        by_cases c32 : x5_2 < (l1_5.length : Int)
        ·rw [zC c32] at H
         have c32b0 := zF c32
         clear c32
         by_cases c33 : (rd l0_5 x5_2) = (rd l1_5 x5_2)
         ·rw [zC c33] at H
          obtain ⟨c33b0, c33b1⟩ := qe c33; clear c33
          have H' := zA H
          clear H
          have hnb34 := NB300_301.out
          have hnc34 := NB301_300.out
          have z35_0 := bk6 BK300.out
          have p302 : 0 ≤ (x5_2 : Int) := zB qA
          have q302 : x5_2 < (l0_5.length : Int) := zB qA
          obtain ⟨ad302, e302, hx302_0⟩ := Kd.at_int HR0_5.out x5_2 p302 q302
          cases e302
          replace hx302_0 := (HB.out.cell (zE w _ hx302_0)).trans hx302_0
          replace p302 := eq_true p302
          replace q302 := eq_true q302
          have z36_0 := bk6 BK301.out
          have p303 : 0 ≤ (x5_2 : Int) := zB qA
          have q303 : x5_2 < (l1_5.length : Int) := zB qA
          obtain ⟨ad303, e303, hx303_0⟩ := Kd.at_int HR1_5.out x5_2 p303 q303
          cases e303
          replace hx303_0 := (HB.out.cell (zE w _ hx303_0)).trans hx303_0
          replace p303 := eq_true p303
          replace q303 := eq_true q303
          go_wp2
          repeat (go_quiet (fail); try go_wp2)
          go_roundg k2
          case measure => have := HJ2.out; have := HK2.out; omega
          case rel => exact ⟨(wrap64 (x5_2 + 1)), qT, H', ⟨by have := HJ2.out; have := HK2.out; omega⟩, ⟨qK BK300.out⟩, ⟨qK BK301.out⟩, ⟨qB⟩⟩
         ·rw [zD c33] at H
          obtain ⟨c33b0, c33b1⟩ := qn c33
          obtain rfl := zI H
          have hnb37 := NB300_301.out
          have hnc37 := NB301_300.out
          have z38_0 := bk6 BK300.out
          have p302 : 0 ≤ (x5_2 : Int) := zB qA
          have q302 : x5_2 < (l0_5.length : Int) := zB qA
          obtain ⟨ad302, e302, hx302_0⟩ := Kd.at_int HR0_5.out x5_2 p302 q302
          cases e302
          replace hx302_0 := (HB.out.cell (zE w _ hx302_0)).trans hx302_0
          replace p302 := eq_true p302
          replace q302 := eq_true q302
          have z39_0 := bk6 BK301.out
          have p303 : 0 ≤ (x5_2 : Int) := zB qA
          have q303 : x5_2 < (l1_5.length : Int) := zB qA
          obtain ⟨ad303, e303, hx303_0⟩ := Kd.at_int HR1_5.out x5_2 p303 q303
          cases e303
          replace hx303_0 := (HB.out.cell (zE w _ hx303_0)).trans hx303_0
          replace p303 := eq_true p303
          replace q303 := eq_true q303
          go_wp2
          repeat (go_quiet (fail); try go_wp2)
          go_ret
          exact ⟨qE, qB⟩
        ·rw [zD c32] at H
         exact absurd H (by simp)
       ·rw [zD c31] at H
        exact absurd H (by simp)
      ·rw [zD c30] at H
       have c30b0 := zG c30
       clear c30
       obtain rfl := zI H
       have hnb40 := NB300_301.out
       have hnc40 := NB301_300.out
       have z41_0 := bk6 BK300.out
       go_wp2
       repeat (go_quiet (fail); try go_wp2)
       go_ret
       exact ⟨qE, qB⟩

mutual
def cubbyref07_Blocks.l0 : Nat → List (List (SIns)) → List (List (SIns)) → Int → Option (Bool)
 | 0, _, _, _ => none
 | k + 1, x0, x1, x5 => if x5 < (x0.length : Int) then (if 0 ≤ x5 then (if x5 < (x1.length : Int) then (if ((rd_LIns x0 x5).length : Int) = ((rd_LIns x1 x5).length : Int) then (cubbyref07_Blocks.l1 k x0 x1 x5 0) else (some false)) else (none)) else (none)) else (some true)
def cubbyref07_Blocks.l1 : Nat → List (List (SIns)) → List (List (SIns)) → Int → Int → Option (Bool)
 | 0, _, _, _, _ => none
 | k + 1, x0, x1, x5, x6 => if 0 ≤ x5 then (if x5 < (x0.length : Int) then (if x6 < ((rd_LIns x0 x5).length : Int) then (if 0 ≤ x6 then (if x5 < (x1.length : Int) then (if x6 < ((rd_LIns x1 x5).length : Int) then ((cubbyref07_Same.f k ((rd_TIns (rd_LIns x0 x5) x6).f0) ((rd_TIns (rd_LIns x0 x5) x6).f1) ((rd_TIns (rd_LIns x0 x5) x6).f2) ((rd_TIns (rd_LIns x0 x5) x6).f3) ((rd_TIns (rd_LIns x0 x5) x6).f4) ((rd_TIns (rd_LIns x0 x5) x6).f5) ((rd_TIns (rd_LIns x1 x5) x6).f0) ((rd_TIns (rd_LIns x1 x5) x6).f1) ((rd_TIns (rd_LIns x1 x5) x6).f2) ((rd_TIns (rd_LIns x1 x5) x6).f3) ((rd_TIns (rd_LIns x1 x5) x6).f4) ((rd_TIns (rd_LIns x1 x5) x6).f5)).bind fun t311 => (if t311 = true then (cubbyref07_Blocks.l1 k x0 x1 x5 (wrap64 (x6 + 1))) else (some false))) else (none)) else (none)) else (none)) else (cubbyref07_Blocks.l0 k x0 x1 (wrap64 (x5 + 1)))) else (none)) else (none)
end
def cubbyref07_Blocks.f (k : Nat) (l0 : List (List (SIns))) (l1 : List (List (SIns))) : Option (Bool) := if (l0.length : Int) = (l1.length : Int) then (cubbyref07_Blocks.l0 k l0 l1 0) else (some false)
def cubbyref07_Blocks.T6 : Bool × List (List Nat × List Nat) := (true, [([], []), ([], []), ([0, 1], [0, 1]), ([2], [2]), ([3], [3]), ([], []), ([], []), ([5, 6], [5, 6]), ([7], [7]), ([8], [8]), ([4, 9], [4, 9])])
def cubbyref07_Blocks.B6 : List Nat := [0, 0, 3, 7, 15, 0, 0, 96, 224, 480, 1023]
theorem cubbyref07_Blocks.tab6 : rtab .any (opsOf Tryz.f26 6) = cubbyref07_Blocks.T6 := by kernel_rfl
theorem cubbyref07_Blocks.bits6 : waitsOk cubbyref07_Blocks.T6.2 cubbyref07_Blocks.B6 = true := by kernel_rfl
def cubbyref07_Blocks.T11 : Bool × List (List Nat × List Nat) := (true, [([], []), ([], []), ([0, 1], [0, 1]), ([2], [2]), ([], []), ([3, 4], [3, 4]), ([5], [5]), ([], []), ([], []), ([7, 8], [7, 8]), ([9], [9]), ([], []), ([10, 11], [10, 11]), ([12], [12]), ([6, 13], [6, 13]), ([14], [14])])
def cubbyref07_Blocks.B11 : List Nat := [0, 0, 3, 7, 0, 31, 63, 0, 0, 384, 896, 0, 3968, 8064, 16383, 32767]
theorem cubbyref07_Blocks.tab11 : rtab .any (opsOf Tryz.f26 11) = cubbyref07_Blocks.T11 := by kernel_rfl
theorem cubbyref07_Blocks.bits11 : waitsOk cubbyref07_Blocks.T11.2 cubbyref07_Blocks.B11 = true := by kernel_rfl
set_option maxHeartbeats 8000000 in
set_option maxRecDepth 100000 in
theorem cubbyref07_Blocks.calls (k : Nat) (A0 : Option Addr) (c0 : Nat) (l0 : List (List (SIns))) (A1 : Option Addr) (c1 : Nat) (l1 : List (List (SIns))) (r : Bool) (w : World) (hr0 : Kd.C (Kd.slice 44 kIns) w A0 l0.length l0) (hc0 : l0.length ≤ c0) (hr1 : Kd.C (Kd.slice 44 kIns) w A1 l1.length l1) (hc1 : l1.length ≤ c1) (h : cubbyref07_Blocks.f k l0 l1 = some r) :
 Calls Tryz.prog 26 #[.slice A0 l0.length c0, .slice A1 l1.length c1] w fun e w' => e = .returned (.bool r) ∧ Below w.heap.size w w' := by
 have hu44 := Tryz.underlying44
 have HR0 := zA hr0
 have HC0 := zA hc0
 clear hr0 hc0
 have HR1 := zA hr1
 have HC1 := zA hc1
 clear hr1 hc1
 have HB := zA (Below.refl w.heap.size w)
 have H := h; clear h; unfold cubbyref07_Blocks.f at H
 by_cases c3 : (l0.length : Int) = (l1.length : Int)
 ·rw [zC c3] at H
  obtain ⟨c3b0, c3b1⟩ := qe c3
  have c3b2 : (l0.length == l1.length) = true := by first | simpa using c3 | (simp at c3 ⊢; omega)
  clear c3
  have H' := zA H
  clear H
  go_enter Tryz.func26, Tryz.ntmps26
  go_wp2
  go_loopg [5] k (fun kq v5 w' => ∃ (x5_1 : Int), v5 = .int .i64 x5_1 ∧ Aside0 (cubbyref07_Blocks.l0 kq l0 l1 x5_1 = some r) ∧ Aside0 (kq ≤ k) ∧ Aside0 (Below w.heap.size w w'))
  case atStart => exact ⟨(0), qT, H', ⟨Nat.le_refl _⟩, ⟨qB⟩⟩
  case round =>
   clear H'
   try clear c1; try clear c2; try clear p2; try clear c3b0 c3b1 c3b2
   obtain ⟨x5_1, rfl, HA, HK1, HB⟩ := hrel
   cases gk with
   | zero => exact absurd HA.out (by simp [cubbyref07_Blocks.l0])
   | succ k1 =>
    have H := HA.out
    clear HA
    simp only [cubbyref07_Blocks.l0] at H
    by_cases c4 : x5_1 < (l0.length : Int)
    ·rw [zC c4] at H
     have c4b0 := zF c4
     clear c4
     by_cases c5 : 0 ≤ x5_1
     ·rw [zC c5] at H
      have c5b0 := zF c5
      clear c5
      by_cases c6 : x5_1 < (l1.length : Int)
      ·rw [zC c6] at H
       have c6b0 := zF c6
       clear c6
       by_cases c7 : ((rd_LIns l0 x5_1).length : Int) = ((rd_LIns l1 x5_1).length : Int)
       ·rw [zC c7] at H
        obtain ⟨c7b0, c7b1⟩ := qe c7
        have c7b2 : ((rd_LIns l0 x5_1).length == (rd_LIns l1 x5_1).length) = true := by first | simpa using c7 | (simp at c7 ⊢; omega)
        clear c7
        have H' := zA H
        clear H
        try go_wp2
        have n0_ := zA (below_drew1 HB.out)
        clear HB
        have HB := n0_
        clear n0_
        have p304 : 0 ≤ (x5_1 : Int) := zB qA
        have q304 : x5_1 < (l0.length : Int) := zB qA
        obtain ⟨ad304, A304_0, c304_0, e304, hx304_0, hl304_0, hi304_0⟩ := at_LIns HR0.out x5_1 p304 q304
        have hw304_0 := hx304_0
        cases e304
        replace hx304_0 := (HB.out.cell (zE w _ hx304_0)).trans hx304_0
        have HR304_0 := zA hi304_0
        have HC304_0 := zA hl304_0
        clear hi304_0 hl304_0
        replace p304 := eq_true p304
        replace q304 := eq_true q304
        have p305 : 0 ≤ (x5_1 : Int) := zB qA
        have q305 : x5_1 < (l1.length : Int) := zB qA
        obtain ⟨ad305, A305_0, c305_0, e305, hx305_0, hl305_0, hi305_0⟩ := at_LIns HR1.out x5_1 p305 q305
        have hw305_0 := hx305_0
        cases e305
        replace hx305_0 := (HB.out.cell (zE w _ hx305_0)).trans hx305_0
        have HR305_0 := zA hi305_0
        have HC305_0 := zA hl305_0
        clear hi305_0 hl305_0
        replace p305 := eq_true p305
        replace q305 := eq_true q305
        refine start_ (n := 11) (S := fun w' => w'.cell? (ad304.add (x5_1).toNat) = some (.slice A304_0 (rd_LIns l0 x5_1).length c304_0) ∧ w'.cell? (ad305.add (x5_1).toNat) = some (.slice A305_0 (rd_LIns l1 x5_1).length c305_0)) (ds := []) (bA 11 0) (by kernel_rfl) rfl rfl ⟨((HB.out.cell (zE w _ hw304_0)).trans hw304_0), ((HB.out.cell (zE w _ hw305_0)).trans hw305_0)⟩ (fun hHeld => ?_); refine with_tabW cubbyref07_Blocks.tab6 cubbyref07_Blocks.bits6 (fun HT_ HW_ => ?_)
        generalize wr.drew = w8 at HB HR304_0 HR305_0 hx304_0 hx305_0 hHeld ⊢
        refine pu_ (i := 0) (N := some 18) (bA 11 1) ?_
        refine pu_ (i := 1) (N := some 19) (bA 11 3) ?_
        refine pu_ (i := 2) (N := some 20) (bA 11 7) ?_
        refine pu_ (i := 5) (N := some 23) (bA 11 39) ?_
        refine pu_ (i := 6) (N := some 24) (bA 11 103) ?_
        refine pu_ (i := 7) (N := some 25) (bA 11 231) ?_
        refine tk_ (i := 3) (N := some 21) (bA 11 239) ?_
        refine pu_ (i := 4) (N := some 22) (bA 11 255) ?_
        refine tk_ (i := 8) (N := some 26) (bA 11 511) ?_
        refine pu_ (i := 9) (N := some 27) (bA 11 1023) ?_
        refine pu_ (i := 10) (N := some 28) (bA 11 2047) ?_
        refine done_ (done_of HT_.out (by kernel_rfl)) ?_
        try go_wp2
        go_loopg [6] k1 (fun kq v6 w' => ∃ (x6_2 : Int), v6 = .int .i64 x6_2 ∧ Aside0 (cubbyref07_Blocks.l1 kq l0 l1 x5_1 x6_2 = some r) ∧ Aside0 (kq ≤ k1) ∧ Aside0 (Below w.heap.size w w'))
        case atStart => exact ⟨(0), qT, H', ⟨Nat.le_refl _⟩, ⟨qB⟩⟩
        case round =>
         clear H'
         try clear c1; try clear c2; try clear p2; try clear c3b0 c3b1 c3b2; try clear p3; try clear q3; try clear hx3; try clear c4b0; try clear c5b0; try clear c6b0; try clear c7b0 c7b1 c7b2; try clear hx304_0; try clear hx305_0; try clear p304; try clear p305; try clear q304; try clear q305
         obtain ⟨x6_2, rfl, HA, HK2, HB⟩ := hrel
         cases gk with
         | zero => exact absurd HA.out (by simp [cubbyref07_Blocks.l1])
         | succ k2 =>
          have H := HA.out
          clear HA
          simp only [cubbyref07_Blocks.l1] at H
          by_cases c9 : 0 ≤ x5_1
          ·rw [zC c9] at H
           have c9b0 := zF c9
           clear c9
           by_cases c10 : x5_1 < (l0.length : Int)
           ·rw [zC c10] at H
            have c10b0 := zF c10
            clear c10
            by_cases c11 : x6_2 < ((rd_LIns l0 x5_1).length : Int)
            ·rw [zC c11] at H
             have c11b0 := zF c11
             clear c11
             by_cases c12 : 0 ≤ x6_2
             ·rw [zC c12] at H
              have c12b0 := zF c12
              clear c12
              by_cases c13 : x5_1 < (l1.length : Int)
              ·rw [zC c13] at H
               have c13b0 := zF c13
               clear c13
               by_cases c14 : x6_2 < ((rd_LIns l1 x5_1).length : Int)
               ·rw [zC c14] at H
                have c14b0 := zF c14
                clear c14
                replace H := qb H; obtain ⟨t311, A15, H⟩ := H
                by_cases c16 : t311 = true
                ·subst c16
                 have H1 : (cubbyref07_Blocks.l1 k2 l0 l1 x5_1 (wrap64 (x6_2 + 1))) = some r := by rw [zC rfl] at H; exact H
                 clear H
                 have H := H1
                 clear H1
                 have H' := zA H
                 clear H
                 have p306 : 0 ≤ (x5_1 : Int) := zB qA
                 have q306 : x5_1 < (l0.length : Int) := zB qA
                 obtain ⟨ad306, A306_0, c306_0, e306, hx306_0, hl306_0, hi306_0⟩ := at_LIns HR0.out x5_1 p306 q306
                 obtain rfl : ad304 = ad306 := (by injection e306)
                 replace hx306_0 := (HB.out.cell (zE w _ hx306_0)).trans hx306_0
                 have HR306_0 := zA hi306_0
                 have HC306_0 := zA hl306_0
                 clear hi306_0 hl306_0
                 replace p306 := eq_true p306
                 replace q306 := eq_true q306
                 try go_wp2
                 have n0_ := zA (below_drew1 HB.out)
                 clear HB
                 have HB := n0_
                 clear n0_
                 have p307 : 0 ≤ (x5_1 : Int) := zB qA
                 have q307 : x5_1 < (l0.length : Int) := zB qA
                 obtain ⟨ad307, A307_0, c307_0, e307, hx307_0, hl307_0, hi307_0⟩ := at_LIns HR0.out x5_1 p307 q307
                 have hw307_0 := hx307_0
                 obtain rfl : ad304 = ad307 := (by injection e307)
                 replace hx307_0 := (HB.out.cell (zE w _ hx307_0)).trans hx307_0
                 have HR307_0 := zA hi307_0
                 have HC307_0 := zA hl307_0
                 clear hi307_0 hl307_0
                 replace p307 := eq_true p307
                 replace q307 := eq_true q307
                 have p308 : 0 ≤ (x6_2 : Int) := zB qA
                 have q308 : x6_2 < ((rd_LIns l0 x5_1).length : Int) := zB qA
                 obtain ⟨ad308, A308_5, c308_5, e308, hx308_0, hx308_1, hx308_2, hx308_3, hx308_4, hx308_5, hl308_5, hi308_5⟩ := at_TIns HR307_0.out x6_2 p308 q308
                 have hw308_5 := hx308_5
                 have hw308_4 := hx308_4
                 have hw308_3 := hx308_3
                 have hw308_2 := hx308_2
                 have hw308_1 := hx308_1
                 have hw308_0 := hx308_0
                 cases e308
                 replace hx308_0 := (HB.out.cell (zE w _ hx308_0)).trans hx308_0
                 replace hx308_1 := (HB.out.cell (zE w _ hx308_1)).trans hx308_1
                 replace hx308_2 := (HB.out.cell (zE w _ hx308_2)).trans hx308_2
                 replace hx308_3 := (HB.out.cell (zE w _ hx308_3)).trans hx308_3
                 replace hx308_4 := (HB.out.cell (zE w _ hx308_4)).trans hx308_4
                 replace hx308_5 := (HB.out.cell (zE w _ hx308_5)).trans hx308_5
                 have HR308_5 := zA hi308_5
                 have HC308_5 := zA hl308_5
                 clear hi308_5 hl308_5
                 replace p308 := eq_true p308
                 replace q308 := eq_true q308
                 have p309 : 0 ≤ (x5_1 : Int) := zB qA
                 have q309 : x5_1 < (l1.length : Int) := zB qA
                 obtain ⟨ad309, A309_0, c309_0, e309, hx309_0, hl309_0, hi309_0⟩ := at_LIns HR1.out x5_1 p309 q309
                 have hw309_0 := hx309_0
                 obtain rfl : ad305 = ad309 := (by injection e309)
                 replace hx309_0 := (HB.out.cell (zE w _ hx309_0)).trans hx309_0
                 have HR309_0 := zA hi309_0
                 have HC309_0 := zA hl309_0
                 clear hi309_0 hl309_0
                 replace p309 := eq_true p309
                 replace q309 := eq_true q309
                 have p310 : 0 ≤ (x6_2 : Int) := zB qA
                 have q310 : x6_2 < ((rd_LIns l1 x5_1).length : Int) := zB qA
                 obtain ⟨ad310, A310_5, c310_5, e310, hx310_0, hx310_1, hx310_2, hx310_3, hx310_4, hx310_5, hl310_5, hi310_5⟩ := at_TIns HR309_0.out x6_2 p310 q310
                 have hw310_5 := hx310_5
                 have hw310_4 := hx310_4
                 have hw310_3 := hx310_3
                 have hw310_2 := hx310_2
                 have hw310_1 := hx310_1
                 have hw310_0 := hx310_0
                 cases e310
                 replace hx310_0 := (HB.out.cell (zE w _ hx310_0)).trans hx310_0
                 replace hx310_1 := (HB.out.cell (zE w _ hx310_1)).trans hx310_1
                 replace hx310_2 := (HB.out.cell (zE w _ hx310_2)).trans hx310_2
                 replace hx310_3 := (HB.out.cell (zE w _ hx310_3)).trans hx310_3
                 replace hx310_4 := (HB.out.cell (zE w _ hx310_4)).trans hx310_4
                 replace hx310_5 := (HB.out.cell (zE w _ hx310_5)).trans hx310_5
                 have HR310_5 := zA hi310_5
                 have HC310_5 := zA hl310_5
                 clear hi310_5 hl310_5
                 replace p310 := eq_true p310
                 replace q310 := eq_true q310
                 refine start_ (n := 16) (S := fun w' => w'.cell? (ad304.add (x5_1).toNat) = some (.slice (some ad308) (rd_LIns l0 x5_1).length c307_0) ∧ w'.cell? (ad308.add ((x6_2).toNat * 6)) = some (.int .i64 ((rd_TIns (rd_LIns l0 x5_1) x6_2).f0)) ∧ w'.cell? ⟨(ad308.add ((x6_2).toNat * 6)).block, (ad308.add ((x6_2).toNat * 6)).off + 1, none⟩ = some (.int .i64 ((rd_TIns (rd_LIns l0 x5_1) x6_2).f1)) ∧ w'.cell? ⟨(ad308.add ((x6_2).toNat * 6)).block, (ad308.add ((x6_2).toNat * 6)).off + 2, none⟩ = some (.int .i64 ((rd_TIns (rd_LIns l0 x5_1) x6_2).f2)) ∧ w'.cell? ⟨(ad308.add ((x6_2).toNat * 6)).block, (ad308.add ((x6_2).toNat * 6)).off + 3, none⟩ = some (.int .i64 ((rd_TIns (rd_LIns l0 x5_1) x6_2).f3)) ∧ w'.cell? ⟨(ad308.add ((x6_2).toNat * 6)).block, (ad308.add ((x6_2).toNat * 6)).off + 4, none⟩ = some (.string ((rd_TIns (rd_LIns l0 x5_1) x6_2).f4)) ∧ w'.cell? ⟨(ad308.add ((x6_2).toNat * 6)).block, (ad308.add ((x6_2).toNat * 6)).off + 5, none⟩ = some (.slice A308_5 ((rd_TIns (rd_LIns l0 x5_1) x6_2).f5).length c308_5) ∧ w'.cell? (ad305.add (x5_1).toNat) = some (.slice (some ad310) (rd_LIns l1 x5_1).length c309_0) ∧ w'.cell? (ad310.add ((x6_2).toNat * 6)) = some (.int .i64 ((rd_TIns (rd_LIns l1 x5_1) x6_2).f0)) ∧ w'.cell? ⟨(ad310.add ((x6_2).toNat * 6)).block, (ad310.add ((x6_2).toNat * 6)).off + 1, none⟩ = some (.int .i64 ((rd_TIns (rd_LIns l1 x5_1) x6_2).f1)) ∧ w'.cell? ⟨(ad310.add ((x6_2).toNat * 6)).block, (ad310.add ((x6_2).toNat * 6)).off + 2, none⟩ = some (.int .i64 ((rd_TIns (rd_LIns l1 x5_1) x6_2).f2)) ∧ w'.cell? ⟨(ad310.add ((x6_2).toNat * 6)).block, (ad310.add ((x6_2).toNat * 6)).off + 3, none⟩ = some (.int .i64 ((rd_TIns (rd_LIns l1 x5_1) x6_2).f3)) ∧ w'.cell? ⟨(ad310.add ((x6_2).toNat * 6)).block, (ad310.add ((x6_2).toNat * 6)).off + 4, none⟩ = some (.string ((rd_TIns (rd_LIns l1 x5_1) x6_2).f4)) ∧ w'.cell? ⟨(ad310.add ((x6_2).toNat * 6)).block, (ad310.add ((x6_2).toNat * 6)).off + 5, none⟩ = some (.slice A310_5 ((rd_TIns (rd_LIns l1 x5_1) x6_2).f5).length c310_5)) (ds := []) (bA 16 0) (by kernel_rfl) rfl rfl ⟨((HB.out.cell (zE w _ hw307_0)).trans hw307_0), ((HB.out.cell (zE w _ hw308_0)).trans hw308_0), ((HB.out.cell (zE w _ hw308_1)).trans hw308_1), ((HB.out.cell (zE w _ hw308_2)).trans hw308_2), ((HB.out.cell (zE w _ hw308_3)).trans hw308_3), ((HB.out.cell (zE w _ hw308_4)).trans hw308_4), ((HB.out.cell (zE w _ hw308_5)).trans hw308_5), ((HB.out.cell (zE w _ hw309_0)).trans hw309_0), ((HB.out.cell (zE w _ hw310_0)).trans hw310_0), ((HB.out.cell (zE w _ hw310_1)).trans hw310_1), ((HB.out.cell (zE w _ hw310_2)).trans hw310_2), ((HB.out.cell (zE w _ hw310_3)).trans hw310_3), ((HB.out.cell (zE w _ hw310_4)).trans hw310_4), ((HB.out.cell (zE w _ hw310_5)).trans hw310_5)⟩ (fun hHeld => ?_); refine with_tabW cubbyref07_Blocks.tab11 cubbyref07_Blocks.bits11 (fun HT_ HW_ => ?_)
                 generalize wr.drew = w17 at HB HR307_0 HR308_5 HR309_0 HR310_5 hx307_0 hx308_0 hx308_1 hx308_2 hx308_3 hx308_4 hx308_5 hx309_0 hx310_0 hx310_1 hx310_2 hx310_3 hx310_4 hx310_5 hHeld ⊢
                 refine pu_ (i := 0) (N := some 38) (bA 16 1) ?_
                 refine pu_ (i := 1) (N := some 39) (bA 16 3) ?_
                 refine pu_ (i := 2) (N := some 40) (bA 16 7) ?_
                 refine pu_ (i := 4) (N := some 42) (bA 16 23) ?_
                 refine pu_ (i := 7) (N := some 45) (bA 16 151) ?_
                 refine pu_ (i := 8) (N := some 46) (bA 16 407) ?_
                 refine pu_ (i := 9) (N := some 47) (bA 16 919) ?_
                 refine pu_ (i := 11) (N := some 49) (bA 16 2967) ?_
                 refine tk_ (i := 3) (N := some 41) (bA 16 2975) ?_
                 refine pu_ (i := 5) (N := some 43) (bA 16 3007) ?_
                 refine tk_ (i := 6) (N := some 44) (bA 16 3071) ?_
                 refine tk_ (i := 10) (N := some 48) (bA 16 4095) ?_
                 refine pu_ (i := 12) (N := some 50) (bA 16 8191) ?_
                 refine tk_ (i := 13) (N := some 51) (bA 16 16383) ?_
                 refine one_ (i := 14) (N := some 52) (bA 16 32767) rfl rfl (one_of HT_.out (by kernel_rfl)) (by decide) (fun K hK => ?_)
                 refine goes_ Tryz.func51 (by kernel_rfl) rfl #[.agg #[.int .i64 ((rd_TIns (rd_LIns l0 x5_1) x6_2).f0), .int .i64 ((rd_TIns (rd_LIns l0 x5_1) x6_2).f1), .int .i64 ((rd_TIns (rd_LIns l0 x5_1) x6_2).f2), .int .i64 ((rd_TIns (rd_LIns l0 x5_1) x6_2).f3), .string ((rd_TIns (rd_LIns l0 x5_1) x6_2).f4), .slice A308_5 ((rd_TIns (rd_LIns l0 x5_1) x6_2).f5).length c308_5], .agg #[.int .i64 ((rd_TIns (rd_LIns l1 x5_1) x6_2).f0), .int .i64 ((rd_TIns (rd_LIns l1 x5_1) x6_2).f1), .int .i64 ((rd_TIns (rd_LIns l1 x5_1) x6_2).f2), .int .i64 ((rd_TIns (rd_LIns l1 x5_1) x6_2).f3), .string ((rd_TIns (rd_LIns l1 x5_1) x6_2).f4), .slice A310_5 ((rd_TIns (rd_LIns l1 x5_1) x6_2).f5).length c310_5]] (by rfl) rfl rfl qL ?_
                 with_reducible refine (cubbyref07_Same.calls k2 ((rd_TIns (rd_LIns l0 x5_1) x6_2).f0) ((rd_TIns (rd_LIns l0 x5_1) x6_2).f1) ((rd_TIns (rd_LIns l0 x5_1) x6_2).f2) ((rd_TIns (rd_LIns l0 x5_1) x6_2).f3) ((rd_TIns (rd_LIns l0 x5_1) x6_2).f4) _ _ ((rd_TIns (rd_LIns l0 x5_1) x6_2).f5) ((rd_TIns (rd_LIns l1 x5_1) x6_2).f0) ((rd_TIns (rd_LIns l1 x5_1) x6_2).f1) ((rd_TIns (rd_LIns l1 x5_1) x6_2).f2) ((rd_TIns (rd_LIns l1 x5_1) x6_2).f3) ((rd_TIns (rd_LIns l1 x5_1) x6_2).f4) _ _ ((rd_TIns (rd_LIns l1 x5_1) x6_2).f5) true _ ?side1 ?side2 ?side3 ?side4 A15.out).mono ?_
                 (case side1 => exact qCB HR308_5.out)
                 (case side2 => exact HC308_5.out)
                 (case side3 => exact qCB HR310_5.out)
                 (case side4 => exact HC310_5.out)
                 rintro e w18 ⟨rfl, hb⟩
                 refine ⟨_, rfl, ?_⟩
                 have n0_ := qH hb
                 clear HB
                 have HB := n0_
                 clear n0_
                 (try clear hb)
                 (try clear hb2)
                 (try clear hk)
                 (try clear hi)
                 refine hK.out _ _ ⟨((HB.out.cell (zE w _ hw307_0)).trans hw307_0), ((HB.out.cell (zE w _ hw308_0)).trans hw308_0), ((HB.out.cell (zE w _ hw308_1)).trans hw308_1), ((HB.out.cell (zE w _ hw308_2)).trans hw308_2), ((HB.out.cell (zE w _ hw308_3)).trans hw308_3), ((HB.out.cell (zE w _ hw308_4)).trans hw308_4), ((HB.out.cell (zE w _ hw308_5)).trans hw308_5), ((HB.out.cell (zE w _ hw309_0)).trans hw309_0), ((HB.out.cell (zE w _ hw310_0)).trans hw310_0), ((HB.out.cell (zE w _ hw310_1)).trans hw310_1), ((HB.out.cell (zE w _ hw310_2)).trans hw310_2), ((HB.out.cell (zE w _ hw310_3)).trans hw310_3), ((HB.out.cell (zE w _ hw310_4)).trans hw310_4), ((HB.out.cell (zE w _ hw310_5)).trans hw310_5)⟩ (fun hHeld => ?_)
                 clear hK K
                 refine norm_ (a' := ?_) ?_ ?_
                 rotate_left
                 ·show Act.put _ (some 52) _ = _
                  simp only [Act.put, List.setIfInBounds_toArray, List.set_cons_zero, List.set_cons_succ, i64_w, i32_w]
                  rfl
                 refine pu_ (i := 15) (N := some 53) (bA 16 65535) ?_
                 refine done_ (done_of HT_.out (by kernel_rfl)) ?_
                 try go_wp2
                 go_roundg k2
                 case measure => have := HK1.out; have := HK2.out; omega
                 case rel => exact ⟨(wrap64 (x6_2 + 1)), qT, H', ⟨by have := HK1.out; have := HK2.out; omega⟩, ⟨qB⟩⟩
                ·replace c16 := Bool.eq_false_iff.mpr c16
                 subst c16
                 have H1 : (some false) = some r := by rw [zD (show ¬ (false = true) by decide)] at H; exact H
                 clear H
                 have H := H1
                 clear H1
                 obtain rfl := zI H
                 have p306 : 0 ≤ (x5_1 : Int) := zB qA
                 have q306 : x5_1 < (l0.length : Int) := zB qA
                 obtain ⟨ad306, A306_0, c306_0, e306, hx306_0, hl306_0, hi306_0⟩ := at_LIns HR0.out x5_1 p306 q306
                 obtain rfl : ad304 = ad306 := (by injection e306)
                 replace hx306_0 := (HB.out.cell (zE w _ hx306_0)).trans hx306_0
                 have HR306_0 := zA hi306_0
                 have HC306_0 := zA hl306_0
                 clear hi306_0 hl306_0
                 replace p306 := eq_true p306
                 replace q306 := eq_true q306
                 try go_wp2
                 have n0_ := zA (below_drew1 HB.out)
                 clear HB
                 have HB := n0_
                 clear n0_
                 have p307 : 0 ≤ (x5_1 : Int) := zB qA
                 have q307 : x5_1 < (l0.length : Int) := zB qA
                 obtain ⟨ad307, A307_0, c307_0, e307, hx307_0, hl307_0, hi307_0⟩ := at_LIns HR0.out x5_1 p307 q307
                 have hw307_0 := hx307_0
                 obtain rfl : ad304 = ad307 := (by injection e307)
                 replace hx307_0 := (HB.out.cell (zE w _ hx307_0)).trans hx307_0
                 have HR307_0 := zA hi307_0
                 have HC307_0 := zA hl307_0
                 clear hi307_0 hl307_0
                 replace p307 := eq_true p307
                 replace q307 := eq_true q307
                 have p308 : 0 ≤ (x6_2 : Int) := zB qA
                 have q308 : x6_2 < ((rd_LIns l0 x5_1).length : Int) := zB qA
                 obtain ⟨ad308, A308_5, c308_5, e308, hx308_0, hx308_1, hx308_2, hx308_3, hx308_4, hx308_5, hl308_5, hi308_5⟩ := at_TIns HR307_0.out x6_2 p308 q308
                 have hw308_5 := hx308_5
                 have hw308_4 := hx308_4
                 have hw308_3 := hx308_3
                 have hw308_2 := hx308_2
                 have hw308_1 := hx308_1
                 have hw308_0 := hx308_0
                 cases e308
                 replace hx308_0 := (HB.out.cell (zE w _ hx308_0)).trans hx308_0
                 replace hx308_1 := (HB.out.cell (zE w _ hx308_1)).trans hx308_1
                 replace hx308_2 := (HB.out.cell (zE w _ hx308_2)).trans hx308_2
                 replace hx308_3 := (HB.out.cell (zE w _ hx308_3)).trans hx308_3
                 replace hx308_4 := (HB.out.cell (zE w _ hx308_4)).trans hx308_4
                 replace hx308_5 := (HB.out.cell (zE w _ hx308_5)).trans hx308_5
                 have HR308_5 := zA hi308_5
                 have HC308_5 := zA hl308_5
                 clear hi308_5 hl308_5
                 replace p308 := eq_true p308
                 replace q308 := eq_true q308
                 have p309 : 0 ≤ (x5_1 : Int) := zB qA
                 have q309 : x5_1 < (l1.length : Int) := zB qA
                 obtain ⟨ad309, A309_0, c309_0, e309, hx309_0, hl309_0, hi309_0⟩ := at_LIns HR1.out x5_1 p309 q309
                 have hw309_0 := hx309_0
                 obtain rfl : ad305 = ad309 := (by injection e309)
                 replace hx309_0 := (HB.out.cell (zE w _ hx309_0)).trans hx309_0
                 have HR309_0 := zA hi309_0
                 have HC309_0 := zA hl309_0
                 clear hi309_0 hl309_0
                 replace p309 := eq_true p309
                 replace q309 := eq_true q309
                 have p310 : 0 ≤ (x6_2 : Int) := zB qA
                 have q310 : x6_2 < ((rd_LIns l1 x5_1).length : Int) := zB qA
                 obtain ⟨ad310, A310_5, c310_5, e310, hx310_0, hx310_1, hx310_2, hx310_3, hx310_4, hx310_5, hl310_5, hi310_5⟩ := at_TIns HR309_0.out x6_2 p310 q310
                 have hw310_5 := hx310_5
                 have hw310_4 := hx310_4
                 have hw310_3 := hx310_3
                 have hw310_2 := hx310_2
                 have hw310_1 := hx310_1
                 have hw310_0 := hx310_0
                 cases e310
                 replace hx310_0 := (HB.out.cell (zE w _ hx310_0)).trans hx310_0
                 replace hx310_1 := (HB.out.cell (zE w _ hx310_1)).trans hx310_1
                 replace hx310_2 := (HB.out.cell (zE w _ hx310_2)).trans hx310_2
                 replace hx310_3 := (HB.out.cell (zE w _ hx310_3)).trans hx310_3
                 replace hx310_4 := (HB.out.cell (zE w _ hx310_4)).trans hx310_4
                 replace hx310_5 := (HB.out.cell (zE w _ hx310_5)).trans hx310_5
                 have HR310_5 := zA hi310_5
                 have HC310_5 := zA hl310_5
                 clear hi310_5 hl310_5
                 replace p310 := eq_true p310
                 replace q310 := eq_true q310
                 refine start_ (n := 16) (S := fun w' => w'.cell? (ad304.add (x5_1).toNat) = some (.slice (some ad308) (rd_LIns l0 x5_1).length c307_0) ∧ w'.cell? (ad308.add ((x6_2).toNat * 6)) = some (.int .i64 ((rd_TIns (rd_LIns l0 x5_1) x6_2).f0)) ∧ w'.cell? ⟨(ad308.add ((x6_2).toNat * 6)).block, (ad308.add ((x6_2).toNat * 6)).off + 1, none⟩ = some (.int .i64 ((rd_TIns (rd_LIns l0 x5_1) x6_2).f1)) ∧ w'.cell? ⟨(ad308.add ((x6_2).toNat * 6)).block, (ad308.add ((x6_2).toNat * 6)).off + 2, none⟩ = some (.int .i64 ((rd_TIns (rd_LIns l0 x5_1) x6_2).f2)) ∧ w'.cell? ⟨(ad308.add ((x6_2).toNat * 6)).block, (ad308.add ((x6_2).toNat * 6)).off + 3, none⟩ = some (.int .i64 ((rd_TIns (rd_LIns l0 x5_1) x6_2).f3)) ∧ w'.cell? ⟨(ad308.add ((x6_2).toNat * 6)).block, (ad308.add ((x6_2).toNat * 6)).off + 4, none⟩ = some (.string ((rd_TIns (rd_LIns l0 x5_1) x6_2).f4)) ∧ w'.cell? ⟨(ad308.add ((x6_2).toNat * 6)).block, (ad308.add ((x6_2).toNat * 6)).off + 5, none⟩ = some (.slice A308_5 ((rd_TIns (rd_LIns l0 x5_1) x6_2).f5).length c308_5) ∧ w'.cell? (ad305.add (x5_1).toNat) = some (.slice (some ad310) (rd_LIns l1 x5_1).length c309_0) ∧ w'.cell? (ad310.add ((x6_2).toNat * 6)) = some (.int .i64 ((rd_TIns (rd_LIns l1 x5_1) x6_2).f0)) ∧ w'.cell? ⟨(ad310.add ((x6_2).toNat * 6)).block, (ad310.add ((x6_2).toNat * 6)).off + 1, none⟩ = some (.int .i64 ((rd_TIns (rd_LIns l1 x5_1) x6_2).f1)) ∧ w'.cell? ⟨(ad310.add ((x6_2).toNat * 6)).block, (ad310.add ((x6_2).toNat * 6)).off + 2, none⟩ = some (.int .i64 ((rd_TIns (rd_LIns l1 x5_1) x6_2).f2)) ∧ w'.cell? ⟨(ad310.add ((x6_2).toNat * 6)).block, (ad310.add ((x6_2).toNat * 6)).off + 3, none⟩ = some (.int .i64 ((rd_TIns (rd_LIns l1 x5_1) x6_2).f3)) ∧ w'.cell? ⟨(ad310.add ((x6_2).toNat * 6)).block, (ad310.add ((x6_2).toNat * 6)).off + 4, none⟩ = some (.string ((rd_TIns (rd_LIns l1 x5_1) x6_2).f4)) ∧ w'.cell? ⟨(ad310.add ((x6_2).toNat * 6)).block, (ad310.add ((x6_2).toNat * 6)).off + 5, none⟩ = some (.slice A310_5 ((rd_TIns (rd_LIns l1 x5_1) x6_2).f5).length c310_5)) (ds := []) (bA 16 0) (by kernel_rfl) rfl rfl ⟨((HB.out.cell (zE w _ hw307_0)).trans hw307_0), ((HB.out.cell (zE w _ hw308_0)).trans hw308_0), ((HB.out.cell (zE w _ hw308_1)).trans hw308_1), ((HB.out.cell (zE w _ hw308_2)).trans hw308_2), ((HB.out.cell (zE w _ hw308_3)).trans hw308_3), ((HB.out.cell (zE w _ hw308_4)).trans hw308_4), ((HB.out.cell (zE w _ hw308_5)).trans hw308_5), ((HB.out.cell (zE w _ hw309_0)).trans hw309_0), ((HB.out.cell (zE w _ hw310_0)).trans hw310_0), ((HB.out.cell (zE w _ hw310_1)).trans hw310_1), ((HB.out.cell (zE w _ hw310_2)).trans hw310_2), ((HB.out.cell (zE w _ hw310_3)).trans hw310_3), ((HB.out.cell (zE w _ hw310_4)).trans hw310_4), ((HB.out.cell (zE w _ hw310_5)).trans hw310_5)⟩ (fun hHeld => ?_); refine with_tabW cubbyref07_Blocks.tab11 cubbyref07_Blocks.bits11 (fun HT_ HW_ => ?_)
                 generalize wr.drew = w19 at HB HR307_0 HR308_5 HR309_0 HR310_5 hx307_0 hx308_0 hx308_1 hx308_2 hx308_3 hx308_4 hx308_5 hx309_0 hx310_0 hx310_1 hx310_2 hx310_3 hx310_4 hx310_5 hHeld ⊢
                 refine pu_ (i := 0) (N := some 38) (bA 16 1) ?_
                 refine pu_ (i := 1) (N := some 39) (bA 16 3) ?_
                 refine pu_ (i := 2) (N := some 40) (bA 16 7) ?_
                 refine pu_ (i := 4) (N := some 42) (bA 16 23) ?_
                 refine pu_ (i := 7) (N := some 45) (bA 16 151) ?_
                 refine pu_ (i := 8) (N := some 46) (bA 16 407) ?_
                 refine pu_ (i := 9) (N := some 47) (bA 16 919) ?_
                 refine pu_ (i := 11) (N := some 49) (bA 16 2967) ?_
                 refine tk_ (i := 3) (N := some 41) (bA 16 2975) ?_
                 refine pu_ (i := 5) (N := some 43) (bA 16 3007) ?_
                 refine tk_ (i := 6) (N := some 44) (bA 16 3071) ?_
                 refine tk_ (i := 10) (N := some 48) (bA 16 4095) ?_
                 refine pu_ (i := 12) (N := some 50) (bA 16 8191) ?_
                 refine tk_ (i := 13) (N := some 51) (bA 16 16383) ?_
                 refine one_ (i := 14) (N := some 52) (bA 16 32767) rfl rfl (one_of HT_.out (by kernel_rfl)) (by decide) (fun K hK => ?_)
                 refine goes_ Tryz.func51 (by kernel_rfl) rfl #[.agg #[.int .i64 ((rd_TIns (rd_LIns l0 x5_1) x6_2).f0), .int .i64 ((rd_TIns (rd_LIns l0 x5_1) x6_2).f1), .int .i64 ((rd_TIns (rd_LIns l0 x5_1) x6_2).f2), .int .i64 ((rd_TIns (rd_LIns l0 x5_1) x6_2).f3), .string ((rd_TIns (rd_LIns l0 x5_1) x6_2).f4), .slice A308_5 ((rd_TIns (rd_LIns l0 x5_1) x6_2).f5).length c308_5], .agg #[.int .i64 ((rd_TIns (rd_LIns l1 x5_1) x6_2).f0), .int .i64 ((rd_TIns (rd_LIns l1 x5_1) x6_2).f1), .int .i64 ((rd_TIns (rd_LIns l1 x5_1) x6_2).f2), .int .i64 ((rd_TIns (rd_LIns l1 x5_1) x6_2).f3), .string ((rd_TIns (rd_LIns l1 x5_1) x6_2).f4), .slice A310_5 ((rd_TIns (rd_LIns l1 x5_1) x6_2).f5).length c310_5]] (by rfl) rfl rfl qL ?_
                 with_reducible refine (cubbyref07_Same.calls k2 ((rd_TIns (rd_LIns l0 x5_1) x6_2).f0) ((rd_TIns (rd_LIns l0 x5_1) x6_2).f1) ((rd_TIns (rd_LIns l0 x5_1) x6_2).f2) ((rd_TIns (rd_LIns l0 x5_1) x6_2).f3) ((rd_TIns (rd_LIns l0 x5_1) x6_2).f4) _ _ ((rd_TIns (rd_LIns l0 x5_1) x6_2).f5) ((rd_TIns (rd_LIns l1 x5_1) x6_2).f0) ((rd_TIns (rd_LIns l1 x5_1) x6_2).f1) ((rd_TIns (rd_LIns l1 x5_1) x6_2).f2) ((rd_TIns (rd_LIns l1 x5_1) x6_2).f3) ((rd_TIns (rd_LIns l1 x5_1) x6_2).f4) _ _ ((rd_TIns (rd_LIns l1 x5_1) x6_2).f5) false _ ?side1 ?side2 ?side3 ?side4 A15.out).mono ?_
                 (case side1 => exact qCB HR308_5.out)
                 (case side2 => exact HC308_5.out)
                 (case side3 => exact qCB HR310_5.out)
                 (case side4 => exact HC310_5.out)
                 rintro e w20 ⟨rfl, hb⟩
                 refine ⟨_, rfl, ?_⟩
                 have n0_ := qH hb
                 clear HB
                 have HB := n0_
                 clear n0_
                 (try clear hb)
                 (try clear hb2)
                 (try clear hk)
                 (try clear hi)
                 refine hK.out _ _ ⟨((HB.out.cell (zE w _ hw307_0)).trans hw307_0), ((HB.out.cell (zE w _ hw308_0)).trans hw308_0), ((HB.out.cell (zE w _ hw308_1)).trans hw308_1), ((HB.out.cell (zE w _ hw308_2)).trans hw308_2), ((HB.out.cell (zE w _ hw308_3)).trans hw308_3), ((HB.out.cell (zE w _ hw308_4)).trans hw308_4), ((HB.out.cell (zE w _ hw308_5)).trans hw308_5), ((HB.out.cell (zE w _ hw309_0)).trans hw309_0), ((HB.out.cell (zE w _ hw310_0)).trans hw310_0), ((HB.out.cell (zE w _ hw310_1)).trans hw310_1), ((HB.out.cell (zE w _ hw310_2)).trans hw310_2), ((HB.out.cell (zE w _ hw310_3)).trans hw310_3), ((HB.out.cell (zE w _ hw310_4)).trans hw310_4), ((HB.out.cell (zE w _ hw310_5)).trans hw310_5)⟩ (fun hHeld => ?_)
                 clear hK K
                 refine norm_ (a' := ?_) ?_ ?_
                 rotate_left
                 ·show Act.put _ (some 52) _ = _
                  simp only [Act.put, List.setIfInBounds_toArray, List.set_cons_zero, List.set_cons_succ, i64_w, i32_w]
                  rfl
                 refine pu_ (i := 15) (N := some 53) (bA 16 65535) ?_
                 refine done_ (done_of HT_.out (by kernel_rfl)) ?_
                 try go_wp2
                 go_ret
                 exact ⟨qE, qB⟩
               ·rw [zD c14] at H
                exact absurd H (by simp)
              ·rw [zD c13] at H
               exact absurd H (by simp)
             ·rw [zD c12] at H
              exact absurd H (by simp)
            ·rw [zD c11] at H
             have c11b0 := zG c11
             clear c11
             have H' := zA H
             clear H
             have p306 : 0 ≤ (x5_1 : Int) := zB qA
             have q306 : x5_1 < (l0.length : Int) := zB qA
             obtain ⟨ad306, A306_0, c306_0, e306, hx306_0, hl306_0, hi306_0⟩ := at_LIns HR0.out x5_1 p306 q306
             obtain rfl : ad304 = ad306 := (by injection e306)
             replace hx306_0 := (HB.out.cell (zE w _ hx306_0)).trans hx306_0
             have HR306_0 := zA hi306_0
             have HC306_0 := zA hl306_0
             clear hi306_0 hl306_0
             replace p306 := eq_true p306
             replace q306 := eq_true q306
             go_wp2
             go_roundg k2
             case measure => have := HK1.out; have := HK2.out; omega
             case rel => exact ⟨(wrap64 (x5_1 + 1)), qT, H', ⟨by have := HK1.out; have := HK2.out; omega⟩, ⟨qB⟩⟩
           ·rw [zD c10] at H
            exact absurd H (by simp)
          ·rw [zD c9] at H
           exact absurd H (by simp)
       ·rw [zD c7] at H
        obtain ⟨c7b0, c7b1⟩ := qn c7
        have c7b2 : ((rd_LIns l0 x5_1).length == (rd_LIns l1 x5_1).length) = false := by first | simpa using c7 | (simp at c7 ⊢; omega)
        obtain rfl := zI H
        try go_wp2
        have n0_ := zA (below_drew1 HB.out)
        clear HB
        have HB := n0_
        clear n0_
        have p304 : 0 ≤ (x5_1 : Int) := zB qA
        have q304 : x5_1 < (l0.length : Int) := zB qA
        obtain ⟨ad304, A304_0, c304_0, e304, hx304_0, hl304_0, hi304_0⟩ := at_LIns HR0.out x5_1 p304 q304
        have hw304_0 := hx304_0
        cases e304
        replace hx304_0 := (HB.out.cell (zE w _ hx304_0)).trans hx304_0
        have HR304_0 := zA hi304_0
        have HC304_0 := zA hl304_0
        clear hi304_0 hl304_0
        replace p304 := eq_true p304
        replace q304 := eq_true q304
        have p305 : 0 ≤ (x5_1 : Int) := zB qA
        have q305 : x5_1 < (l1.length : Int) := zB qA
        obtain ⟨ad305, A305_0, c305_0, e305, hx305_0, hl305_0, hi305_0⟩ := at_LIns HR1.out x5_1 p305 q305
        have hw305_0 := hx305_0
        cases e305
        replace hx305_0 := (HB.out.cell (zE w _ hx305_0)).trans hx305_0
        have HR305_0 := zA hi305_0
        have HC305_0 := zA hl305_0
        clear hi305_0 hl305_0
        replace p305 := eq_true p305
        replace q305 := eq_true q305
        refine start_ (n := 11) (S := fun w' => w'.cell? (ad304.add (x5_1).toNat) = some (.slice A304_0 (rd_LIns l0 x5_1).length c304_0) ∧ w'.cell? (ad305.add (x5_1).toNat) = some (.slice A305_0 (rd_LIns l1 x5_1).length c305_0)) (ds := []) (bA 11 0) (by kernel_rfl) rfl rfl ⟨((HB.out.cell (zE w _ hw304_0)).trans hw304_0), ((HB.out.cell (zE w _ hw305_0)).trans hw305_0)⟩ (fun hHeld => ?_); refine with_tabW cubbyref07_Blocks.tab6 cubbyref07_Blocks.bits6 (fun HT_ HW_ => ?_)
        generalize wr.drew = w21 at HB HR304_0 HR305_0 hx304_0 hx305_0 hHeld ⊢
        refine pu_ (i := 0) (N := some 18) (bA 11 1) ?_
        refine pu_ (i := 1) (N := some 19) (bA 11 3) ?_
        refine pu_ (i := 2) (N := some 20) (bA 11 7) ?_
        refine pu_ (i := 5) (N := some 23) (bA 11 39) ?_
        refine pu_ (i := 6) (N := some 24) (bA 11 103) ?_
        refine pu_ (i := 7) (N := some 25) (bA 11 231) ?_
        refine tk_ (i := 3) (N := some 21) (bA 11 239) ?_
        refine pu_ (i := 4) (N := some 22) (bA 11 255) ?_
        refine tk_ (i := 8) (N := some 26) (bA 11 511) ?_
        refine pu_ (i := 9) (N := some 27) (bA 11 1023) ?_
        refine pu_ (i := 10) (N := some 28) (bA 11 2047) ?_
        refine done_ (done_of HT_.out (by kernel_rfl)) ?_
        try go_wp2
        go_ret
        exact ⟨qE, qB⟩
      ·rw [zD c6] at H
       exact absurd H (by simp)
     ·rw [zD c5] at H
      exact absurd H (by simp)
    ·rw [zD c4] at H
     have c4b0 := zG c4
     clear c4
     obtain rfl := zI H
     go_wp2
     go_ret
     exact ⟨qE, qB⟩
 ·rw [zD c3] at H
  obtain ⟨c3b0, c3b1⟩ := qn c3
  have c3b2 : (l0.length == l1.length) = false := by first | simpa using c3 | (simp at c3 ⊢; omega)
  obtain rfl := zI H
  go_enter Tryz.func26, Tryz.ntmps26
  go_wp2
  go_ret
  exact ⟨qE, qB⟩

def cubbylaw08_sameFunc.f (k : Nat) (a0_0 : ByteArray) (a0_1 : Int) (a0_2 : Int) (l0_3 : List (List (SIns))) (a1_0 : ByteArray) (a1_1 : Int) (a1_2 : Int) (l1_3 : List (List (SIns))) : Option (Bool) := if a0_0.toList = a1_0.toList then (if a0_1 = a1_1 then (if a0_2 = a1_2 then ((cubbyref07_Blocks.f k l0_3 l1_3).bind fun t314 => (some t314)) else (some false)) else (some false)) else (some false)
set_option maxHeartbeats 8000000 in
set_option maxRecDepth 100000 in
theorem cubbylaw08_sameFunc.calls (k : Nat) (a0_0 : ByteArray) (a0_1 : Int) (a0_2 : Int) (A0_3 : Option Addr) (c0_3 : Nat) (l0_3 : List (List (SIns))) (a1_0 : ByteArray) (a1_1 : Int) (a1_2 : Int) (A1_3 : Option Addr) (c1_3 : Nat) (l1_3 : List (List (SIns))) (r : Bool) (w : World) (hr0_3 : Kd.C (Kd.slice 44 kIns) w A0_3 l0_3.length l0_3) (hc0_3 : l0_3.length ≤ c0_3) (hr1_3 : Kd.C (Kd.slice 44 kIns) w A1_3 l1_3.length l1_3) (hc1_3 : l1_3.length ≤ c1_3) (h : cubbylaw08_sameFunc.f k a0_0 a0_1 a0_2 l0_3 a1_0 a1_1 a1_2 l1_3 = some r) :
 Calls Tryz.prog 11 #[.agg #[.string a0_0, .int .i64 a0_1, .int .i64 a0_2, .slice A0_3 l0_3.length c0_3], .agg #[.string a1_0, .int .i64 a1_1, .int .i64 a1_2, .slice A1_3 l1_3.length c1_3]] w fun e w' => e = .returned (.bool r) ∧ Below w.heap.size w w' := by
 have hu24 := Tryz.underlying24
 have HR0_3 := zA hr0_3
 have HC0_3 := zA hc0_3
 clear hr0_3 hc0_3
 have HR1_3 := zA hr1_3
 have HC1_3 := zA hc1_3
 clear hr1_3 hc1_3
 have HB := zA (Below.refl w.heap.size w)
 have H := h; clear h; unfold cubbylaw08_sameFunc.f at H
 by_cases c3 : a0_0.toList = a1_0.toList
 ·rw [zC c3] at H
  obtain ⟨c3b0, c3b1⟩ := qe c3; clear c3
  by_cases c4 : a0_1 = a1_1
  ·rw [zC c4] at H
   obtain ⟨c4b0, c4b1⟩ := qe c4; clear c4
   by_cases c5 : a0_2 = a1_2
   ·rw [zC c5] at H
    obtain ⟨c5b0, c5b1⟩ := qe c5; clear c5
    replace H := qb H; obtain ⟨t314, A6, H⟩ := H
    obtain rfl := zI H
    go_enter Tryz.func11, Tryz.ntmps11
    go_wp2_with (first | ((with_reducible refine gate_dst (N := 2) rfl ?_); refine box_event (by rfl) (N := 2) (by rfl) (cs := #[.string a0_0, .int .i64 a0_1, .int .i64 a0_2, .slice A0_3 l0_3.length c0_3]) (t := 24) ?hr ?_; (case hr => go_simp <;> rfl); intro gb312 hg w7 hbox hb; have BK312 := zA (hbox); have GW312 := qG hg; have GE312 := GW312; replace HB := qH hb; clear hb hbox hg) | ((with_reducible refine gate_dst (N := 3) rfl ?_); refine box_event (by rfl) (N := 3) (by rfl) (cs := #[.string a1_0, .int .i64 a1_1, .int .i64 a1_2, .slice A1_3 l1_3.length c1_3]) (t := 24) ?hr ?_; (case hr => go_simp <;> rfl); intro gb313 hg w8 hbox hb; have BK313 := zA (hbox); have GW313 := qG hg; have GE313 := GW313; replace HB := qH hb; have NB312_313 := zA ((by rw [hg]; exact Nat.ne_of_lt (blk_lt (g := gb312) (o := .cells #[.string a0_0, .int .i64 a0_1, .int .i64 a0_2, .slice A0_3 l0_3.length c0_3] 24 (0, 0)) (qK BK312.out)) : gb312 ≠ gb313)); have NB313_312 := zA ((by rw [hg]; exact Nat.ne_of_gt (blk_lt (g := gb312) (o := .cells #[.string a0_0, .int .i64 a0_1, .int .i64 a0_2, .slice A0_3 l0_3.length c0_3] 24 (0, 0)) (qK BK312.out)) : gb313 ≠ gb312)); replace BK312 := qW BK312 hb; clear hb hbox hg; have hnb9 := NB312_313.out; have hnc9 := NB313_312.out; have z10_0 := bk4 BK312.out; have z11_0 := bk4 BK313.out) | (go_at_call 26; (with_reducible refine (cubbyref07_Blocks.calls k _ _ l0_3 _ _ l1_3 t314 _ ?side1 ?side2 ?side3 ?side4 A6.out).mono ?_); (case side1 => exact qCB HR0_3.out); (case side2 => exact HC0_3.out); (case side3 => exact qCB HR1_3.out); (case side4 => exact HC1_3.out); (try clear A6); rintro e w12 ⟨rfl, hb⟩; replace BK312 := qW BK312 hb; replace BK313 := qW BK313 hb; replace HB := qH hb; (try clear hb)))
    go_ret
    exact ⟨qE, qB⟩
   ·rw [zD c5] at H
    obtain ⟨c5b0, c5b1⟩ := qn c5
    obtain rfl := zI H
    go_enter Tryz.func11, Tryz.ntmps11
    go_wp2_with (first | ((with_reducible refine gate_dst (N := 2) rfl ?_); refine box_event (by rfl) (N := 2) (by rfl) (cs := #[.string a0_0, .int .i64 a0_1, .int .i64 a0_2, .slice A0_3 l0_3.length c0_3]) (t := 24) ?hr ?_; (case hr => go_simp <;> rfl); intro gb312 hg w13 hbox hb; have BK312 := zA (hbox); have GW312 := qG hg; have GE312 := GW312; replace HB := qH hb; clear hb hbox hg) | ((with_reducible refine gate_dst (N := 3) rfl ?_); refine box_event (by rfl) (N := 3) (by rfl) (cs := #[.string a1_0, .int .i64 a1_1, .int .i64 a1_2, .slice A1_3 l1_3.length c1_3]) (t := 24) ?hr ?_; (case hr => go_simp <;> rfl); intro gb313 hg w14 hbox hb; have BK313 := zA (hbox); have GW313 := qG hg; have GE313 := GW313; replace HB := qH hb; have NB312_313 := zA ((by rw [hg]; exact Nat.ne_of_lt (blk_lt (g := gb312) (o := .cells #[.string a0_0, .int .i64 a0_1, .int .i64 a0_2, .slice A0_3 l0_3.length c0_3] 24 (0, 0)) (qK BK312.out)) : gb312 ≠ gb313)); have NB313_312 := zA ((by rw [hg]; exact Nat.ne_of_gt (blk_lt (g := gb312) (o := .cells #[.string a0_0, .int .i64 a0_1, .int .i64 a0_2, .slice A0_3 l0_3.length c0_3] 24 (0, 0)) (qK BK312.out)) : gb313 ≠ gb312)); replace BK312 := qW BK312 hb; clear hb hbox hg; have hnb15 := NB312_313.out; have hnc15 := NB313_312.out; have z16_0 := bk4 BK312.out; have z17_0 := bk4 BK313.out))
    go_ret
    exact ⟨qE, qB⟩
  ·rw [zD c4] at H
   obtain ⟨c4b0, c4b1⟩ := qn c4
   obtain rfl := zI H
   go_enter Tryz.func11, Tryz.ntmps11
   go_wp2_with (first | ((with_reducible refine gate_dst (N := 2) rfl ?_); refine box_event (by rfl) (N := 2) (by rfl) (cs := #[.string a0_0, .int .i64 a0_1, .int .i64 a0_2, .slice A0_3 l0_3.length c0_3]) (t := 24) ?hr ?_; (case hr => go_simp <;> rfl); intro gb312 hg w18 hbox hb; have BK312 := zA (hbox); have GW312 := qG hg; have GE312 := GW312; replace HB := qH hb; clear hb hbox hg) | ((with_reducible refine gate_dst (N := 3) rfl ?_); refine box_event (by rfl) (N := 3) (by rfl) (cs := #[.string a1_0, .int .i64 a1_1, .int .i64 a1_2, .slice A1_3 l1_3.length c1_3]) (t := 24) ?hr ?_; (case hr => go_simp <;> rfl); intro gb313 hg w19 hbox hb; have BK313 := zA (hbox); have GW313 := qG hg; have GE313 := GW313; replace HB := qH hb; have NB312_313 := zA ((by rw [hg]; exact Nat.ne_of_lt (blk_lt (g := gb312) (o := .cells #[.string a0_0, .int .i64 a0_1, .int .i64 a0_2, .slice A0_3 l0_3.length c0_3] 24 (0, 0)) (qK BK312.out)) : gb312 ≠ gb313)); have NB313_312 := zA ((by rw [hg]; exact Nat.ne_of_gt (blk_lt (g := gb312) (o := .cells #[.string a0_0, .int .i64 a0_1, .int .i64 a0_2, .slice A0_3 l0_3.length c0_3] 24 (0, 0)) (qK BK312.out)) : gb313 ≠ gb312)); replace BK312 := qW BK312 hb; clear hb hbox hg; have hnb20 := NB312_313.out; have hnc20 := NB313_312.out; have z21_0 := bk4 BK312.out; have z22_0 := bk4 BK313.out))
   go_ret
   exact ⟨qE, qB⟩
 ·rw [zD c3] at H
  obtain ⟨c3b0, c3b1⟩ := qn c3
  obtain rfl := zI H
  go_enter Tryz.func11, Tryz.ntmps11
  go_wp2_with (first | ((with_reducible refine gate_dst (N := 2) rfl ?_); refine box_event (by rfl) (N := 2) (by rfl) (cs := #[.string a0_0, .int .i64 a0_1, .int .i64 a0_2, .slice A0_3 l0_3.length c0_3]) (t := 24) ?hr ?_; (case hr => go_simp <;> rfl); intro gb312 hg w23 hbox hb; have BK312 := zA (hbox); have GW312 := qG hg; have GE312 := GW312; replace HB := qH hb; clear hb hbox hg) | ((with_reducible refine gate_dst (N := 3) rfl ?_); refine box_event (by rfl) (N := 3) (by rfl) (cs := #[.string a1_0, .int .i64 a1_1, .int .i64 a1_2, .slice A1_3 l1_3.length c1_3]) (t := 24) ?hr ?_; (case hr => go_simp <;> rfl); intro gb313 hg w24 hbox hb; have BK313 := zA (hbox); have GW313 := qG hg; have GE313 := GW313; replace HB := qH hb; have NB312_313 := zA ((by rw [hg]; exact Nat.ne_of_lt (blk_lt (g := gb312) (o := .cells #[.string a0_0, .int .i64 a0_1, .int .i64 a0_2, .slice A0_3 l0_3.length c0_3] 24 (0, 0)) (qK BK312.out)) : gb312 ≠ gb313)); have NB313_312 := zA ((by rw [hg]; exact Nat.ne_of_gt (blk_lt (g := gb312) (o := .cells #[.string a0_0, .int .i64 a0_1, .int .i64 a0_2, .slice A0_3 l0_3.length c0_3] 24 (0, 0)) (qK BK312.out)) : gb313 ≠ gb312)); replace BK312 := qW BK312 hb; clear hb hbox hg; have hnb25 := NB312_313.out; have hnc25 := NB313_312.out; have z26_0 := bk4 BK312.out; have z27_0 := bk4 BK313.out))
  go_ret
  exact ⟨qE, qB⟩

mutual
def cubbyref07_Name.j0 : Nat → ByteArray → Bool → Option (Bool)
 | 0, _, _ => none
 | k + 1, x0, x13 => if x13 = true then (some false) else (cubbyref07_Name.l0 k x0 0)
def cubbyref07_Name.l0 : Nat → ByteArray → Int → Option (Bool)
 | 0, _, _ => none
 | k + 1, x0, x3 => if x3 < (x0.size : Int) then (if 0 ≤ x3 then (if (bt x0 x3) ≥ 97 then (if (bt x0 x3) ≥ 48 then (if ((bt x0 x3) ≤ 122) then (cubbyref07_Name.l0 k x0 (wrap64 (x3 + 1))) else (if ((bt x0 x3) ≤ 57) then (if x3 = 0 then (some false) else (cubbyref07_Name.l0 k x0 (wrap64 (x3 + 1)))) else (some false))) else (if ((bt x0 x3) ≤ 122) then (cubbyref07_Name.l0 k x0 (wrap64 (x3 + 1))) else (some false))) else (if (bt x0 x3) ≥ 48 then (if ((bt x0 x3) ≤ 57) then (if x3 = 0 then (some false) else (cubbyref07_Name.l0 k x0 (wrap64 (x3 + 1)))) else (some false)) else (some false))) else (none)) else (some true)
end
def cubbyref07_Name.f (k : Nat) (a0 : ByteArray) : Option (Bool) := if (a0.size : Int) < 1 then (cubbyref07_Name.j0 k a0 true) else (cubbyref07_Name.j0 k a0 (decide ((a0.size : Int) > 12)))
set_option maxHeartbeats 8000000 in
set_option maxRecDepth 100000 in
theorem cubbyref07_Name.calls (k : Nat) (a0 : ByteArray) (r : Bool) (w : World) (h : cubbyref07_Name.f k a0 = some r) :
 Calls Tryz.prog 22 #[.string a0] w fun e w' => e = .returned (.bool r) ∧ Drawn0 w w' := by
 have H := h; clear h; unfold cubbyref07_Name.f at H
 have HC2 := zA H
 clear H
 go_enter Tryz.func22, Tryz.ntmps22
 go_upto_region 1 with (fail)
 go_cut [13] (fun v13 wc => ∃ (kq : Nat) (x13_1 : Bool), v13 = .bool x13_1 ∧ Aside0 (cubbyref07_Name.j0 kq a0 x13_1 = some r) ∧ Aside0 (kq ≤ k) ∧ Drawn0 w wc)
 case first =>
  have H := HC2.out
  clear HC2
  by_cases c3 : (a0.size : Int) < 1
  ·rw [zC c3] at H
   have c3b0 := zF c3
   have c3b1 : decide (a0.size < 1) = true := zF (by omega)
   clear c3
   (first | rw [c3b0] | (simp only [i64_w, i32_w]; rw [c3b0]) | skip)
   have H' := zA H
   clear H
   go_wp2
   go_meet
   case rel => exact ⟨_, (true), qT, H', ⟨qO⟩, qD⟩
  ·rw [zD c3] at H
   have c3b0 := zG c3
   have c3b1 : decide (a0.size < 1) = false := zG (by omega)
   clear c3
   (first | rw [c3b0] | (simp only [i64_w, i32_w]; rw [c3b0]) | skip)
   have H' := zA H
   clear H
   go_wp2
   go_meet
   case rel => exact ⟨_, (decide ((a0.size : Int) > 12)), qT, H', ⟨qO⟩, qD⟩
 case rest =>
  clear HC2
  obtain ⟨kq, x13_1, rfl, HA, HJ1, ⟨mc1, rfl⟩⟩ := hcut
  cases kq with
  | zero => exact absurd HA.out (by simp [cubbyref07_Name.j0])
  | succ kj1 =>
   have H := HA.out
   clear HA
   simp only [cubbyref07_Name.j0] at H
   by_cases c4 : x13_1 = true
   ·subst c4
    have H1 : (some false) = some r := by rw [zC rfl] at H; exact H
    clear H
    have H := H1
    clear H1
    obtain rfl := zI H
    go_wp2
    go_ret
    exact ⟨by first | rfl | (simp; done) | (simp [*]; done), qD⟩
   ·replace c4 := Bool.eq_false_iff.mpr c4
    subst c4
    have H1 : (cubbyref07_Name.l0 kj1 a0 0) = some r := by rw [zD (show ¬ (false = true) by decide)] at H; exact H
    clear H
    have H := H1
    clear H1
    have H' := zA H
    clear H
    go_wp2
    go_loopg [3] kj1 (fun kq v3 w' => ∃ (x3_2 : Int), v3 = .int .i64 x3_2 ∧ Aside0 (cubbyref07_Name.l0 kq a0 x3_2 = some r) ∧ Aside0 (kq ≤ kj1) ∧ Drawn0 w w')
    case atStart => exact ⟨(0), qT, H', ⟨Nat.le_refl _⟩, qD⟩
    case round =>
     clear H'
     obtain ⟨x3_2, rfl, HA, HK2, ⟨m2, rfl⟩⟩ := hrel
     cases gk with
     | zero => exact absurd HA.out (by simp [cubbyref07_Name.l0])
     | succ k2 =>
      have H := HA.out
      clear HA
      simp only [cubbyref07_Name.l0] at H
      by_cases c5 : x3_2 < (a0.size : Int)
      ·rw [zC c5] at H
       have c5b0 := zF c5
       clear c5
       by_cases c6 : 0 ≤ x3_2
       ·rw [zC c6] at H
        have c6b0 := zF c6
        clear c6
        by_cases c8 : (bt a0 x3_2) ≥ 97
        ·rw [zC c8] at H
         have c8b0 : decide (97 ≤ (bt a0 x3_2)) = true := zF c8
         clear c8
         by_cases c11 : (bt a0 x3_2) ≥ 48
         ·rw [zC c11] at H
          have c11b0 : decide (48 ≤ (bt a0 x3_2)) = true := zF c11
          clear c11
          by_cases c13 : ((bt a0 x3_2) ≤ 122)
          ·rw [zC c13] at H
           have c13b0 : decide ((bt a0 x3_2) ≤ 122) = true := zF c13
           clear c13
           have H' := zA H
           clear H
           have p7 : 0 ≤ (x3_2 : Int) := zB qA
           have q7 : x3_2 < (a0.size : Int) := zB qA
           have hx7 := bt_at a0 x3_2
           replace p7 := eq_true p7
           replace q7 := eq_true q7
           have p9 : 0 ≤ (x3_2 : Int) := zB qA
           have q9 : x3_2 < (a0.size : Int) := zB qA
           have hx9 := bt_at a0 x3_2
           replace p9 := eq_true p9
           replace q9 := eq_true q9
           have p10 : 0 ≤ (x3_2 : Int) := zB qA
           have q10 : x3_2 < (a0.size : Int) := zB qA
           have hx10 := bt_at a0 x3_2
           replace p10 := eq_true p10
           replace q10 := eq_true q10
           have p12 : 0 ≤ (x3_2 : Int) := zB qA
           have q12 : x3_2 < (a0.size : Int) := zB qA
           have hx12 := bt_at a0 x3_2
           replace p12 := eq_true p12
           replace q12 := eq_true q12
           go_wp2
           go_roundg k2
           case measure => have := HJ1.out; have := HK2.out; omega
           case rel => exact ⟨(wrap64 (x3_2 + 1)), qT, H', ⟨by have := HJ1.out; have := HK2.out; omega⟩, qD⟩
          ·rw [zD c13] at H
           have c13b0 : decide ((bt a0 x3_2) ≤ 122) = false := zG c13
           clear c13
           by_cases c14 : ((bt a0 x3_2) ≤ 57)
           ·rw [zC c14] at H
            have c14b0 : decide ((bt a0 x3_2) ≤ 57) = true := zF c14
            clear c14
            by_cases c15 : x3_2 = 0
            ·rw [zC c15] at H
             obtain ⟨c15b0, c15b1⟩ := qe c15; clear c15
             obtain rfl := zI H
             have p7 : 0 ≤ (x3_2 : Int) := zB qA
             have q7 : x3_2 < (a0.size : Int) := zB qA
             have hx7 := bt_at a0 x3_2
             replace p7 := eq_true p7
             replace q7 := eq_true q7
             have p9 : 0 ≤ (x3_2 : Int) := zB qA
             have q9 : x3_2 < (a0.size : Int) := zB qA
             have hx9 := bt_at a0 x3_2
             replace p9 := eq_true p9
             replace q9 := eq_true q9
             have p10 : 0 ≤ (x3_2 : Int) := zB qA
             have q10 : x3_2 < (a0.size : Int) := zB qA
             have hx10 := bt_at a0 x3_2
             replace p10 := eq_true p10
             replace q10 := eq_true q10
             have p12 : 0 ≤ (x3_2 : Int) := zB qA
             have q12 : x3_2 < (a0.size : Int) := zB qA
             have hx12 := bt_at a0 x3_2
             replace p12 := eq_true p12
             replace q12 := eq_true q12
             go_wp2
             go_ret
             exact ⟨by first | rfl | (simp; done) | (simp [*]; done), qD⟩
            ·rw [zD c15] at H
             obtain ⟨c15b0, c15b1⟩ := qn c15
             have H' := zA H
             clear H
             have p7 : 0 ≤ (x3_2 : Int) := zB qA
             have q7 : x3_2 < (a0.size : Int) := zB qA
             have hx7 := bt_at a0 x3_2
             replace p7 := eq_true p7
             replace q7 := eq_true q7
             have p9 : 0 ≤ (x3_2 : Int) := zB qA
             have q9 : x3_2 < (a0.size : Int) := zB qA
             have hx9 := bt_at a0 x3_2
             replace p9 := eq_true p9
             replace q9 := eq_true q9
             have p10 : 0 ≤ (x3_2 : Int) := zB qA
             have q10 : x3_2 < (a0.size : Int) := zB qA
             have hx10 := bt_at a0 x3_2
             replace p10 := eq_true p10
             replace q10 := eq_true q10
             have p12 : 0 ≤ (x3_2 : Int) := zB qA
             have q12 : x3_2 < (a0.size : Int) := zB qA
             have hx12 := bt_at a0 x3_2
             replace p12 := eq_true p12
             replace q12 := eq_true q12
             go_wp2
             go_roundg k2
             case measure => have := HJ1.out; have := HK2.out; omega
             case rel => exact ⟨(wrap64 (x3_2 + 1)), qT, H', ⟨by have := HJ1.out; have := HK2.out; omega⟩, qD⟩
           ·rw [zD c14] at H
            have c14b0 : decide ((bt a0 x3_2) ≤ 57) = false := zG c14
            clear c14
            obtain rfl := zI H
            have p7 : 0 ≤ (x3_2 : Int) := zB qA
            have q7 : x3_2 < (a0.size : Int) := zB qA
            have hx7 := bt_at a0 x3_2
            replace p7 := eq_true p7
            replace q7 := eq_true q7
            have p9 : 0 ≤ (x3_2 : Int) := zB qA
            have q9 : x3_2 < (a0.size : Int) := zB qA
            have hx9 := bt_at a0 x3_2
            replace p9 := eq_true p9
            replace q9 := eq_true q9
            have p10 : 0 ≤ (x3_2 : Int) := zB qA
            have q10 : x3_2 < (a0.size : Int) := zB qA
            have hx10 := bt_at a0 x3_2
            replace p10 := eq_true p10
            replace q10 := eq_true q10
            have p12 : 0 ≤ (x3_2 : Int) := zB qA
            have q12 : x3_2 < (a0.size : Int) := zB qA
            have hx12 := bt_at a0 x3_2
            replace p12 := eq_true p12
            replace q12 := eq_true q12
            go_wp2
            go_ret
            exact ⟨by first | rfl | (simp; done) | (simp [*]; done), qD⟩
         ·rw [zD c11] at H
          have c11b0 : decide (48 ≤ (bt a0 x3_2)) = false := zG c11
          clear c11
          by_cases c16 : ((bt a0 x3_2) ≤ 122)
          ·rw [zC c16] at H
           have c16b0 : decide ((bt a0 x3_2) ≤ 122) = true := zF c16
           clear c16
           have H' := zA H
           clear H
           have p7 : 0 ≤ (x3_2 : Int) := zB qA
           have q7 : x3_2 < (a0.size : Int) := zB qA
           have hx7 := bt_at a0 x3_2
           replace p7 := eq_true p7
           replace q7 := eq_true q7
           have p9 : 0 ≤ (x3_2 : Int) := zB qA
           have q9 : x3_2 < (a0.size : Int) := zB qA
           have hx9 := bt_at a0 x3_2
           replace p9 := eq_true p9
           replace q9 := eq_true q9
           have p10 : 0 ≤ (x3_2 : Int) := zB qA
           have q10 : x3_2 < (a0.size : Int) := zB qA
           have hx10 := bt_at a0 x3_2
           replace p10 := eq_true p10
           replace q10 := eq_true q10
           go_wp2
           go_roundg k2
           case measure => have := HJ1.out; have := HK2.out; omega
           case rel => exact ⟨(wrap64 (x3_2 + 1)), qT, H', ⟨by have := HJ1.out; have := HK2.out; omega⟩, qD⟩
          ·rw [zD c16] at H
           have c16b0 : decide ((bt a0 x3_2) ≤ 122) = false := zG c16
           clear c16
           obtain rfl := zI H
           have p7 : 0 ≤ (x3_2 : Int) := zB qA
           have q7 : x3_2 < (a0.size : Int) := zB qA
           have hx7 := bt_at a0 x3_2
           replace p7 := eq_true p7
           replace q7 := eq_true q7
           have p9 : 0 ≤ (x3_2 : Int) := zB qA
           have q9 : x3_2 < (a0.size : Int) := zB qA
           have hx9 := bt_at a0 x3_2
           replace p9 := eq_true p9
           replace q9 := eq_true q9
           have p10 : 0 ≤ (x3_2 : Int) := zB qA
           have q10 : x3_2 < (a0.size : Int) := zB qA
           have hx10 := bt_at a0 x3_2
           replace p10 := eq_true p10
           replace q10 := eq_true q10
           go_wp2
           go_ret
           exact ⟨by first | rfl | (simp; done) | (simp [*]; done), qD⟩
        ·rw [zD c8] at H
         have c8b0 : decide (97 ≤ (bt a0 x3_2)) = false := zG c8
         clear c8
         by_cases c18 : (bt a0 x3_2) ≥ 48
         ·rw [zC c18] at H
          have c18b0 : decide (48 ≤ (bt a0 x3_2)) = true := zF c18
          clear c18
          by_cases c20 : ((bt a0 x3_2) ≤ 57)
          ·rw [zC c20] at H
           have c20b0 : decide ((bt a0 x3_2) ≤ 57) = true := zF c20
           clear c20
           by_cases c21 : x3_2 = 0
           ·rw [zC c21] at H
            obtain ⟨c21b0, c21b1⟩ := qe c21; clear c21
            obtain rfl := zI H
            have p7 : 0 ≤ (x3_2 : Int) := zB qA
            have q7 : x3_2 < (a0.size : Int) := zB qA
            have hx7 := bt_at a0 x3_2
            replace p7 := eq_true p7
            replace q7 := eq_true q7
            have p17 : 0 ≤ (x3_2 : Int) := zB qA
            have q17 : x3_2 < (a0.size : Int) := zB qA
            have hx17 := bt_at a0 x3_2
            replace p17 := eq_true p17
            replace q17 := eq_true q17
            have p19 : 0 ≤ (x3_2 : Int) := zB qA
            have q19 : x3_2 < (a0.size : Int) := zB qA
            have hx19 := bt_at a0 x3_2
            replace p19 := eq_true p19
            replace q19 := eq_true q19
            go_wp2
            go_ret
            exact ⟨by first | rfl | (simp; done) | (simp [*]; done), qD⟩
           ·rw [zD c21] at H
            obtain ⟨c21b0, c21b1⟩ := qn c21
            have H' := zA H
            clear H
            have p7 : 0 ≤ (x3_2 : Int) := zB qA
            have q7 : x3_2 < (a0.size : Int) := zB qA
            have hx7 := bt_at a0 x3_2
            replace p7 := eq_true p7
            replace q7 := eq_true q7
            have p17 : 0 ≤ (x3_2 : Int) := zB qA
            have q17 : x3_2 < (a0.size : Int) := zB qA
            have hx17 := bt_at a0 x3_2
            replace p17 := eq_true p17
            replace q17 := eq_true q17
            have p19 : 0 ≤ (x3_2 : Int) := zB qA
            have q19 : x3_2 < (a0.size : Int) := zB qA
            have hx19 := bt_at a0 x3_2
            replace p19 := eq_true p19
            replace q19 := eq_true q19
            go_wp2
            go_roundg k2
            case measure => have := HJ1.out; have := HK2.out; omega
            case rel => exact ⟨(wrap64 (x3_2 + 1)), qT, H', ⟨by have := HJ1.out; have := HK2.out; omega⟩, qD⟩
          ·rw [zD c20] at H
           have c20b0 : decide ((bt a0 x3_2) ≤ 57) = false := zG c20
           clear c20
           obtain rfl := zI H
           have p7 : 0 ≤ (x3_2 : Int) := zB qA
           have q7 : x3_2 < (a0.size : Int) := zB qA
           have hx7 := bt_at a0 x3_2
           replace p7 := eq_true p7
           replace q7 := eq_true q7
           have p17 : 0 ≤ (x3_2 : Int) := zB qA
           have q17 : x3_2 < (a0.size : Int) := zB qA
           have hx17 := bt_at a0 x3_2
           replace p17 := eq_true p17
           replace q17 := eq_true q17
           have p19 : 0 ≤ (x3_2 : Int) := zB qA
           have q19 : x3_2 < (a0.size : Int) := zB qA
           have hx19 := bt_at a0 x3_2
           replace p19 := eq_true p19
           replace q19 := eq_true q19
           go_wp2
           go_ret
           exact ⟨by first | rfl | (simp; done) | (simp [*]; done), qD⟩
         ·rw [zD c18] at H
          have c18b0 : decide (48 ≤ (bt a0 x3_2)) = false := zG c18
          clear c18
          obtain rfl := zI H
          have p7 : 0 ≤ (x3_2 : Int) := zB qA
          have q7 : x3_2 < (a0.size : Int) := zB qA
          have hx7 := bt_at a0 x3_2
          replace p7 := eq_true p7
          replace q7 := eq_true q7
          have p17 : 0 ≤ (x3_2 : Int) := zB qA
          have q17 : x3_2 < (a0.size : Int) := zB qA
          have hx17 := bt_at a0 x3_2
          replace p17 := eq_true p17
          replace q17 := eq_true q17
          go_wp2
          go_ret
          exact ⟨by first | rfl | (simp; done) | (simp [*]; done), qD⟩
       ·rw [zD c6] at H
        exact absurd H (by simp)
      ·rw [zD c5] at H
       have c5b0 := zG c5
       clear c5
       obtain rfl := zI H
       go_wp2
       go_ret
       exact ⟨by first | rfl | (simp; done) | (simp [*]; done), qD⟩

def cubbyref07_Def.f (a0_0 : Int) (a0_1 : Int) (a0_2 : Int) (a0_3 : Int) (a0_4 : ByteArray) (l0_5 : List Int) : Option (Int) := if a0_0 = 1 then (some a0_1) else (if a0_0 = 2 then (some a0_1) else (if a0_0 = 8 then (some a0_1) else (if a0_0 = 3 then (some a0_1) else (if a0_0 = 4 then (some a0_1) else (if a0_0 = 5 then (some a0_1) else (if a0_0 = 6 then (some a0_1) else (if a0_0 = 7 then (some a0_1) else (if a0_0 = 11 then (some a0_1) else (some (-1))))))))))
set_option maxHeartbeats 8000000 in
set_option maxRecDepth 100000 in
theorem cubbyref07_Def.calls (a0_0 : Int) (a0_1 : Int) (a0_2 : Int) (a0_3 : Int) (a0_4 : ByteArray) (A0_5 : Option Addr) (c0_5 : Nat) (l0_5 : List Int) (r : Int) (w : World) (hr0_5 : Kd.C (Kd.int .i64) w A0_5 l0_5.length l0_5) (hc0_5 : l0_5.length ≤ c0_5) (h : cubbyref07_Def.f a0_0 a0_1 a0_2 a0_3 a0_4 l0_5 = some r) :
 Calls Tryz.prog 42 #[.agg #[.int .i64 a0_0, .int .i64 a0_1, .int .i64 a0_2, .int .i64 a0_3, .string a0_4, .slice A0_5 l0_5.length c0_5]] w fun e w' => e = .returned (.int .i64 r) ∧ Below w.heap.size w w' := by
 have hu44 := Tryz.underlying44
 have HR0_5 := zA hr0_5
 have HC0_5 := zA hc0_5
 clear hr0_5 hc0_5
 have HB := zA (Below.refl w.heap.size w)
 have H := h; clear h; unfold cubbyref07_Def.f at H
 by_cases c2 : a0_0 = 1
 ·rw [zC c2] at H
  obtain ⟨c2b0, c2b1⟩ := qe c2; clear c2
  obtain rfl := zI H
  go_enter Tryz.func42, Tryz.ntmps42
  go_wp2_with (first | ((with_reducible refine gate_dst (N := 1) rfl ?_); refine box_event (by rfl) (N := 1) (by rfl) (cs := #[.int .i64 a0_0, .int .i64 a0_1, .int .i64 a0_2, .int .i64 a0_3, .string a0_4, .slice A0_5 l0_5.length c0_5]) (t := 44) ?hr ?_; (case hr => go_simp <;> rfl); intro gb182 hg w3 hbox hb; have BK182 := zA (hbox); have GW182 := qG hg; have GE182 := GW182; replace HB := qH hb; clear hb hbox hg; have z4_0 := bk6 BK182.out))
  go_ret
  exact ⟨qE, qB⟩
 ·rw [zD c2] at H
  obtain ⟨c2b0, c2b1⟩ := qn c2
  by_cases c5 : a0_0 = 2
  ·rw [zC c5] at H
   obtain ⟨c5b0, c5b1⟩ := qe c5; clear c5
   obtain rfl := zI H
   go_enter Tryz.func42, Tryz.ntmps42
   go_wp2_with (first | ((with_reducible refine gate_dst (N := 1) rfl ?_); refine box_event (by rfl) (N := 1) (by rfl) (cs := #[.int .i64 a0_0, .int .i64 a0_1, .int .i64 a0_2, .int .i64 a0_3, .string a0_4, .slice A0_5 l0_5.length c0_5]) (t := 44) ?hr ?_; (case hr => go_simp <;> rfl); intro gb182 hg w6 hbox hb; have BK182 := zA (hbox); have GW182 := qG hg; have GE182 := GW182; replace HB := qH hb; clear hb hbox hg; have z7_0 := bk6 BK182.out))
   go_ret
   exact ⟨qE, qB⟩
  ·rw [zD c5] at H
   obtain ⟨c5b0, c5b1⟩ := qn c5
   by_cases c8 : a0_0 = 8
   ·rw [zC c8] at H
    obtain ⟨c8b0, c8b1⟩ := qe c8; clear c8
    obtain rfl := zI H
    go_enter Tryz.func42, Tryz.ntmps42
    go_wp2_with (first | ((with_reducible refine gate_dst (N := 1) rfl ?_); refine box_event (by rfl) (N := 1) (by rfl) (cs := #[.int .i64 a0_0, .int .i64 a0_1, .int .i64 a0_2, .int .i64 a0_3, .string a0_4, .slice A0_5 l0_5.length c0_5]) (t := 44) ?hr ?_; (case hr => go_simp <;> rfl); intro gb182 hg w9 hbox hb; have BK182 := zA (hbox); have GW182 := qG hg; have GE182 := GW182; replace HB := qH hb; clear hb hbox hg; have z10_0 := bk6 BK182.out))
    go_ret
    exact ⟨qE, qB⟩
   ·rw [zD c8] at H
    obtain ⟨c8b0, c8b1⟩ := qn c8
    by_cases c11 : a0_0 = 3
    ·rw [zC c11] at H
     obtain ⟨c11b0, c11b1⟩ := qe c11; clear c11
     obtain rfl := zI H
     go_enter Tryz.func42, Tryz.ntmps42
     go_wp2_with (first | ((with_reducible refine gate_dst (N := 1) rfl ?_); refine box_event (by rfl) (N := 1) (by rfl) (cs := #[.int .i64 a0_0, .int .i64 a0_1, .int .i64 a0_2, .int .i64 a0_3, .string a0_4, .slice A0_5 l0_5.length c0_5]) (t := 44) ?hr ?_; (case hr => go_simp <;> rfl); intro gb182 hg w12 hbox hb; have BK182 := zA (hbox); have GW182 := qG hg; have GE182 := GW182; replace HB := qH hb; clear hb hbox hg; have z13_0 := bk6 BK182.out))
     go_ret
     exact ⟨qE, qB⟩
    ·rw [zD c11] at H
     obtain ⟨c11b0, c11b1⟩ := qn c11
     by_cases c14 : a0_0 = 4
     ·rw [zC c14] at H
      obtain ⟨c14b0, c14b1⟩ := qe c14; clear c14
      obtain rfl := zI H
      go_enter Tryz.func42, Tryz.ntmps42
      go_wp2_with (first | ((with_reducible refine gate_dst (N := 1) rfl ?_); refine box_event (by rfl) (N := 1) (by rfl) (cs := #[.int .i64 a0_0, .int .i64 a0_1, .int .i64 a0_2, .int .i64 a0_3, .string a0_4, .slice A0_5 l0_5.length c0_5]) (t := 44) ?hr ?_; (case hr => go_simp <;> rfl); intro gb182 hg w15 hbox hb; have BK182 := zA (hbox); have GW182 := qG hg; have GE182 := GW182; replace HB := qH hb; clear hb hbox hg; have z16_0 := bk6 BK182.out))
      go_ret
      exact ⟨qE, qB⟩
     ·rw [zD c14] at H
      obtain ⟨c14b0, c14b1⟩ := qn c14
      by_cases c17 : a0_0 = 5
      ·rw [zC c17] at H
       obtain ⟨c17b0, c17b1⟩ := qe c17; clear c17
       obtain rfl := zI H
       go_enter Tryz.func42, Tryz.ntmps42
       go_wp2_with (first | ((with_reducible refine gate_dst (N := 1) rfl ?_); refine box_event (by rfl) (N := 1) (by rfl) (cs := #[.int .i64 a0_0, .int .i64 a0_1, .int .i64 a0_2, .int .i64 a0_3, .string a0_4, .slice A0_5 l0_5.length c0_5]) (t := 44) ?hr ?_; (case hr => go_simp <;> rfl); intro gb182 hg w18 hbox hb; have BK182 := zA (hbox); have GW182 := qG hg; have GE182 := GW182; replace HB := qH hb; clear hb hbox hg; have z19_0 := bk6 BK182.out))
       go_ret
       exact ⟨qE, qB⟩
      ·rw [zD c17] at H
       obtain ⟨c17b0, c17b1⟩ := qn c17
       by_cases c20 : a0_0 = 6
       ·rw [zC c20] at H
        obtain ⟨c20b0, c20b1⟩ := qe c20; clear c20
        obtain rfl := zI H
        go_enter Tryz.func42, Tryz.ntmps42
        go_wp2_with (first | ((with_reducible refine gate_dst (N := 1) rfl ?_); refine box_event (by rfl) (N := 1) (by rfl) (cs := #[.int .i64 a0_0, .int .i64 a0_1, .int .i64 a0_2, .int .i64 a0_3, .string a0_4, .slice A0_5 l0_5.length c0_5]) (t := 44) ?hr ?_; (case hr => go_simp <;> rfl); intro gb182 hg w21 hbox hb; have BK182 := zA (hbox); have GW182 := qG hg; have GE182 := GW182; replace HB := qH hb; clear hb hbox hg; have z22_0 := bk6 BK182.out))
        go_ret
        exact ⟨qE, qB⟩
       ·rw [zD c20] at H
        obtain ⟨c20b0, c20b1⟩ := qn c20
        by_cases c23 : a0_0 = 7
        ·rw [zC c23] at H
         obtain ⟨c23b0, c23b1⟩ := qe c23; clear c23
         obtain rfl := zI H
         go_enter Tryz.func42, Tryz.ntmps42
         go_wp2_with (first | ((with_reducible refine gate_dst (N := 1) rfl ?_); refine box_event (by rfl) (N := 1) (by rfl) (cs := #[.int .i64 a0_0, .int .i64 a0_1, .int .i64 a0_2, .int .i64 a0_3, .string a0_4, .slice A0_5 l0_5.length c0_5]) (t := 44) ?hr ?_; (case hr => go_simp <;> rfl); intro gb182 hg w24 hbox hb; have BK182 := zA (hbox); have GW182 := qG hg; have GE182 := GW182; replace HB := qH hb; clear hb hbox hg; have z25_0 := bk6 BK182.out))
         go_ret
         exact ⟨qE, qB⟩
        ·rw [zD c23] at H
         obtain ⟨c23b0, c23b1⟩ := qn c23
         by_cases c26 : a0_0 = 11
         ·rw [zC c26] at H
          obtain ⟨c26b0, c26b1⟩ := qe c26; clear c26
          obtain rfl := zI H
          go_enter Tryz.func42, Tryz.ntmps42
          go_wp2_with (first | ((with_reducible refine gate_dst (N := 1) rfl ?_); refine box_event (by rfl) (N := 1) (by rfl) (cs := #[.int .i64 a0_0, .int .i64 a0_1, .int .i64 a0_2, .int .i64 a0_3, .string a0_4, .slice A0_5 l0_5.length c0_5]) (t := 44) ?hr ?_; (case hr => go_simp <;> rfl); intro gb182 hg w27 hbox hb; have BK182 := zA (hbox); have GW182 := qG hg; have GE182 := GW182; replace HB := qH hb; clear hb hbox hg; have z28_0 := bk6 BK182.out))
          go_ret
          exact ⟨qE, qB⟩
         ·rw [zD c26] at H
          obtain ⟨c26b0, c26b1⟩ := qn c26
          obtain rfl := zI H
          go_enter Tryz.func42, Tryz.ntmps42
          go_wp2_with (first | ((with_reducible refine gate_dst (N := 1) rfl ?_); refine box_event (by rfl) (N := 1) (by rfl) (cs := #[.int .i64 a0_0, .int .i64 a0_1, .int .i64 a0_2, .int .i64 a0_3, .string a0_4, .slice A0_5 l0_5.length c0_5]) (t := 44) ?hr ?_; (case hr => go_simp <;> rfl); intro gb182 hg w29 hbox hb; have BK182 := zA (hbox); have GW182 := qG hg; have GE182 := GW182; replace HB := qH hb; clear hb hbox hg; have z30_0 := bk6 BK182.out))
          go_ret
          exact ⟨qE, qB⟩

def cubbyref07_Last.f (a0 : Int) : Option (Bool) := if a0 = 12 then (some true) else (if a0 = 13 then (some true) else (some (a0 == 14)))
set_option maxHeartbeats 8000000 in
set_option maxRecDepth 100000 in
theorem cubbyref07_Last.calls (a0 : Int) (r : Bool) (w : World) (h : cubbyref07_Last.f a0 = some r) :
 Calls Tryz.prog 40 #[.int .i64 a0] w fun e w' => e = .returned (.bool r) ∧ Drawn0 w w' := by
 have H := h; clear h; unfold cubbyref07_Last.f at H
 by_cases c2 : a0 = 12
 ·rw [zC c2] at H
  obtain ⟨c2b0, c2b1⟩ := qe c2; clear c2
  obtain rfl := zI H
  go_enter Tryz.func40, Tryz.ntmps40
  go_wp2
  go_ret
  exact ⟨by first | rfl | (simp; done) | (simp [*]; done), qD⟩
 ·rw [zD c2] at H
  obtain ⟨c2b0, c2b1⟩ := qn c2
  by_cases c3 : a0 = 13
  ·rw [zC c3] at H
   obtain ⟨c3b0, c3b1⟩ := qe c3; clear c3
   obtain rfl := zI H
   go_enter Tryz.func40, Tryz.ntmps40
   go_wp2
   go_ret
   exact ⟨by first | rfl | (simp; done) | (simp [*]; done), qD⟩
  ·rw [zD c3] at H
   obtain ⟨c3b0, c3b1⟩ := qn c3
   obtain rfl := zI H
   go_enter Tryz.func40, Tryz.ntmps40
   go_wp2
   go_ret
   exact ⟨by first | rfl | (simp; done) | (simp [*]; done), qD⟩

def cubbyref07_Targets.f (a0_0 : Int) (a0_1 : Int) (a0_2 : Int) (a0_3 : Int) (a0_4 : ByteArray) (l0_5 : List Int) : Option (List Int) := (some (([] : List Int) : List Int)).bind fun y202 => (if a0_0 = 12 then (if y202.length < 17592186044416 then (some (y202 ++ [a0_2])) else (none)) else (if a0_0 = 13 then ((some (([a0_3, a0_1] : List Int) : List Int)).bind fun y208 => (if y202.length + y208.length < 17592186044416 then (some (y202 ++ y208)) else (none))) else (some y202)))
set_option maxHeartbeats 8000000 in
set_option maxRecDepth 100000 in
theorem cubbyref07_Targets.calls (a0_0 : Int) (a0_1 : Int) (a0_2 : Int) (a0_3 : Int) (a0_4 : ByteArray) (A0_5 : Option Addr) (c0_5 : Nat) (l0_5 : List Int) (r : List Int) (w : World) (hr0_5 : Kd.C (Kd.int .i64) w A0_5 l0_5.length l0_5) (hc0_5 : l0_5.length ≤ c0_5) (h : cubbyref07_Targets.f a0_0 a0_1 a0_2 a0_3 a0_4 l0_5 = some r) :
 Calls Tryz.prog 45 #[.agg #[.int .i64 a0_0, .int .i64 a0_1, .int .i64 a0_2, .int .i64 a0_3, .string a0_4, .slice A0_5 l0_5.length c0_5]] w fun e w' => ∃ v0_ : Value, e = .returned (v0_) ∧ Kd.R (Kd.int .i64) 3 w' w.heap.size (fun _ => True) v0_ r ∧ Below w.heap.size w w' := by
 have hu44 := Tryz.underlying44
 have HR0_5 := zA hr0_5
 have HC0_5 := zA hc0_5
 clear hr0_5 hc0_5
 have HB := zA (Below.refl w.heap.size w)
 have H := h; clear h; unfold cubbyref07_Targets.f at H
 obtain ⟨y202, hy202⟩ : ∃ y_ : List Int, y_ = (([] : List Int)) := ⟨_, rfl⟩
 replace H : (if a0_0 = 12 then (if y202.length < 17592186044416 then (some (y202 ++ [a0_2])) else (none)) else (if a0_0 = 13 then ((some (([a0_3, a0_1] : List Int) : List Int)).bind fun y208 => (if y202.length + y208.length < 17592186044416 then (some (y202 ++ y208)) else (none))) else (some y202))) = some r := by (try rw [hy202]); first | with_reducible exact H | exact (zJ _ _).symm.trans H | exact H
 have Ny202 := zA hy202
 clear hy202
 by_cases c2 : a0_0 = 12
 ·rw [zC c2] at H
  obtain ⟨c2b0, c2b1⟩ := qe c2; clear c2
  by_cases c3 : y202.length < 17592186044416
  ·rw [zC c3] at H
   have LMc3 := zA c3
   clear c3
   obtain ⟨y205, hy205⟩ : ∃ y_ : List Int, y_ = (y202 ++ [a0_2]) := ⟨_, rfl⟩
   replace H : (some y205) = some r := by (try rw [hy205]); first | with_reducible exact H | exact (zJ _ _).symm.trans H | exact H
   have Ny205 := zA hy205
   clear hy205
   obtain rfl := zI H
   go_enter Tryz.func45, Tryz.ntmps45
   go_wp2_with (first | ((with_reducible refine gate_dst (N := 1) rfl ?_); refine box_event (by rfl) (N := 1) (by rfl) (cs := #[.int .i64 a0_0, .int .i64 a0_1, .int .i64 a0_2, .int .i64 a0_3, .string a0_4, .slice A0_5 l0_5.length c0_5]) (t := 44) ?hr ?_; (case hr => go_simp <;> rfl); intro gb201 hg w4 hbox hb; have BK201 := zA (hbox); have GW201 := qG hg; have GE201 := GW201; replace HB := qH hb; clear hb hbox hg) | ((with_reducible refine gate_dst (N := 4) rfl ?_); refine Kd.R_lit (Kd.int .i64) _ 3 (by rfl) (N := 4) (by rfl) (xs := ([] : List Int)) (inner := []) (ok := fun _ => True) (okp := fun _ => True) ?hr ?hp (fun _ hk => hk) trivial (Below.refl _ _) (Nat.le_refl _) (by simp) ?_; (case hr => go_simp <;> rfl); (case hp => exact (Reps.none _ _)); intro v203 w5 ho6 hb hg_ hnew_; clear hg_ hnew_; (first | rw [← Ny202.out] at ho6 | (simp only [Int.reduceToNat] at ho6; rw [← Ny202.out] at ho6)); have HO204 := zA (Kd.R_lower ho6 (below_size qB)); replace BK201 := qW BK201 hb; replace HB := qH hb; clear hb ho6; have z7_0 := bk6 BK201.out) | ((with_reducible refine gate_builtin (b := .append) (xs := #[.tmp 8, .tmp 11]) rfl ?_); at_builtin; refine Kd.R_append (Kd.int .i64) (w0 := w) w.heap.size rfl (.tmp 8) (.tmp 11) 42 3 (.int .i64 0) 8 rfl Tryz.underlying42 info3 rfl (by decide) (by omega) v203 y202 a0_2 [.int .i64 a0_2] (fun _ => True) (fun _ => False) rfl rfl ?aP (fun _ hk => hk.elim) ?aF ?aO ?aB ?aS ?aL ?_; (case aP => exact rfl); (case aB => exact qB); (case aF => exact (fun _ _ => trivial)); (case aO => exact (qR HO204.out)); (case aS => exact (below_size qB)); (case aL => have := LMc3.out; omega); intro v206 w8 ho hb hg hat; rw [← Ny205.out] at ho; replace BK201 := zA (blk_grown (qK BK201.out) hg (Kd.R_ne HO204.out BK201.out (by decide))); replace HB := zA (hb); have HO207 := zA (ho); clear HO204; clear ho hb hg hat))
   go_ret
   exact ⟨_, qE, qR HO207.out, qB⟩
  ·rw [zD c3] at H
   exact absurd H (by simp)
 ·rw [zD c2] at H
  obtain ⟨c2b0, c2b1⟩ := qn c2
  by_cases c9 : a0_0 = 13
  ·rw [zC c9] at H
   obtain ⟨c9b0, c9b1⟩ := qe c9; clear c9
   obtain ⟨y208, hy208⟩ : ∃ y_ : List Int, y_ = (([a0_3, a0_1] : List Int)) := ⟨_, rfl⟩
   replace H : (if y202.length + y208.length < 17592186044416 then (some (y202 ++ y208)) else (none)) = some r := by (try rw [hy208]); first | with_reducible exact H | exact (zJ _ _).symm.trans H | exact H
   have Ny208 := zA hy208
   clear hy208
   by_cases c10 : y202.length + y208.length < 17592186044416
   ·rw [zC c10] at H
    have LMc10 := zA c10
    clear c10
    obtain ⟨y211, hy211⟩ : ∃ y_ : List Int, y_ = (y202 ++ y208) := ⟨_, rfl⟩
    replace H : (some y211) = some r := by (try rw [hy211]); first | with_reducible exact H | exact (zJ _ _).symm.trans H | exact H
    have Ny211 := zA hy211
    clear hy211
    obtain rfl := zI H
    go_enter Tryz.func45, Tryz.ntmps45
    go_wp2_with (first | ((with_reducible refine gate_dst (N := 1) rfl ?_); refine box_event (by rfl) (N := 1) (by rfl) (cs := #[.int .i64 a0_0, .int .i64 a0_1, .int .i64 a0_2, .int .i64 a0_3, .string a0_4, .slice A0_5 l0_5.length c0_5]) (t := 44) ?hr ?_; (case hr => go_simp <;> rfl); intro gb201 hg w11 hbox hb; have BK201 := zA (hbox); have GW201 := qG hg; have GE201 := GW201; replace HB := qH hb; clear hb hbox hg) | ((with_reducible refine gate_dst (N := 4) rfl ?_); refine Kd.R_lit (Kd.int .i64) _ 3 (by rfl) (N := 4) (by rfl) (xs := ([] : List Int)) (inner := []) (ok := fun _ => True) (okp := fun _ => True) ?hr ?hp (fun _ hk => hk) trivial (Below.refl _ _) (Nat.le_refl _) (by simp) ?_; (case hr => go_simp <;> rfl); (case hp => exact (Reps.none _ _)); intro v203 w12 ho13 hb hg_ hnew_; clear hg_ hnew_; (first | rw [← Ny202.out] at ho13 | (simp only [Int.reduceToNat] at ho13; rw [← Ny202.out] at ho13)); have HO204 := zA (Kd.R_lower ho13 (below_size qB)); replace BK201 := qW BK201 hb; replace HB := qH hb; clear hb ho13; have z14_0 := bk6 BK201.out) | ((with_reducible refine gate_dst (N := 21) rfl ?_); refine Kd.R_lit (Kd.int .i64) _ 3 (by rfl) (N := 21) (by rfl) (xs := ([a0_3, a0_1] : List Int)) (inner := [.int .i64 a0_3, .int .i64 a0_1]) (ok := fun _ => True) (okp := fun _ => True) ?hr ?hp (fun _ hk => hk) trivial (Below.refl _ _) (Nat.le_refl _) (by simp) ?_; (case hr => go_simp <;> rfl); (case hp => exact (Reps.one (show Kd.M (Kd.int .i64) _ _ _ a0_3 [.int .i64 a0_3] from rfl) (Reps.one (show Kd.M (Kd.int .i64) _ _ _ a0_1 [.int .i64 a0_1] from rfl) (Reps.none _ _)))); intro v209 w15 ho16 hb hg_ hnew_; clear hg_ hnew_; (first | rw [← Ny208.out] at ho16 | (simp only [Int.reduceToNat] at ho16; rw [← Ny208.out] at ho16)); have HO210 := zA (Kd.R_lower (Kd.R_new' ho16 (Kd.R_lt (qR HO204.out))) (below_size qB)); replace HO204 := zA (Kd.R_elder' (qR HO204.out) (Kd.R_base ho16) hb); replace BK201 := qW BK201 hb; replace HB := qH hb; clear hb ho16; obtain ⟨Ao18, co18, eo18⟩ := Kd.R_slice HO210.out; subst eo18) | ((with_reducible refine gate_builtin (b := .append) (xs := #[.tmp 16, .tmp 21]) rfl ?_); at_builtin; refine Kd.R_append_rows (Kd.int .i64) (w0 := w) w.heap.size rfl (.tmp 16) (.tmp 21) 42 3 (.int .i64 0) 8 rfl Tryz.underlying42 info3 rfl (by decide) (by omega) v203 y202 y208 _ _ _ (fun k_ => some k_ ≠ (.slice Ao18 y208.length co18 : Value).ownBlock) (fun _ => False) rfl rfl ?aO ?aR (fun _ _ h => h) (fun _ h => h.elim) ?aF ?aB ?aS ?aL ?_; (case aR => repeat (first | exact (Kd.R_reads' HO210.out).2.2 | (with_reducible refine Kd.C_alloc ?_ _) | (with_reducible refine Kd.C_drewN ?_ _) | (with_reducible refine Kd.C_drew ?_))); (case aB => exact qB); (case aF => exact (fun k_ hk => Kd.fresh' (Kd.R_lt (qR HO210.out)) k_ hk)); (case aO => exact (by (with_reducible repeat (first | apply Kd.R_alloc | apply Kd.R_drewN | apply Kd.R_drew)); exact Kd.R_mono HO204.out (fun _ hk => hk.2))); (case aS => exact (below_size qB)); (case aL => have := LMc10.out; omega); intro v212 w17 ho hb hg hat; rw [← Ny211.out] at ho; replace BK201 := zA (blk_grown (qK BK201.out) hg (Kd.R_ne HO204.out BK201.out (by decide))); replace HO210 := zA (Kd.R_after (ok := (fun _ => True)) (qR HO210.out) hg hat); replace HB := zA (hb); have HO213 := zA (ho); clear HO204; clear ho hb hg hat))
    go_ret
    exact ⟨_, qE, by (with_reducible repeat (first | apply Kd.R_alloc | apply Kd.R_drewN | apply Kd.R_drew)); exact Kd.R_mono HO213.out (fun _ hk => trivial), qB⟩
   ·rw [zD c10] at H
    exact absurd H (by simp)
  ·rw [zD c9] at H
   obtain ⟨c9b0, c9b1⟩ := qn c9
   obtain rfl := zI H
   go_enter Tryz.func45, Tryz.ntmps45
   go_wp2_with (first | ((with_reducible refine gate_dst (N := 1) rfl ?_); refine box_event (by rfl) (N := 1) (by rfl) (cs := #[.int .i64 a0_0, .int .i64 a0_1, .int .i64 a0_2, .int .i64 a0_3, .string a0_4, .slice A0_5 l0_5.length c0_5]) (t := 44) ?hr ?_; (case hr => go_simp <;> rfl); intro gb201 hg w19 hbox hb; have BK201 := zA (hbox); have GW201 := qG hg; have GE201 := GW201; replace HB := qH hb; clear hb hbox hg) | ((with_reducible refine gate_dst (N := 4) rfl ?_); refine Kd.R_lit (Kd.int .i64) _ 3 (by rfl) (N := 4) (by rfl) (xs := ([] : List Int)) (inner := []) (ok := fun _ => True) (okp := fun _ => True) ?hr ?hp (fun _ hk => hk) trivial (Below.refl _ _) (Nat.le_refl _) (by simp) ?_; (case hr => go_simp <;> rfl); (case hp => exact (Reps.none _ _)); intro v203 w20 ho21 hb hg_ hnew_; clear hg_ hnew_; (first | rw [← Ny202.out] at ho21 | (simp only [Int.reduceToNat] at ho21; rw [← Ny202.out] at ho21)); have HO204 := zA (Kd.R_lower ho21 (below_size qB)); replace BK201 := qW BK201 hb; replace HB := qH hb; clear hb ho21; have z22_0 := bk6 BK201.out))
   go_ret
   exact ⟨_, qE, qR HO204.out, qB⟩

mutual
def cubbyref07_Uses.j0 : Nat → List Int → Int → Bool → Int → Int → Int → Int → ByteArray → List Int → Option (List Int)
 | 0, _, _, _, _, _, _, _, _, _ => none
 | k + 1, x3, x6, x7, x186000, x186001, x186002, x186003, x186004, x186005 => if x7 = true then (if x3.length < 17592186044416 then (some (x3 ++ [x186002])) else (none)) else (if x6 = 3 then (cubbyref07_Uses.j1 k x3 x6 (x6 == 3) x186000 x186001 x186002 x186003 x186004 x186005) else (if x6 = 4 then (cubbyref07_Uses.j1 k x3 x6 (x6 == 4) x186000 x186001 x186002 x186003 x186004 x186005) else (if x6 = 5 then (cubbyref07_Uses.j1 k x3 x6 (x6 == 5) x186000 x186001 x186002 x186003 x186004 x186005) else (if x6 = 6 then (cubbyref07_Uses.j1 k x3 x6 (x6 == 6) x186000 x186001 x186002 x186003 x186004 x186005) else (if x6 = 7 then (cubbyref07_Uses.j1 k x3 x6 (x6 == 7) x186000 x186001 x186002 x186003 x186004 x186005) else (cubbyref07_Uses.j1 k x3 x6 (x6 == 9) x186000 x186001 x186002 x186003 x186004 x186005))))))
def cubbyref07_Uses.j1 : Nat → List Int → Int → Bool → Int → Int → Int → Int → ByteArray → List Int → Option (List Int)
 | 0, _, _, _, _, _, _, _, _, _ => none
 | k + 1, x3, x6, x18, x186000, x186001, x186002, x186003, x186004, x186005 => if x18 = true then ((some (([x186002, x186003] : List Int) : List Int)).bind fun y192 => (if x3.length + y192.length < 17592186044416 then (some (x3 ++ y192)) else (none))) else (if x6 = 11 then (if x3.length + x186005.length < 17592186044416 then (some (x3 ++ x186005)) else (none)) else (some x3))
end
def cubbyref07_Uses.f (k : Nat) (a0_0 : Int) (a0_1 : Int) (a0_2 : Int) (a0_3 : Int) (a0_4 : ByteArray) (l0_5 : List Int) : Option (List Int) := (some (([] : List Int) : List Int)).bind fun y186 => (if a0_0 = 2 then (cubbyref07_Uses.j0 k y186 a0_0 (a0_0 == 2) a0_0 a0_1 a0_2 a0_3 a0_4 l0_5) else (if a0_0 = 8 then (cubbyref07_Uses.j0 k y186 a0_0 (a0_0 == 8) a0_0 a0_1 a0_2 a0_3 a0_4 l0_5) else (if a0_0 = 10 then (cubbyref07_Uses.j0 k y186 a0_0 (a0_0 == 10) a0_0 a0_1 a0_2 a0_3 a0_4 l0_5) else (if a0_0 = 14 then (cubbyref07_Uses.j0 k y186 a0_0 (a0_0 == 14) a0_0 a0_1 a0_2 a0_3 a0_4 l0_5) else (cubbyref07_Uses.j0 k y186 a0_0 (a0_0 == 13) a0_0 a0_1 a0_2 a0_3 a0_4 l0_5)))))
set_option maxHeartbeats 8000000 in
set_option maxRecDepth 100000 in
theorem cubbyref07_Uses.calls (k : Nat) (a0_0 : Int) (a0_1 : Int) (a0_2 : Int) (a0_3 : Int) (a0_4 : ByteArray) (A0_5 : Option Addr) (c0_5 : Nat) (l0_5 : List Int) (r : List Int) (w : World) (hr0_5 : Kd.C (Kd.int .i64) w A0_5 l0_5.length l0_5) (hc0_5 : l0_5.length ≤ c0_5) (h : cubbyref07_Uses.f k a0_0 a0_1 a0_2 a0_3 a0_4 l0_5 = some r) :
 Calls Tryz.prog 44 #[.agg #[.int .i64 a0_0, .int .i64 a0_1, .int .i64 a0_2, .int .i64 a0_3, .string a0_4, .slice A0_5 l0_5.length c0_5]] w fun e w' => ∃ v0_ : Value, e = .returned (v0_) ∧ Kd.R (Kd.int .i64) 3 w' w.heap.size (fun _ => True) v0_ r ∧ Below w.heap.size w w' := by
 have hu44 := Tryz.underlying44
 have HR0_5 := zA hr0_5
 have HC0_5 := zA hc0_5
 clear hr0_5 hc0_5
 have HB := zA (Below.refl w.heap.size w)
 have H := h; clear h; unfold cubbyref07_Uses.f at H
 obtain ⟨y186, hy186⟩ : ∃ y_ : List Int, y_ = (([] : List Int)) := ⟨_, rfl⟩
 replace H : (if a0_0 = 2 then (cubbyref07_Uses.j0 k y186 a0_0 (a0_0 == 2) a0_0 a0_1 a0_2 a0_3 a0_4 l0_5) else (if a0_0 = 8 then (cubbyref07_Uses.j0 k y186 a0_0 (a0_0 == 8) a0_0 a0_1 a0_2 a0_3 a0_4 l0_5) else (if a0_0 = 10 then (cubbyref07_Uses.j0 k y186 a0_0 (a0_0 == 10) a0_0 a0_1 a0_2 a0_3 a0_4 l0_5) else (if a0_0 = 14 then (cubbyref07_Uses.j0 k y186 a0_0 (a0_0 == 14) a0_0 a0_1 a0_2 a0_3 a0_4 l0_5) else (cubbyref07_Uses.j0 k y186 a0_0 (a0_0 == 13) a0_0 a0_1 a0_2 a0_3 a0_4 l0_5))))) = some r := by (try rw [hy186]); first | with_reducible exact H | exact (zJ _ _).symm.trans H | exact H
 have Ny186 := zA hy186
 clear hy186
 have HC2 := zA H
 clear H
 go_enter Tryz.func44, Tryz.ntmps44
 go_upto_if 7 with (first | ((with_reducible refine gate_dst (N := 1) rfl ?_); refine box_event (by rfl) (N := 1) (by rfl) (cs := #[.int .i64 a0_0, .int .i64 a0_1, .int .i64 a0_2, .int .i64 a0_3, .string a0_4, .slice A0_5 l0_5.length c0_5]) (t := 44) ?hr ?_; (case hr => go_simp <;> rfl); intro gb185 hg w3 hbox hb; have BK185 := zA (hbox); have GW185 := qG hg; have GE185 := GW185; replace HB := qH hb; clear hb hbox hg) | ((with_reducible refine gate_dst (N := 4) rfl ?_); refine Kd.R_lit (Kd.int .i64) _ 3 (by rfl) (N := 4) (by rfl) (xs := ([] : List Int)) (inner := []) (ok := fun _ => True) (okp := fun _ => True) ?hr ?hp (fun _ hk => hk) trivial (Below.refl _ _) (Nat.le_refl _) (by simp) ?_; (case hr => go_simp <;> rfl); (case hp => exact (Reps.none _ _)); intro v187 w4 ho5 hb hg_ hnew_; clear hg_ hnew_; (first | rw [← Ny186.out] at ho5 | (simp only [Int.reduceToNat] at ho5; rw [← Ny186.out] at ho5)); have HO188 := zA (Kd.R_lower ho5 (below_size qB)); replace BK185 := qW BK185 hb; replace HB := qH hb; clear hb ho5; have z6_0 := bk6 BK185.out))
 (try simp only [Act.put, List.setIfInBounds_toArray, List.set_cons_zero, List.set_cons_succ])
 go_cut [7] (fun v7 wc => ∃ (kq : Nat) (x7_1 : Bool), v7 = .bool x7_1 ∧ Aside0 (cubbyref07_Uses.j0 kq y186 a0_0 x7_1 a0_0 a0_1 a0_2 a0_3 a0_4 l0_5 = some r) ∧ Aside0 (kq ≤ k) ∧ Aside0 (Kd.R (Kd.int .i64) 3 wc w.heap.size (fun _ => True) v187 y186) ∧ Aside0 (wc.heap[gb185]? = some (.cells #[.int .i64 a0_0, .int .i64 a0_1, .int .i64 a0_2, .int .i64 a0_3, .string a0_4, (.slice A0_5 l0_5.length c0_5)] 44 (0, 0))) ∧ Aside0 (Below w.heap.size w wc))
 case first =>
  have H := HC2.out
  clear HC2
  by_cases c7 : a0_0 = 2
  ·rw [zC c7] at H
   obtain ⟨c7b0, c7b1⟩ := qe c7; clear c7
   (first | rw [c7b0] | (simp only [i64_w, i32_w]; rw [c7b0]) | skip)
   have H' := zA H
   clear H
   go_wp2
   go_meet
   case rel => exact ⟨_, ((a0_0 == 2)), qT, H', ⟨qO⟩, ⟨qR HO188.out⟩, ⟨qK BK185.out⟩, ⟨qB⟩⟩
  ·rw [zD c7] at H
   obtain ⟨c7b0, c7b1⟩ := qn c7
   (first | rw [c7b0] | (simp only [i64_w, i32_w]; rw [c7b0]) | skip)
   by_cases c8 : a0_0 = 8
   ·rw [zC c8] at H
    obtain ⟨c8b0, c8b1⟩ := qe c8; clear c8
    have H' := zA H
    clear H
    go_wp2
    go_meet
    case rel => exact ⟨_, ((a0_0 == 8)), qT, H', ⟨qO⟩, ⟨qR HO188.out⟩, ⟨qK BK185.out⟩, ⟨qB⟩⟩
   ·rw [zD c8] at H
    obtain ⟨c8b0, c8b1⟩ := qn c8
    by_cases c9 : a0_0 = 10
    ·rw [zC c9] at H
     obtain ⟨c9b0, c9b1⟩ := qe c9; clear c9
     have H' := zA H
     clear H
     go_wp2
     go_meet
     case rel => exact ⟨_, ((a0_0 == 10)), qT, H', ⟨qO⟩, ⟨qR HO188.out⟩, ⟨qK BK185.out⟩, ⟨qB⟩⟩
    ·rw [zD c9] at H
     obtain ⟨c9b0, c9b1⟩ := qn c9
     by_cases c10 : a0_0 = 14
     ·rw [zC c10] at H
      obtain ⟨c10b0, c10b1⟩ := qe c10; clear c10
      have H' := zA H
      clear H
      go_wp2
      go_meet
      case rel => exact ⟨_, ((a0_0 == 14)), qT, H', ⟨qO⟩, ⟨qR HO188.out⟩, ⟨qK BK185.out⟩, ⟨qB⟩⟩
     ·rw [zD c10] at H
      obtain ⟨c10b0, c10b1⟩ := qn c10
      have H' := zA H
      clear H
      go_wp2
      go_meet
      case rel => exact ⟨_, ((a0_0 == 13)), qT, H', ⟨qO⟩, ⟨qR HO188.out⟩, ⟨qK BK185.out⟩, ⟨qB⟩⟩
 case rest =>
  clear HC2
  obtain ⟨kq, x7_1, rfl, HA, HJ1, HO_3, BK185, HB⟩ := hcut
  cases kq with
  | zero => exact absurd HA.out (by simp [cubbyref07_Uses.j0])
  | succ kj1 =>
   have H := HA.out
   clear HA
   simp only [cubbyref07_Uses.j0] at H
   by_cases c11 : x7_1 = true
   ·subst c11
    have H1 : (if y186.length < 17592186044416 then (some (y186 ++ [a0_2])) else (none)) = some r := by rw [zC rfl] at H; exact H
    clear H
    have H := H1
    clear H1
    by_cases c12 : y186.length < 17592186044416
    ·rw [zC c12] at H
     have LMc12 := zA c12
     clear c12
     obtain ⟨y189, hy189⟩ : ∃ y_ : List Int, y_ = (y186 ++ [a0_2]) := ⟨_, rfl⟩
     replace H : (some y189) = some r := by (try rw [hy189]); first | with_reducible exact H | exact (zJ _ _).symm.trans H | exact H
     have Ny189 := zA hy189
     clear hy189
     obtain rfl := zI H
     have z13_0 := bk6 BK185.out
     go_wp2_with (first | ((with_reducible refine gate_builtin (b := .append) (xs := #[.tmp 13, .tmp 16]) rfl ?_); at_builtin; refine Kd.R_append (Kd.int .i64) (w0 := w) w.heap.size rfl (.tmp 13) (.tmp 16) 42 3 (.int .i64 0) 8 rfl Tryz.underlying42 info3 rfl (by decide) (by omega) v187 y186 a0_2 [.int .i64 a0_2] (fun _ => True) (fun _ => False) rfl rfl ?aP (fun _ hk => hk.elim) ?aF ?aO ?aB ?aS ?aL ?_; (case aP => exact rfl); (case aB => exact qB); (case aF => exact (fun _ _ => trivial)); (case aO => exact (qR HO_3.out)); (case aS => exact (below_size qB)); (case aL => have := LMc12.out; omega); intro v190 w14 ho hb hg hat; rw [← Ny189.out] at ho; replace BK185 := zA (blk_grown (qK BK185.out) hg (Kd.R_ne HO_3.out BK185.out (by decide))); replace HB := zA (hb); have HO191 := zA (ho); clear HO_3; clear ho hb hg hat))
     go_ret
     exact ⟨_, qE, qR HO191.out, qB⟩
    ·rw [zD c12] at H
     exact absurd H (by simp)
   ·replace c11 := Bool.eq_false_iff.mpr c11
    subst c11
    have H1 : (if a0_0 = 3 then (cubbyref07_Uses.j1 kj1 y186 a0_0 (a0_0 == 3) a0_0 a0_1 a0_2 a0_3 a0_4 l0_5) else (if a0_0 = 4 then (cubbyref07_Uses.j1 kj1 y186 a0_0 (a0_0 == 4) a0_0 a0_1 a0_2 a0_3 a0_4 l0_5) else (if a0_0 = 5 then (cubbyref07_Uses.j1 kj1 y186 a0_0 (a0_0 == 5) a0_0 a0_1 a0_2 a0_3 a0_4 l0_5) else (if a0_0 = 6 then (cubbyref07_Uses.j1 kj1 y186 a0_0 (a0_0 == 6) a0_0 a0_1 a0_2 a0_3 a0_4 l0_5) else (if a0_0 = 7 then (cubbyref07_Uses.j1 kj1 y186 a0_0 (a0_0 == 7) a0_0 a0_1 a0_2 a0_3 a0_4 l0_5) else (cubbyref07_Uses.j1 kj1 y186 a0_0 (a0_0 == 9) a0_0 a0_1 a0_2 a0_3 a0_4 l0_5)))))) = some r := by rw [zD (show ¬ (false = true) by decide)] at H; exact H
    clear H
    have H := H1
    clear H1
    have HC15 := zA H
    clear H
    go_upto_if 18 with (fail)
    go_cut [18] (fun v18 wc => ∃ (kq : Nat) (x18_14 : Bool), v18 = .bool x18_14 ∧ Aside0 (cubbyref07_Uses.j1 kq y186 a0_0 x18_14 a0_0 a0_1 a0_2 a0_3 a0_4 l0_5 = some r) ∧ Aside0 (kq ≤ kj1) ∧ Aside0 (Kd.R (Kd.int .i64) 3 wc w.heap.size (fun _ => True) v187 y186) ∧ Aside0 (wc.heap[gb185]? = some (.cells #[.int .i64 a0_0, .int .i64 a0_1, .int .i64 a0_2, .int .i64 a0_3, .string a0_4, (.slice A0_5 l0_5.length c0_5)] 44 (0, 0))) ∧ Aside0 (Below w.heap.size w wc))
    case first =>
     have H := HC15.out
     clear HC15
     by_cases c16 : a0_0 = 3
     ·rw [zC c16] at H
      obtain ⟨c16b0, c16b1⟩ := qe c16; clear c16
      (first | rw [c16b0] | (simp only [i64_w, i32_w]; rw [c16b0]) | skip)
      have H' := zA H
      clear H
      go_wp2
      go_meet
      case rel => exact ⟨_, ((a0_0 == 3)), qT, H', ⟨by have := HJ1.out; first | omega | exact Nat.le_refl _⟩, ⟨qR HO_3.out⟩, ⟨qK BK185.out⟩, ⟨qB⟩⟩
     ·rw [zD c16] at H
      obtain ⟨c16b0, c16b1⟩ := qn c16
      (first | rw [c16b0] | (simp only [i64_w, i32_w]; rw [c16b0]) | skip)
      by_cases c17 : a0_0 = 4
      ·rw [zC c17] at H
       obtain ⟨c17b0, c17b1⟩ := qe c17; clear c17
       have H' := zA H
       clear H
       go_wp2
       go_meet
       case rel => exact ⟨_, ((a0_0 == 4)), qT, H', ⟨by have := HJ1.out; first | omega | exact Nat.le_refl _⟩, ⟨qR HO_3.out⟩, ⟨qK BK185.out⟩, ⟨qB⟩⟩
      ·rw [zD c17] at H
       obtain ⟨c17b0, c17b1⟩ := qn c17
       by_cases c18 : a0_0 = 5
       ·rw [zC c18] at H
        obtain ⟨c18b0, c18b1⟩ := qe c18; clear c18
        have H' := zA H
        clear H
        go_wp2
        go_meet
        case rel => exact ⟨_, ((a0_0 == 5)), qT, H', ⟨by have := HJ1.out; first | omega | exact Nat.le_refl _⟩, ⟨qR HO_3.out⟩, ⟨qK BK185.out⟩, ⟨qB⟩⟩
       ·rw [zD c18] at H
        obtain ⟨c18b0, c18b1⟩ := qn c18
        by_cases c19 : a0_0 = 6
        ·rw [zC c19] at H
         obtain ⟨c19b0, c19b1⟩ := qe c19; clear c19
         have H' := zA H
         clear H
         go_wp2
         go_meet
         case rel => exact ⟨_, ((a0_0 == 6)), qT, H', ⟨by have := HJ1.out; first | omega | exact Nat.le_refl _⟩, ⟨qR HO_3.out⟩, ⟨qK BK185.out⟩, ⟨qB⟩⟩
        ·rw [zD c19] at H
         obtain ⟨c19b0, c19b1⟩ := qn c19
         by_cases c20 : a0_0 = 7
         ·rw [zC c20] at H
          obtain ⟨c20b0, c20b1⟩ := qe c20; clear c20
          have H' := zA H
          clear H
          go_wp2
          go_meet
          case rel => exact ⟨_, ((a0_0 == 7)), qT, H', ⟨by have := HJ1.out; first | omega | exact Nat.le_refl _⟩, ⟨qR HO_3.out⟩, ⟨qK BK185.out⟩, ⟨qB⟩⟩
         ·rw [zD c20] at H
          obtain ⟨c20b0, c20b1⟩ := qn c20
          have H' := zA H
          clear H
          go_wp2
          go_meet
          case rel => exact ⟨_, ((a0_0 == 9)), qT, H', ⟨by have := HJ1.out; first | omega | exact Nat.le_refl _⟩, ⟨qR HO_3.out⟩, ⟨qK BK185.out⟩, ⟨qB⟩⟩
    case rest =>
     clear HC15
     obtain ⟨kq, x18_14, rfl, HA, HJ14, HO_3, BK185, HB⟩ := hcut
     cases kq with
     | zero => exact absurd HA.out (by simp [cubbyref07_Uses.j1])
     | succ kj14 =>
      have H := HA.out
      clear HA
      simp only [cubbyref07_Uses.j1] at H
      by_cases c21 : x18_14 = true
      ·subst c21
       have H1 : ((some (([a0_2, a0_3] : List Int) : List Int)).bind fun y192 => (if y186.length + y192.length < 17592186044416 then (some (y186 ++ y192)) else (none))) = some r := by rw [zC rfl] at H; exact H
       clear H
       have H := H1
       clear H1
       obtain ⟨y192, hy192⟩ : ∃ y_ : List Int, y_ = (([a0_2, a0_3] : List Int)) := ⟨_, rfl⟩
       replace H : (if y186.length + y192.length < 17592186044416 then (some (y186 ++ y192)) else (none)) = some r := by (try rw [hy192]); first | with_reducible exact H | exact (zJ _ _).symm.trans H | exact H
       have Ny192 := zA hy192
       clear hy192
       by_cases c22 : y186.length + y192.length < 17592186044416
       ·rw [zC c22] at H
        have LMc22 := zA c22
        clear c22
        obtain ⟨y195, hy195⟩ : ∃ y_ : List Int, y_ = (y186 ++ y192) := ⟨_, rfl⟩
        replace H : (some y195) = some r := by (try rw [hy195]); first | with_reducible exact H | exact (zJ _ _).symm.trans H | exact H
        have Ny195 := zA hy195
        clear hy195
        obtain rfl := zI H
        have z23_0 := bk6 BK185.out
        go_wp2_with (first | ((with_reducible refine gate_dst (N := 30) rfl ?_); refine Kd.R_lit (Kd.int .i64) _ 3 (by rfl) (N := 30) (by rfl) (xs := ([a0_2, a0_3] : List Int)) (inner := [.int .i64 a0_2, .int .i64 a0_3]) (ok := fun _ => True) (okp := fun _ => True) ?hr ?hp (fun _ hk => hk) trivial (Below.refl _ _) (Nat.le_refl _) (by simp) ?_; (case hr => go_simp <;> rfl); (case hp => exact (Reps.one (show Kd.M (Kd.int .i64) _ _ _ a0_2 [.int .i64 a0_2] from rfl) (Reps.one (show Kd.M (Kd.int .i64) _ _ _ a0_3 [.int .i64 a0_3] from rfl) (Reps.none _ _)))); intro v193 w24 ho25 hb hg_ hnew_; clear hg_ hnew_; (first | rw [← Ny192.out] at ho25 | (simp only [Int.reduceToNat] at ho25; rw [← Ny192.out] at ho25)); have HO194 := zA (Kd.R_lower (Kd.R_new' ho25 (Kd.R_lt (qR HO_3.out))) (below_size qB)); replace HO_3 := zA (Kd.R_elder' (qR HO_3.out) (Kd.R_base ho25) hb); replace BK185 := qW BK185 hb; replace HB := qH hb; clear hb ho25; obtain ⟨Ao27, co27, eo27⟩ := Kd.R_slice HO194.out; subst eo27) | ((with_reducible refine gate_builtin (b := .append) (xs := #[.tmp 25, .tmp 30]) rfl ?_); at_builtin; refine Kd.R_append_rows (Kd.int .i64) (w0 := w) w.heap.size rfl (.tmp 25) (.tmp 30) 42 3 (.int .i64 0) 8 rfl Tryz.underlying42 info3 rfl (by decide) (by omega) v187 y186 y192 _ _ _ (fun k_ => some k_ ≠ (.slice Ao27 y192.length co27 : Value).ownBlock) (fun _ => False) rfl rfl ?aO ?aR (fun _ _ h => h) (fun _ h => h.elim) ?aF ?aB ?aS ?aL ?_; (case aR => repeat (first | exact (Kd.R_reads' HO194.out).2.2 | (with_reducible refine Kd.C_alloc ?_ _) | (with_reducible refine Kd.C_drewN ?_ _) | (with_reducible refine Kd.C_drew ?_))); (case aB => exact qB); (case aF => exact (fun k_ hk => Kd.fresh' (Kd.R_lt (qR HO194.out)) k_ hk)); (case aO => exact (by (with_reducible repeat (first | apply Kd.R_alloc | apply Kd.R_drewN | apply Kd.R_drew)); exact Kd.R_mono HO_3.out (fun _ hk => hk.2))); (case aS => exact (below_size qB)); (case aL => have := LMc22.out; omega); intro v196 w26 ho hb hg hat; rw [← Ny195.out] at ho; replace BK185 := zA (blk_grown (qK BK185.out) hg (Kd.R_ne HO_3.out BK185.out (by decide))); replace HO194 := zA (Kd.R_after (ok := (fun _ => True)) (qR HO194.out) hg hat); replace HB := zA (hb); have HO197 := zA (ho); clear HO_3; clear ho hb hg hat))
        go_ret
        exact ⟨_, qE, by (with_reducible repeat (first | apply Kd.R_alloc | apply Kd.R_drewN | apply Kd.R_drew)); exact Kd.R_mono HO197.out (fun _ hk => trivial), qB⟩
       ·rw [zD c22] at H
        exact absurd H (by simp)
      ·replace c21 := Bool.eq_false_iff.mpr c21
       subst c21
       have H1 : (if a0_0 = 11 then (if y186.length + l0_5.length < 17592186044416 then (some (y186 ++ l0_5)) else (none)) else (some y186)) = some r := by rw [zD (show ¬ (false = true) by decide)] at H; exact H
       clear H
       have H := H1
       clear H1
       by_cases c28 : a0_0 = 11
       ·rw [zC c28] at H
        obtain ⟨c28b0, c28b1⟩ := qe c28; clear c28
        by_cases c29 : y186.length + l0_5.length < 17592186044416
        ·rw [zC c29] at H
         have LMc29 := zA c29
         clear c29
         obtain ⟨y198, hy198⟩ : ∃ y_ : List Int, y_ = (y186 ++ l0_5) := ⟨_, rfl⟩
         replace H : (some y198) = some r := by (try rw [hy198]); first | with_reducible exact H | exact (zJ _ _).symm.trans H | exact H
         have Ny198 := zA hy198
         clear hy198
         obtain rfl := zI H
         have z30_0 := bk6 BK185.out
         go_wp2_with (first | ((with_reducible refine gate_builtin (b := .append) (xs := #[.tmp 34, .tmp 36]) rfl ?_); at_builtin; refine Kd.R_append_rows (Kd.int .i64) (w0 := w) w.heap.size rfl (.tmp 34) (.tmp 36) 42 3 (.int .i64 0) 8 rfl Tryz.underlying42 info3 rfl (by decide) (by omega) v187 y186 l0_5 _ _ _ (fun _ => True) (fun _ => False) rfl rfl ?aO ?aR (fun _ _ h => h) (fun _ h => h.elim) ?aF ?aB ?aS ?aL ?_; (case aR => exact qCB HR0_5.out); (case aB => exact qB); (case aF => exact (fun _ _ => trivial)); (case aO => exact (qR HO_3.out)); (case aS => exact (below_size qB)); (case aL => have := LMc29.out; omega); intro v199 w31 ho hb hg hat; rw [← Ny198.out] at ho; replace BK185 := zA (blk_grown (qK BK185.out) hg (Kd.R_ne HO_3.out BK185.out (by decide))); replace HB := zA (hb); have HO200 := zA (ho); clear HO_3; clear ho hb hg hat))
         go_ret
         exact ⟨_, qE, qR HO200.out, qB⟩
        ·rw [zD c29] at H
         exact absurd H (by simp)
       ·rw [zD c28] at H
        obtain ⟨c28b0, c28b1⟩ := qn c28
        obtain rfl := zI H
        go_wp2
        go_ret
        exact ⟨_, qE, qR HO_3.out, qB⟩

mutual
def cubbyref07_bare.j0 : Nat → Bool → Int → Int → Int → Int → ByteArray → List Int → Option (Bool)
 | 0, _, _, _, _, _, _, _ => none
 | k + 1, x16, x182000, x182001, x182002, x182003, x182004, x182005 => if x16 = true then (some false) else (if x182000 = 1 then (cubbyref07_bare.j1 k x182000 (x182000 == 1) x182000 x182001 x182002 x182003 x182004 x182005) else (if x182000 = 2 then (cubbyref07_bare.j1 k x182000 (x182000 == 2) x182000 x182001 x182002 x182003 x182004 x182005) else (cubbyref07_bare.j1 k x182000 (x182000 == 8) x182000 x182001 x182002 x182003 x182004 x182005)))
def cubbyref07_bare.j1 : Nat → Int → Bool → Int → Int → Int → Int → ByteArray → List Int → Option (Bool)
 | 0, _, _, _, _, _, _, _, _ => none
 | k + 1, x18, x19, x182000, x182001, x182002, x182003, x182004, x182005 => if x19 = true then (some (x182003 == 0)) else (if x18 = 3 then (cubbyref07_bare.j2 k x18 (x18 == 3) x182000 x182001 x182002 x182003 x182004 x182005) else (if x18 = 4 then (cubbyref07_bare.j2 k x18 (x18 == 4) x182000 x182001 x182002 x182003 x182004 x182005) else (if x18 = 5 then (cubbyref07_bare.j2 k x18 (x18 == 5) x182000 x182001 x182002 x182003 x182004 x182005) else (if x18 = 6 then (cubbyref07_bare.j2 k x18 (x18 == 6) x182000 x182001 x182002 x182003 x182004 x182005) else (if x18 = 7 then (cubbyref07_bare.j2 k x18 (x18 == 7) x182000 x182001 x182002 x182003 x182004 x182005) else (cubbyref07_bare.j2 k x18 (x18 == 13) x182000 x182001 x182002 x182003 x182004 x182005))))))
def cubbyref07_bare.j2 : Nat → Int → Bool → Int → Int → Int → Int → ByteArray → List Int → Option (Bool)
 | 0, _, _, _, _, _, _, _, _ => none
 | k + 1, x18, x26, x182000, x182001, x182002, x182003, x182004, x182005 => if x26 = true then (some true) else (if x18 = 9 then (some (x182001 == 0)) else (if x18 = 10 then (cubbyref07_bare.j3 k x18 (x18 == 10) x182000 x182001 x182002 x182003 x182004 x182005) else (if x18 = 14 then (cubbyref07_bare.j3 k x18 (x18 == 14) x182000 x182001 x182002 x182003 x182004 x182005) else (cubbyref07_bare.j3 k x18 (x18 == 12) x182000 x182001 x182002 x182003 x182004 x182005))))
def cubbyref07_bare.j3 : Nat → Int → Bool → Int → Int → Int → Int → ByteArray → List Int → Option (Bool)
 | 0, _, _, _, _, _, _, _, _ => none
 | k + 1, x18, x38, x182000, x182001, x182002, x182003, x182004, x182005 => if x38 = true then (if x182001 = 0 then (some (x182003 == 0)) else (some false)) else (if x18 = 11 then (if x182002 = 0 then (some (x182003 == 0)) else (some false)) else (some false))
end
def cubbyref07_bare.f (k : Nat) (a0_0 : Int) (a0_1 : Int) (a0_2 : Int) (a0_3 : Int) (a0_4 : ByteArray) (l0_5 : List Int) : Option (Bool) := if a0_0 = 11 then (cubbyref07_bare.j0 k false a0_0 a0_1 a0_2 a0_3 a0_4 l0_5) else (if a0_4.toList = ([] : List UInt8) then (cubbyref07_bare.j0 k (decide ((l0_5.length : Int) > 0)) a0_0 a0_1 a0_2 a0_3 a0_4 l0_5) else (cubbyref07_bare.j0 k true a0_0 a0_1 a0_2 a0_3 a0_4 l0_5))
set_option maxHeartbeats 8000000 in
set_option maxRecDepth 100000 in
theorem cubbyref07_bare.calls (k : Nat) (a0_0 : Int) (a0_1 : Int) (a0_2 : Int) (a0_3 : Int) (a0_4 : ByteArray) (A0_5 : Option Addr) (c0_5 : Nat) (l0_5 : List Int) (r : Bool) (w : World) (hr0_5 : Kd.C (Kd.int .i64) w A0_5 l0_5.length l0_5) (hc0_5 : l0_5.length ≤ c0_5) (h : cubbyref07_bare.f k a0_0 a0_1 a0_2 a0_3 a0_4 l0_5 = some r) :
 Calls Tryz.prog 41 #[.agg #[.int .i64 a0_0, .int .i64 a0_1, .int .i64 a0_2, .int .i64 a0_3, .string a0_4, .slice A0_5 l0_5.length c0_5]] w fun e w' => e = .returned (.bool r) ∧ Below w.heap.size w w' := by
 have hu44 := Tryz.underlying44
 have HR0_5 := zA hr0_5
 have HC0_5 := zA hc0_5
 clear hr0_5 hc0_5
 have HB := zA (Below.refl w.heap.size w)
 have H := h; clear h; unfold cubbyref07_bare.f at H
 have HC2 := zA H
 clear H
 go_enter Tryz.func41, Tryz.ntmps41
 go_upto_region 1 with (first | ((with_reducible refine gate_dst (N := 1) rfl ?_); (try (refine gate_guard (by rfl) ?_; dsimp only)); refine box_event (by rfl) (N := 1) (by rfl) (cs := #[.int .i64 a0_0, .int .i64 a0_1, .int .i64 a0_2, .int .i64 a0_3, .string a0_4, .slice A0_5 l0_5.length c0_5]) (t := 44) ?hr ?_; (case hr => go_simp <;> rfl); intro gb181 hg w3 hbox hb; have BK181 := zA (hbox); have GW181 := qG hg; have GE181 := GW181; replace HB := qH hb; clear hb hbox hg))
 (try simp only [Act.put, List.setIfInBounds_toArray, List.set_cons_zero, List.set_cons_succ])
 go_cut [16] (fun v16 wc => ∃ (kq : Nat) (x16_1 : Bool), v16 = .bool x16_1 ∧ Aside0 (cubbyref07_bare.j0 kq x16_1 a0_0 a0_1 a0_2 a0_3 a0_4 l0_5 = some r) ∧ Aside0 (kq ≤ k) ∧ Aside0 (wc.heap[gb181]? = some (.cells #[.int .i64 a0_0, .int .i64 a0_1, .int .i64 a0_2, .int .i64 a0_3, .string a0_4, (.slice A0_5 l0_5.length c0_5)] 44 (0, 0))) ∧ Aside0 (Below w.heap.size w wc))
 case first =>
  have H := HC2.out
  clear HC2
  by_cases c4 : a0_0 = 11
  ·rw [zC c4] at H
   obtain ⟨c4b0, c4b1⟩ := qe c4; clear c4
   (first | rw [c4b0] | (simp only [i64_w, i32_w]; rw [c4b0]) | skip)
   have H' := zA H
   clear H
   have z5_0 := bk6 BK181.out
   go_wp2
   go_meet
   case rel => exact ⟨_, (false), qT, H', ⟨qO⟩, ⟨qK BK181.out⟩, ⟨qB⟩⟩
  ·rw [zD c4] at H
   obtain ⟨c4b0, c4b1⟩ := qn c4
   (first | rw [c4b0] | (simp only [i64_w, i32_w]; rw [c4b0]) | skip)
   by_cases c6 : a0_4.toList = ([] : List UInt8)
   ·rw [zC c6] at H
    obtain ⟨c6b0, c6b1⟩ := qe c6; clear c6
    have H' := zA H
    clear H
    have z7_0 := bk6 BK181.out
    go_wp2
    go_meet
    case rel => exact ⟨_, (decide ((l0_5.length : Int) > 0)), qT, H', ⟨qO⟩, ⟨qK BK181.out⟩, ⟨qB⟩⟩
   ·rw [zD c6] at H
    obtain ⟨c6b0, c6b1⟩ := qn c6
    have H' := zA H
    clear H
    have z8_0 := bk6 BK181.out
    go_wp2
    go_meet
    case rel => exact ⟨_, (true), qT, H', ⟨qO⟩, ⟨qK BK181.out⟩, ⟨qB⟩⟩
 case rest =>
  clear HC2
  obtain ⟨kq, x16_1, rfl, HA, HJ1, BK181, HB⟩ := hcut
  cases kq with
  | zero => exact absurd HA.out (by simp [cubbyref07_bare.j0])
  | succ kj1 =>
   have H := HA.out
   clear HA
   simp only [cubbyref07_bare.j0] at H
   by_cases c9 : x16_1 = true
   ·subst c9
    have H1 : (some false) = some r := by rw [zC rfl] at H; exact H
    clear H
    have H := H1
    clear H1
    obtain rfl := zI H
    go_wp2
    go_ret
    exact ⟨qE, qB⟩
   ·replace c9 := Bool.eq_false_iff.mpr c9
    subst c9
    have H1 : (if a0_0 = 1 then (cubbyref07_bare.j1 kj1 a0_0 (a0_0 == 1) a0_0 a0_1 a0_2 a0_3 a0_4 l0_5) else (if a0_0 = 2 then (cubbyref07_bare.j1 kj1 a0_0 (a0_0 == 2) a0_0 a0_1 a0_2 a0_3 a0_4 l0_5) else (cubbyref07_bare.j1 kj1 a0_0 (a0_0 == 8) a0_0 a0_1 a0_2 a0_3 a0_4 l0_5))) = some r := by rw [zD (show ¬ (false = true) by decide)] at H; exact H
    clear H
    have H := H1
    clear H1
    have HC10 := zA H
    clear H
    have z11_0 := bk6 BK181.out
    go_upto_if 19 with (fail)
    go_cut [19] (fun v19 wc => ∃ (kq : Nat) (x19_9 : Bool), v19 = .bool x19_9 ∧ Aside0 (cubbyref07_bare.j1 kq a0_0 x19_9 a0_0 a0_1 a0_2 a0_3 a0_4 l0_5 = some r) ∧ Aside0 (kq ≤ kj1) ∧ Aside0 (wc.heap[gb181]? = some (.cells #[.int .i64 a0_0, .int .i64 a0_1, .int .i64 a0_2, .int .i64 a0_3, .string a0_4, (.slice A0_5 l0_5.length c0_5)] 44 (0, 0))) ∧ Aside0 (Below w.heap.size w wc))
    case first =>
     have H := HC10.out
     clear HC10
     by_cases c12 : a0_0 = 1
     ·rw [zC c12] at H
      obtain ⟨c12b0, c12b1⟩ := qe c12; clear c12
      (first | rw [c12b0] | (simp only [i64_w, i32_w]; rw [c12b0]) | skip)
      have H' := zA H
      clear H
      go_wp2
      go_meet
      case rel => exact ⟨_, ((a0_0 == 1)), qT, H', ⟨by have := HJ1.out; first | omega | exact Nat.le_refl _⟩, ⟨qK BK181.out⟩, ⟨qB⟩⟩
     ·rw [zD c12] at H
      obtain ⟨c12b0, c12b1⟩ := qn c12
      (first | rw [c12b0] | (simp only [i64_w, i32_w]; rw [c12b0]) | skip)
      by_cases c13 : a0_0 = 2
      ·rw [zC c13] at H
       obtain ⟨c13b0, c13b1⟩ := qe c13; clear c13
       have H' := zA H
       clear H
       go_wp2
       go_meet
       case rel => exact ⟨_, ((a0_0 == 2)), qT, H', ⟨by have := HJ1.out; first | omega | exact Nat.le_refl _⟩, ⟨qK BK181.out⟩, ⟨qB⟩⟩
      ·rw [zD c13] at H
       obtain ⟨c13b0, c13b1⟩ := qn c13
       have H' := zA H
       clear H
       go_wp2
       go_meet
       case rel => exact ⟨_, ((a0_0 == 8)), qT, H', ⟨by have := HJ1.out; first | omega | exact Nat.le_refl _⟩, ⟨qK BK181.out⟩, ⟨qB⟩⟩
    case rest =>
     clear HC10
     obtain ⟨kq, x19_9, rfl, HA, HJ9, BK181, HB⟩ := hcut
     cases kq with
     | zero => exact absurd HA.out (by simp [cubbyref07_bare.j1])
     | succ kj9 =>
      have H := HA.out
      clear HA
      simp only [cubbyref07_bare.j1] at H
      by_cases c14 : x19_9 = true
      ·subst c14
       have H1 : (some (a0_3 == 0)) = some r := by rw [zC rfl] at H; exact H
       clear H
       have H := H1
       clear H1
       obtain rfl := zI H
       have z15_0 := bk6 BK181.out
       go_wp2
       go_ret
       exact ⟨qE, qB⟩
      ·replace c14 := Bool.eq_false_iff.mpr c14
       subst c14
       have H1 : (if a0_0 = 3 then (cubbyref07_bare.j2 kj9 a0_0 (a0_0 == 3) a0_0 a0_1 a0_2 a0_3 a0_4 l0_5) else (if a0_0 = 4 then (cubbyref07_bare.j2 kj9 a0_0 (a0_0 == 4) a0_0 a0_1 a0_2 a0_3 a0_4 l0_5) else (if a0_0 = 5 then (cubbyref07_bare.j2 kj9 a0_0 (a0_0 == 5) a0_0 a0_1 a0_2 a0_3 a0_4 l0_5) else (if a0_0 = 6 then (cubbyref07_bare.j2 kj9 a0_0 (a0_0 == 6) a0_0 a0_1 a0_2 a0_3 a0_4 l0_5) else (if a0_0 = 7 then (cubbyref07_bare.j2 kj9 a0_0 (a0_0 == 7) a0_0 a0_1 a0_2 a0_3 a0_4 l0_5) else (cubbyref07_bare.j2 kj9 a0_0 (a0_0 == 13) a0_0 a0_1 a0_2 a0_3 a0_4 l0_5)))))) = some r := by rw [zD (show ¬ (false = true) by decide)] at H; exact H
       clear H
       have H := H1
       clear H1
       have HC16 := zA H
       clear H
       go_upto_if 26 with (fail)
       go_cut [26] (fun v26 wc => ∃ (kq : Nat) (x26_15 : Bool), v26 = .bool x26_15 ∧ Aside0 (cubbyref07_bare.j2 kq a0_0 x26_15 a0_0 a0_1 a0_2 a0_3 a0_4 l0_5 = some r) ∧ Aside0 (kq ≤ kj9) ∧ Aside0 (wc.heap[gb181]? = some (.cells #[.int .i64 a0_0, .int .i64 a0_1, .int .i64 a0_2, .int .i64 a0_3, .string a0_4, (.slice A0_5 l0_5.length c0_5)] 44 (0, 0))) ∧ Aside0 (Below w.heap.size w wc))
       case first =>
        have H := HC16.out
        clear HC16
        by_cases c17 : a0_0 = 3
        ·rw [zC c17] at H
         obtain ⟨c17b0, c17b1⟩ := qe c17; clear c17
         (first | rw [c17b0] | (simp only [i64_w, i32_w]; rw [c17b0]) | skip)
         have H' := zA H
         clear H
         go_wp2
         go_meet
         case rel => exact ⟨_, ((a0_0 == 3)), qT, H', ⟨by have := HJ1.out; have := HJ9.out; first | omega | exact Nat.le_refl _⟩, ⟨qK BK181.out⟩, ⟨qB⟩⟩
        ·rw [zD c17] at H
         obtain ⟨c17b0, c17b1⟩ := qn c17
         (first | rw [c17b0] | (simp only [i64_w, i32_w]; rw [c17b0]) | skip)
         by_cases c18 : a0_0 = 4
         ·rw [zC c18] at H
          obtain ⟨c18b0, c18b1⟩ := qe c18; clear c18
          have H' := zA H
          clear H
          go_wp2
          go_meet
          case rel => exact ⟨_, ((a0_0 == 4)), qT, H', ⟨by have := HJ1.out; have := HJ9.out; first | omega | exact Nat.le_refl _⟩, ⟨qK BK181.out⟩, ⟨qB⟩⟩
         ·rw [zD c18] at H
          obtain ⟨c18b0, c18b1⟩ := qn c18
          by_cases c19 : a0_0 = 5
          ·rw [zC c19] at H
           obtain ⟨c19b0, c19b1⟩ := qe c19; clear c19
           have H' := zA H
           clear H
           go_wp2
           go_meet
           case rel => exact ⟨_, ((a0_0 == 5)), qT, H', ⟨by have := HJ1.out; have := HJ9.out; first | omega | exact Nat.le_refl _⟩, ⟨qK BK181.out⟩, ⟨qB⟩⟩
          ·rw [zD c19] at H
           obtain ⟨c19b0, c19b1⟩ := qn c19
           by_cases c20 : a0_0 = 6
           ·rw [zC c20] at H
            obtain ⟨c20b0, c20b1⟩ := qe c20; clear c20
            have H' := zA H
            clear H
            go_wp2
            go_meet
            case rel => exact ⟨_, ((a0_0 == 6)), qT, H', ⟨by have := HJ1.out; have := HJ9.out; first | omega | exact Nat.le_refl _⟩, ⟨qK BK181.out⟩, ⟨qB⟩⟩
           ·rw [zD c20] at H
            obtain ⟨c20b0, c20b1⟩ := qn c20
            by_cases c21 : a0_0 = 7
            ·rw [zC c21] at H
             obtain ⟨c21b0, c21b1⟩ := qe c21; clear c21
             have H' := zA H
             clear H
             go_wp2
             go_meet
             case rel => exact ⟨_, ((a0_0 == 7)), qT, H', ⟨by have := HJ1.out; have := HJ9.out; first | omega | exact Nat.le_refl _⟩, ⟨qK BK181.out⟩, ⟨qB⟩⟩
            ·rw [zD c21] at H
             obtain ⟨c21b0, c21b1⟩ := qn c21
             have H' := zA H
             clear H
             go_wp2
             go_meet
             case rel => exact ⟨_, ((a0_0 == 13)), qT, H', ⟨by have := HJ1.out; have := HJ9.out; first | omega | exact Nat.le_refl _⟩, ⟨qK BK181.out⟩, ⟨qB⟩⟩
       case rest =>
        clear HC16
        obtain ⟨kq, x26_15, rfl, HA, HJ15, BK181, HB⟩ := hcut
        cases kq with
        | zero => exact absurd HA.out (by simp [cubbyref07_bare.j2])
        | succ kj15 =>
         have H := HA.out
         clear HA
         simp only [cubbyref07_bare.j2] at H
         by_cases c22 : x26_15 = true
         ·subst c22
          have H1 : (some true) = some r := by rw [zC rfl] at H; exact H
          clear H
          have H := H1
          clear H1
          obtain rfl := zI H
          go_wp2
          go_ret
          exact ⟨qE, qB⟩
         ·replace c22 := Bool.eq_false_iff.mpr c22
          subst c22
          have H1 : (if a0_0 = 9 then (some (a0_1 == 0)) else (if a0_0 = 10 then (cubbyref07_bare.j3 kj15 a0_0 (a0_0 == 10) a0_0 a0_1 a0_2 a0_3 a0_4 l0_5) else (if a0_0 = 14 then (cubbyref07_bare.j3 kj15 a0_0 (a0_0 == 14) a0_0 a0_1 a0_2 a0_3 a0_4 l0_5) else (cubbyref07_bare.j3 kj15 a0_0 (a0_0 == 12) a0_0 a0_1 a0_2 a0_3 a0_4 l0_5)))) = some r := by rw [zD (show ¬ (false = true) by decide)] at H; exact H
          clear H
          have H := H1
          clear H1
          by_cases c23 : a0_0 = 9
          ·rw [zC c23] at H
           obtain ⟨c23b0, c23b1⟩ := qe c23; clear c23
           obtain rfl := zI H
           have z24_0 := bk6 BK181.out
           go_wp2
           go_ret
           exact ⟨qE, qB⟩
          ·rw [zD c23] at H
           obtain ⟨c23b0, c23b1⟩ := qn c23
           have HC25 := zA H
           clear H
           go_upto_if 38 with (fail)
           go_cut [38] (fun v38 wc => ∃ (kq : Nat) (x38_24 : Bool), v38 = .bool x38_24 ∧ Aside0 (cubbyref07_bare.j3 kq a0_0 x38_24 a0_0 a0_1 a0_2 a0_3 a0_4 l0_5 = some r) ∧ Aside0 (kq ≤ kj15) ∧ Aside0 (wc.heap[gb181]? = some (.cells #[.int .i64 a0_0, .int .i64 a0_1, .int .i64 a0_2, .int .i64 a0_3, .string a0_4, (.slice A0_5 l0_5.length c0_5)] 44 (0, 0))) ∧ Aside0 (Below w.heap.size w wc))
           case first =>
            have H := HC25.out
            clear HC25
            by_cases c26 : a0_0 = 10
            ·rw [zC c26] at H
             obtain ⟨c26b0, c26b1⟩ := qe c26; clear c26
             (first | rw [c26b0] | (simp only [i64_w, i32_w]; rw [c26b0]) | skip)
             have H' := zA H
             clear H
             go_wp2
             go_meet
             case rel => exact ⟨_, ((a0_0 == 10)), qT, H', ⟨by have := HJ1.out; have := HJ9.out; have := HJ15.out; first | omega | exact Nat.le_refl _⟩, ⟨qK BK181.out⟩, ⟨qB⟩⟩
            ·rw [zD c26] at H
             obtain ⟨c26b0, c26b1⟩ := qn c26
             (first | rw [c26b0] | (simp only [i64_w, i32_w]; rw [c26b0]) | skip)
             by_cases c27 : a0_0 = 14
             ·rw [zC c27] at H
              obtain ⟨c27b0, c27b1⟩ := qe c27; clear c27
              have H' := zA H
              clear H
              go_wp2
              go_meet
              case rel => exact ⟨_, ((a0_0 == 14)), qT, H', ⟨by have := HJ1.out; have := HJ9.out; have := HJ15.out; first | omega | exact Nat.le_refl _⟩, ⟨qK BK181.out⟩, ⟨qB⟩⟩
             ·rw [zD c27] at H
              obtain ⟨c27b0, c27b1⟩ := qn c27
              have H' := zA H
              clear H
              go_wp2
              go_meet
              case rel => exact ⟨_, ((a0_0 == 12)), qT, H', ⟨by have := HJ1.out; have := HJ9.out; have := HJ15.out; first | omega | exact Nat.le_refl _⟩, ⟨qK BK181.out⟩, ⟨qB⟩⟩
           case rest =>
            clear HC25
            obtain ⟨kq, x38_24, rfl, HA, HJ24, BK181, HB⟩ := hcut
            cases kq with
            | zero => exact absurd HA.out (by simp [cubbyref07_bare.j3])
            | succ kj24 =>
             have H := HA.out
             clear HA
             simp only [cubbyref07_bare.j3] at H
             by_cases c28 : x38_24 = true
             ·subst c28
              have H1 : (if a0_1 = 0 then (some (a0_3 == 0)) else (some false)) = some r := by rw [zC rfl] at H; exact H
              clear H
              have H := H1
              clear H1
              by_cases c29 : a0_1 = 0
              ·rw [zC c29] at H
               obtain ⟨c29b0, c29b1⟩ := qe c29; clear c29
               obtain rfl := zI H
               have z30_0 := bk6 BK181.out
               go_wp2
               go_ret
               exact ⟨qE, qB⟩
              ·rw [zD c29] at H
               obtain ⟨c29b0, c29b1⟩ := qn c29
               obtain rfl := zI H
               have z31_0 := bk6 BK181.out
               go_wp2
               go_ret
               exact ⟨qE, qB⟩
             ·replace c28 := Bool.eq_false_iff.mpr c28
              subst c28
              have H1 : (if a0_0 = 11 then (if a0_2 = 0 then (some (a0_3 == 0)) else (some false)) else (some false)) = some r := by rw [zD (show ¬ (false = true) by decide)] at H; exact H
              clear H
              have H := H1
              clear H1
              by_cases c32 : a0_0 = 11
              ·rw [zC c32] at H
               obtain ⟨c32b0, c32b1⟩ := qe c32; clear c32
               by_cases c33 : a0_2 = 0
               ·rw [zC c33] at H
                obtain ⟨c33b0, c33b1⟩ := qe c33; clear c33
                obtain rfl := zI H
                have z34_0 := bk6 BK181.out
                go_wp2
                go_ret
                exact ⟨qE, qB⟩
               ·rw [zD c33] at H
                obtain ⟨c33b0, c33b1⟩ := qn c33
                obtain rfl := zI H
                have z35_0 := bk6 BK181.out
                go_wp2
                go_ret
                exact ⟨qE, qB⟩
              ·rw [zD c32] at H
               obtain ⟨c32b0, c32b1⟩ := qn c32
               obtain rfl := zI H
               go_wp2
               go_ret
               exact ⟨qE, qB⟩

def cubbyref07_within.l0 : Nat → List Int → Int → Int → Option (Bool)
 | 0, _, _, _ => none
 | k + 1, x0, x1, x5 => if x5 < (x0.length : Int) then (if 0 ≤ x5 then (if (rd x0 x5) < 0 then (some false) else (if (rd x0 x5) ≥ x1 then (some false) else (cubbyref07_within.l0 k x0 x1 (wrap64 (x5 + 1))))) else (none)) else (some true)
def cubbyref07_within.f (k : Nat) (l0 : List Int) (a1 : Int) : Option (Bool) := cubbyref07_within.l0 k l0 a1 0
set_option maxHeartbeats 8000000 in
set_option maxRecDepth 100000 in
theorem cubbyref07_within.calls (k : Nat) (A0 : Option Addr) (c0 : Nat) (l0 : List Int) (a1 : Int) (r : Bool) (w : World) (hr0 : Kd.C (Kd.int .i64) w A0 l0.length l0) (hc0 : l0.length ≤ c0) (h : cubbyref07_within.f k l0 a1 = some r) :
 Calls Tryz.prog 43 #[.slice A0 l0.length c0, .int .i64 a1] w fun e w' => e = .returned (.bool r) ∧ Drawn0 w w' := by
 have HR0 := zA hr0
 have HC0 := zA hc0
 clear hr0 hc0
 have H := h; clear h; unfold cubbyref07_within.f at H
 have H' := zA H
 clear H
 go_enter Tryz.func43, Tryz.ntmps43
 go_wp2
 go_loopg [5] k (fun kq v5 w' => ∃ (x5_1 : Int), v5 = .int .i64 x5_1 ∧ Aside0 (cubbyref07_within.l0 kq l0 a1 x5_1 = some r) ∧ Aside0 (kq ≤ k) ∧ Drawn0 w w')
 case atStart => exact ⟨(0), qT, H', ⟨Nat.le_refl _⟩, qD⟩
 case round =>
  clear H'
  obtain ⟨x5_1, rfl, HA, HK1, ⟨m1, rfl⟩⟩ := hrel
  cases gk with
  | zero => exact absurd HA.out (by simp [cubbyref07_within.l0])
  | succ k1 =>
   have H := HA.out
   clear HA
   simp only [cubbyref07_within.l0] at H
   by_cases c3 : x5_1 < (l0.length : Int)
   ·rw [zC c3] at H
    have c3b0 := zF c3
    clear c3
    by_cases c4 : 0 ≤ x5_1
    ·rw [zC c4] at H
     have c4b0 := zF c4
     clear c4
     by_cases c5 : (rd l0 x5_1) < 0
     ·rw [zC c5] at H
      have c5b0 := zF c5
      clear c5
      obtain rfl := zI H
      have p183 : 0 ≤ (x5_1 : Int) := zB qA
      have q183 : x5_1 < (l0.length : Int) := zB qA
      obtain ⟨ad183, e183, hx183_0⟩ := Kd.at_int HR0.out x5_1 p183 q183
      cases e183
      replace p183 := eq_true p183
      replace q183 := eq_true q183
      go_wp2
      go_ret
      exact ⟨by first | rfl | (simp; done) | (simp [*]; done), qD⟩
     ·rw [zD c5] at H
      have c5b0 := zG c5
      clear c5
      by_cases c6 : (rd l0 x5_1) ≥ a1
      ·rw [zC c6] at H
       have c6b0 : decide (a1 ≤ (rd l0 x5_1)) = true := zF c6
       clear c6
       obtain rfl := zI H
       have p183 : 0 ≤ (x5_1 : Int) := zB qA
       have q183 : x5_1 < (l0.length : Int) := zB qA
       obtain ⟨ad183, e183, hx183_0⟩ := Kd.at_int HR0.out x5_1 p183 q183
       cases e183
       replace p183 := eq_true p183
       replace q183 := eq_true q183
       have p184 : 0 ≤ (x5_1 : Int) := zB qA
       have q184 : x5_1 < (l0.length : Int) := zB qA
       obtain ⟨ad184, e184, hx184_0⟩ := Kd.at_int HR0.out x5_1 p184 q184
       obtain rfl : ad183 = ad184 := (by injection e184)
       replace p184 := eq_true p184
       replace q184 := eq_true q184
       go_wp2
       go_ret
       exact ⟨by first | rfl | (simp; done) | (simp [*]; done), qD⟩
      ·rw [zD c6] at H
       have c6b0 : decide (a1 ≤ (rd l0 x5_1)) = false := zG c6
       clear c6
       have H' := zA H
       clear H
       have p183 : 0 ≤ (x5_1 : Int) := zB qA
       have q183 : x5_1 < (l0.length : Int) := zB qA
       obtain ⟨ad183, e183, hx183_0⟩ := Kd.at_int HR0.out x5_1 p183 q183
       cases e183
       replace p183 := eq_true p183
       replace q183 := eq_true q183
       have p184 : 0 ≤ (x5_1 : Int) := zB qA
       have q184 : x5_1 < (l0.length : Int) := zB qA
       obtain ⟨ad184, e184, hx184_0⟩ := Kd.at_int HR0.out x5_1 p184 q184
       obtain rfl : ad183 = ad184 := (by injection e184)
       replace p184 := eq_true p184
       replace q184 := eq_true q184
       go_wp2
       go_roundg k1
       case measure => have := HK1.out; omega
       case rel => exact ⟨(wrap64 (x5_1 + 1)), qT, H', ⟨by have := HK1.out; omega⟩, qD⟩
    ·rw [zD c4] at H
     exact absurd H (by simp)
   ·rw [zD c3] at H
    have c3b0 := zG c3
    clear c3
    obtain rfl := zI H
    go_wp2
    go_ret
    exact ⟨by first | rfl | (simp; done) | (simp [*]; done), qD⟩

mutual
def cubbyref07_One.j0 : Nat → Int → Int → Bool → Int → Int → Int → Int → ByteArray → List Int → Option (Int)
 | 0, _, _, _, _, _, _, _, _, _ => none
 | k + 1, x1, x2, x28, x215000, x215001, x215002, x215003, x215004, x215005 => if x28 = true then (some 72) else ((cubbyref07_Def.f x215000 x215001 x215002 x215003 x215004 x215005).bind fun t217 => (if t217 = (-1) then ((cubbyref07_Uses.f k x215000 x215001 x215002 x215003 x215004 x215005).bind fun t218 => ((cubbyref07_within.f k t218 x1).bind fun t221 => (cubbyref07_One.j1 k x2 (!t221) x215000 x215001 x215002 x215003 x215004 x215005))) else ((cubbyref07_Def.f x215000 x215001 x215002 x215003 x215004 x215005).bind fun t222 => (if t222 < 0 then (cubbyref07_One.j1 k x2 true x215000 x215001 x215002 x215003 x215004 x215005) else ((cubbyref07_Def.f x215000 x215001 x215002 x215003 x215004 x215005).bind fun t223 => (if t223 ≥ x1 then (cubbyref07_One.j1 k x2 true x215000 x215001 x215002 x215003 x215004 x215005) else ((cubbyref07_Uses.f k x215000 x215001 x215002 x215003 x215004 x215005).bind fun t224 => ((cubbyref07_within.f k t224 x1).bind fun t227 => (cubbyref07_One.j1 k x2 (!t227) x215000 x215001 x215002 x215003 x215004 x215005)))))))))
def cubbyref07_One.j1 : Nat → Int → Bool → Int → Int → Int → Int → ByteArray → List Int → Option (Int)
 | 0, _, _, _, _, _, _, _, _ => none
 | k + 1, x2, x49, x215000, x215001, x215002, x215003, x215004, x215005 => if x49 = true then (some 73) else ((cubbyref07_Def.f x215000 x215001 x215002 x215003 x215004 x215005).bind fun t228 => (if t228 = (-1) then (if x215000 = 9 then (cubbyref07_One.j2 k x2 false x215000 x215001 x215002 x215003 x215004 x215005) else (if x215000 = 10 then (cubbyref07_One.j2 k x2 false x215000 x215001 x215002 x215003 x215004 x215005) else ((cubbyref07_Last.f x215000).bind fun t229 => (cubbyref07_One.j2 k x2 (!t229) x215000 x215001 x215002 x215003 x215004 x215005)))) else (cubbyref07_One.j2 k x2 false x215000 x215001 x215002 x215003 x215004 x215005)))
def cubbyref07_One.j2 : Nat → Int → Bool → Int → Int → Int → Int → ByteArray → List Int → Option (Int)
 | 0, _, _, _, _, _, _, _, _ => none
 | k + 1, x2, x68, x215000, x215001, x215002, x215003, x215004, x215005 => if x68 = true then (some 73) else (if x215000 = 1 then (if x215002 < 0 then (cubbyref07_One.j3 k x2 true x215000 x215001 x215002 x215003 x215004 x215005) else (cubbyref07_One.j3 k x2 (decide (x215002 ≥ 65536)) x215000 x215001 x215002 x215003 x215004 x215005)) else (cubbyref07_One.j3 k x2 false x215000 x215001 x215002 x215003 x215004 x215005))
def cubbyref07_One.j3 : Nat → Int → Bool → Int → Int → Int → Int → ByteArray → List Int → Option (Int)
 | 0, _, _, _, _, _, _, _, _ => none
 | k + 1, x2, x81, x215000, x215001, x215002, x215003, x215004, x215005 => if x81 = true then (some 81) else ((cubbyref07_Targets.f x215000 x215001 x215002 x215003 x215004 x215005).bind fun t230 => ((cubbyref07_within.f k t230 x2).bind fun t233 => (if t233 = true then (if x215000 = 11 then ((cubbyref07_Name.f k x215004).bind fun t234 => (cubbyref07_One.j4 k (!t234) x215000 x215001 x215002 x215003 x215004 x215005)) else (cubbyref07_One.j4 k false x215000 x215001 x215002 x215003 x215004 x215005)) else (some 74))))
def cubbyref07_One.j4 : Nat → Bool → Int → Int → Int → Int → ByteArray → List Int → Option (Int)
 | 0, _, _, _, _, _, _, _ => none
 | k + 1, x95, x215000, x215001, x215002, x215003, x215004, x215005 => if x95 = true then (some 70) else (if x215000 = 11 then (if (x215005.length : Int) > 4 then (some 192) else (some 0)) else (some 0))
end
def cubbyref07_One.f (k : Nat) (a0_0 : Int) (a0_1 : Int) (a0_2 : Int) (a0_3 : Int) (a0_4 : ByteArray) (l0_5 : List Int) (a1 : Int) (a2 : Int) (a3 : Bool) : Option (Int) := if a0_0 < 1 then (cubbyref07_One.j0 k a1 a2 true a0_0 a0_1 a0_2 a0_3 a0_4 l0_5) else (if a0_0 > 14 then (cubbyref07_One.j0 k a1 a2 true a0_0 a0_1 a0_2 a0_3 a0_4 l0_5) else ((cubbyref07_Last.f a0_0).bind fun t215 => (if (t215 != a3) = true then (cubbyref07_One.j0 k a1 a2 true a0_0 a0_1 a0_2 a0_3 a0_4 l0_5) else ((cubbyref07_bare.f k a0_0 a0_1 a0_2 a0_3 a0_4 l0_5).bind fun t216 => (cubbyref07_One.j0 k a1 a2 (!t216) a0_0 a0_1 a0_2 a0_3 a0_4 l0_5)))))
set_option maxHeartbeats 8000000 in
set_option maxRecDepth 100000 in
theorem cubbyref07_One.calls (k : Nat) (a0_0 : Int) (a0_1 : Int) (a0_2 : Int) (a0_3 : Int) (a0_4 : ByteArray) (A0_5 : Option Addr) (c0_5 : Nat) (l0_5 : List Int) (a1 : Int) (a2 : Int) (a3 : Bool) (r : Int) (w : World) (hr0_5 : Kd.C (Kd.int .i64) w A0_5 l0_5.length l0_5) (hc0_5 : l0_5.length ≤ c0_5) (h : cubbyref07_One.f k a0_0 a0_1 a0_2 a0_3 a0_4 l0_5 a1 a2 a3 = some r) :
 Calls Tryz.prog 24 #[.agg #[.int .i64 a0_0, .int .i64 a0_1, .int .i64 a0_2, .int .i64 a0_3, .string a0_4, .slice A0_5 l0_5.length c0_5], .int .i64 a1, .int .i64 a2, .bool a3] w fun e w' => e = .returned (.int .i64 r) ∧ Below w.heap.size w w' := by
 have hu44 := Tryz.underlying44
 have HR0_5 := zA hr0_5
 have HC0_5 := zA hc0_5
 clear hr0_5 hc0_5
 have HB := zA (Below.refl w.heap.size w)
 have H := h; clear h; unfold cubbyref07_One.f at H
 have HC5 := zA H
 clear H
 go_enter Tryz.func24, Tryz.ntmps24
 go_upto_region 1 with (first | ((with_reducible refine gate_dst (N := 4) rfl ?_); (try (refine gate_guard (by rfl) ?_; dsimp only)); refine box_event (by rfl) (N := 4) (by rfl) (cs := #[.int .i64 a0_0, .int .i64 a0_1, .int .i64 a0_2, .int .i64 a0_3, .string a0_4, .slice A0_5 l0_5.length c0_5]) (t := 44) ?hr ?_; (case hr => go_simp <;> rfl); intro gb214 hg w6 hbox hb; have BK214 := zA (hbox); have GW214 := qG hg; have GE214 := GW214; replace HB := qH hb; clear hb hbox hg))
 (try simp only [Act.put, List.setIfInBounds_toArray, List.set_cons_zero, List.set_cons_succ])
 go_cut [28] (fun v28 wc => ∃ (kq : Nat) (x28_4 : Bool), v28 = .bool x28_4 ∧ Aside0 (cubbyref07_One.j0 kq a1 a2 x28_4 a0_0 a0_1 a0_2 a0_3 a0_4 l0_5 = some r) ∧ Aside0 (kq ≤ k) ∧ Aside0 (wc.heap[gb214]? = some (.cells #[.int .i64 a0_0, .int .i64 a0_1, .int .i64 a0_2, .int .i64 a0_3, .string a0_4, (.slice A0_5 l0_5.length c0_5)] 44 (0, 0))) ∧ Aside0 (Below w.heap.size w wc))
 case first =>
  have H := HC5.out
  clear HC5
  by_cases c7 : a0_0 < 1
  ·rw [zC c7] at H
   have c7b0 := zF c7
   clear c7
   (first | rw [c7b0] | (simp only [i64_w, i32_w]; rw [c7b0]) | skip)
   have H' := zA H
   clear H
   have z8_0 := bk6 BK214.out
   go_wp2
   go_meet
   case rel => exact ⟨_, (true), qT, H', ⟨qO⟩, ⟨qK BK214.out⟩, ⟨qB⟩⟩
  ·rw [zD c7] at H
   have c7b0 := zG c7
   clear c7
   (first | rw [c7b0] | (simp only [i64_w, i32_w]; rw [c7b0]) | skip)
   by_cases c9 : a0_0 > 14
   ·rw [zC c9] at H
    have c9b0 : decide (14 < a0_0) = true := zF c9
    clear c9
    have H' := zA H
    clear H
    have z10_0 := bk6 BK214.out
    go_wp2
    go_meet
    case rel => exact ⟨_, (true), qT, H', ⟨qO⟩, ⟨qK BK214.out⟩, ⟨qB⟩⟩
   ·rw [zD c9] at H
    have c9b0 : decide (14 < a0_0) = false := zG c9
    clear c9
    replace H := qb H; obtain ⟨t215, A11, H⟩ := H
    by_cases c12 : (t215 != a3) = true
    ·rw [zC c12] at H
     have c12b0 : (t215 != a3) = true := c12
     (try (have c12b1 : decide (t215 = a3) = false := by simpa using c12))
     (try (have c12b2 : (t215 == a3) = false := by simpa using c12))
     (try (have c12b3 : ¬ (t215 = a3) := by simpa using c12))
     clear c12
     have H' := zA H
     clear H
     have z13_0 := bk6 BK214.out
     go_wp2_with (first | (go_at_call 40; (with_reducible refine (cubbyref07_Last.calls a0_0 t215 _ A11.out).mono ?_); (try clear A11); rintro e w' ⟨rfl, ⟨nd, rfl⟩⟩))
     go_meet
     case rel => exact ⟨_, (true), qT, H', ⟨qO⟩, ⟨qK BK214.out⟩, ⟨qB⟩⟩
    ·rw [zD c12] at H
     have c12b0 : (t215 != a3) = false := by simpa using c12
     (try (have c12b1 : decide (t215 = a3) = true := by simpa using c12))
     (try (have c12b2 : (t215 == a3) = true := by simpa using c12))
     clear c12
     replace H := qb H; obtain ⟨t216, A14, H⟩ := H
     have H' := zA H
     clear H
     have z15_0 := bk6 BK214.out
     go_wp2_with (first | (go_at_call 40; (with_reducible refine (cubbyref07_Last.calls a0_0 t215 _ A11.out).mono ?_); (try clear A11); rintro e w' ⟨rfl, ⟨nd, rfl⟩⟩) | (go_at_call 41; (with_reducible refine (cubbyref07_bare.calls k a0_0 a0_1 a0_2 a0_3 a0_4 _ _ l0_5 t216 _ ?side1 ?side2 A14.out).mono ?_); (case side1 => repeat (first | exact (Kd.C_below HR0_5.out qB) | (with_reducible refine Kd.C_alloc ?_ _) | (with_reducible refine Kd.C_drewN ?_ _) | (with_reducible refine Kd.C_drew ?_))); (case side2 => exact HC0_5.out); (try clear A14); rintro e w16 ⟨rfl, hb⟩; replace BK214 := qW BK214 hb; replace HB := qH hb; (try clear hb)))
     go_meet
     case rel => exact ⟨_, (!t216), qT, H', ⟨qO⟩, ⟨qK BK214.out⟩, ⟨qB⟩⟩
 case rest =>
  clear HC5
  obtain ⟨kq, x28_4, rfl, HA, HJ4, BK214, HB⟩ := hcut
  cases kq with
  | zero => exact absurd HA.out (by simp [cubbyref07_One.j0])
  | succ kj4 =>
   have H := HA.out
   clear HA
   simp only [cubbyref07_One.j0] at H
   by_cases c17 : x28_4 = true
   ·subst c17
    have H1 : (some 72) = some r := by rw [zC rfl] at H; exact H
    clear H
    have H := H1
    clear H1
    obtain rfl := zI H
    go_wp2
    go_ret
    exact ⟨qE, qB⟩
   ·replace c17 := Bool.eq_false_iff.mpr c17
    subst c17
    have H1 : ((cubbyref07_Def.f a0_0 a0_1 a0_2 a0_3 a0_4 l0_5).bind fun t217 => (if t217 = (-1) then ((cubbyref07_Uses.f kj4 a0_0 a0_1 a0_2 a0_3 a0_4 l0_5).bind fun t218 => ((cubbyref07_within.f kj4 t218 a1).bind fun t221 => (cubbyref07_One.j1 kj4 a2 (!t221) a0_0 a0_1 a0_2 a0_3 a0_4 l0_5))) else ((cubbyref07_Def.f a0_0 a0_1 a0_2 a0_3 a0_4 l0_5).bind fun t222 => (if t222 < 0 then (cubbyref07_One.j1 kj4 a2 true a0_0 a0_1 a0_2 a0_3 a0_4 l0_5) else ((cubbyref07_Def.f a0_0 a0_1 a0_2 a0_3 a0_4 l0_5).bind fun t223 => (if t223 ≥ a1 then (cubbyref07_One.j1 kj4 a2 true a0_0 a0_1 a0_2 a0_3 a0_4 l0_5) else ((cubbyref07_Uses.f kj4 a0_0 a0_1 a0_2 a0_3 a0_4 l0_5).bind fun t224 => ((cubbyref07_within.f kj4 t224 a1).bind fun t227 => (cubbyref07_One.j1 kj4 a2 (!t227) a0_0 a0_1 a0_2 a0_3 a0_4 l0_5))))))))) = some r := by rw [zD (show ¬ (false = true) by decide)] at H; exact H
    clear H
    have H := H1
    clear H1
    have HC18 := zA H
    clear H
    go_upto_region 3 with (fail)
    go_cut [49] (fun v49 wc => ∃ (kq : Nat) (x49_17 : Bool), v49 = .bool x49_17 ∧ Aside0 (cubbyref07_One.j1 kq a2 x49_17 a0_0 a0_1 a0_2 a0_3 a0_4 l0_5 = some r) ∧ Aside0 (kq ≤ kj4) ∧ Aside0 (wc.heap[gb214]? = some (.cells #[.int .i64 a0_0, .int .i64 a0_1, .int .i64 a0_2, .int .i64 a0_3, .string a0_4, (.slice A0_5 l0_5.length c0_5)] 44 (0, 0))) ∧ Aside0 (Below w.heap.size w wc))
    case first =>
     have H := HC18.out
     clear HC18
     replace H := qb H; obtain ⟨t217, A19, H⟩ := H
     by_cases c20 : t217 = (-1)
     ·rw [zC c20] at H
      obtain ⟨c20b0, c20b1⟩ := qe c20; clear c20
      (first | rw [c20b0] | (simp only [i64_w, i32_w]; rw [c20b0]) | skip)
      replace H := qb H; obtain ⟨t218, A21, H⟩ := H
      replace H := qb H; obtain ⟨t221, A22, H⟩ := H
      have H' := zA H
      clear H
      have z23_0 := bk6 BK214.out
      go_wp2_with (first | ((with_reducible refine gate_callee (f := 42) rfl ?_); refine goesL_ (some 30) rfl rfl Tryz.func42 (by kernel_rfl) rfl #[.agg #[.int .i64 a0_0, .int .i64 a0_1, .int .i64 a0_2, .int .i64 a0_3, .string a0_4, .slice A0_5 l0_5.length c0_5]] rfl qL ?_; (with_reducible refine (cubbyref07_Def.calls a0_0 a0_1 a0_2 a0_3 a0_4 _ _ l0_5 t217 _ ?side1 ?side2 A19.out).mono ?_); (case side1 => exact qCB HR0_5.out); (case side2 => exact HC0_5.out); rintro e w24 ⟨rfl, hb⟩; refine ⟨_, rfl, ?_⟩; replace BK214 := qW BK214 hb; replace HB := qH hb; (try clear hb); have z25_0 := bk6 BK214.out) | (go_at_call 44; (with_reducible refine (cubbyref07_Uses.calls kj4 a0_0 a0_1 a0_2 a0_3 a0_4 _ _ l0_5 t218 _ ?side1 ?side2 A21.out).mono ?_); (case side1 => exact qCB HR0_5.out); (case side2 => exact HC0_5.out); (try clear A21); rintro e w26 ⟨v219, rfl, ho0, hb⟩; have HO220 := zA (Kd.R_lower ho0 (below_size qB)); replace BK214 := qW BK214 hb; replace HB := qH hb; (try clear hb); (try clear ho0); obtain ⟨Ao27, co27, eo27⟩ := Kd.R_slice HO220.out; subst eo27) | (go_at_call 43; (with_reducible refine (cubbyref07_within.calls kj4 _ _ t218 a1 t221 _ ?side1 ?side2 A22.out).mono ?_); (case side1 => repeat (first | exact (Kd.R_reads' HO220.out).2.2 | (with_reducible refine Kd.C_alloc ?_ _) | (with_reducible refine Kd.C_drewN ?_ _) | (with_reducible refine Kd.C_drew ?_))); (case side2 => exact (Kd.R_reads' HO220.out).2.1); (try clear A22); rintro e w' ⟨rfl, ⟨nd, rfl⟩⟩))
      go_meet
      case rel => exact ⟨_, (!t221), qT, H', ⟨by have := HJ4.out; first | omega | exact Nat.le_refl _⟩, ⟨qK BK214.out⟩, ⟨qB⟩⟩
     ·rw [zD c20] at H
      obtain ⟨c20b0, c20b1⟩ := qn c20
      (first | rw [c20b0] | (simp only [i64_w, i32_w]; rw [c20b0]) | skip)
      replace H := qb H; obtain ⟨t222, A28, H⟩ := H
      by_cases c29 : t222 < 0
      ·rw [zC c29] at H
       have c29b0 := zF c29
       clear c29
       have H' := zA H
       clear H
       have z30_0 := bk6 BK214.out
       go_wp2_with (first | ((with_reducible refine gate_callee (f := 42) rfl ?_); refine goesL_ (some 30) rfl rfl Tryz.func42 (by kernel_rfl) rfl #[.agg #[.int .i64 a0_0, .int .i64 a0_1, .int .i64 a0_2, .int .i64 a0_3, .string a0_4, .slice A0_5 l0_5.length c0_5]] rfl qL ?_; (with_reducible refine (cubbyref07_Def.calls a0_0 a0_1 a0_2 a0_3 a0_4 _ _ l0_5 t217 _ ?side1 ?side2 A19.out).mono ?_); (case side1 => exact qCB HR0_5.out); (case side2 => exact HC0_5.out); rintro e w31 ⟨rfl, hb⟩; refine ⟨_, rfl, ?_⟩; replace BK214 := qW BK214 hb; replace HB := qH hb; (try clear hb); have z32_0 := bk6 BK214.out) | (go_at_call 42; (with_reducible refine (cubbyref07_Def.calls a0_0 a0_1 a0_2 a0_3 a0_4 _ _ l0_5 t222 _ ?side1 ?side2 A28.out).mono ?_); (case side1 => exact qCB HR0_5.out); (case side2 => exact HC0_5.out); (try clear A28); rintro e w33 ⟨rfl, hb⟩; replace BK214 := qW BK214 hb; replace HB := qH hb; (try clear hb)))
       go_meet
       case rel => exact ⟨_, (true), qT, H', ⟨by have := HJ4.out; first | omega | exact Nat.le_refl _⟩, ⟨qK BK214.out⟩, ⟨qB⟩⟩
      ·rw [zD c29] at H
       have c29b0 := zG c29
       clear c29
       replace H := qb H; obtain ⟨t223, A34, H⟩ := H
       by_cases c35 : t223 ≥ a1
       ·rw [zC c35] at H
        have c35b0 : decide (a1 ≤ t223) = true := zF c35
        clear c35
        have H' := zA H
        clear H
        have z36_0 := bk6 BK214.out
        go_wp2_with (first | ((with_reducible refine gate_callee (f := 42) rfl ?_); refine goesL_ (some 30) rfl rfl Tryz.func42 (by kernel_rfl) rfl #[.agg #[.int .i64 a0_0, .int .i64 a0_1, .int .i64 a0_2, .int .i64 a0_3, .string a0_4, .slice A0_5 l0_5.length c0_5]] rfl qL ?_; (with_reducible refine (cubbyref07_Def.calls a0_0 a0_1 a0_2 a0_3 a0_4 _ _ l0_5 t217 _ ?side1 ?side2 A19.out).mono ?_); (case side1 => exact qCB HR0_5.out); (case side2 => exact HC0_5.out); rintro e w37 ⟨rfl, hb⟩; refine ⟨_, rfl, ?_⟩; replace BK214 := qW BK214 hb; replace HB := qH hb; (try clear hb); have z38_0 := bk6 BK214.out) | (go_at_call 42; (with_reducible refine (cubbyref07_Def.calls a0_0 a0_1 a0_2 a0_3 a0_4 _ _ l0_5 t222 _ ?side1 ?side2 A28.out).mono ?_); (case side1 => exact qCB HR0_5.out); (case side2 => exact HC0_5.out); (try clear A28); rintro e w39 ⟨rfl, hb⟩; replace BK214 := qW BK214 hb; replace HB := qH hb; (try clear hb); have z40_0 := bk6 BK214.out) | (go_at_call 42; (with_reducible refine (cubbyref07_Def.calls a0_0 a0_1 a0_2 a0_3 a0_4 _ _ l0_5 t223 _ ?side1 ?side2 A34.out).mono ?_); (case side1 => exact qCB HR0_5.out); (case side2 => exact HC0_5.out); (try clear A34); rintro e w41 ⟨rfl, hb⟩; replace BK214 := qW BK214 hb; replace HB := qH hb; (try clear hb)))
        go_meet
        case rel => exact ⟨_, (true), qT, H', ⟨by have := HJ4.out; first | omega | exact Nat.le_refl _⟩, ⟨qK BK214.out⟩, ⟨qB⟩⟩
       ·rw [zD c35] at H
        have c35b0 : decide (a1 ≤ t223) = false := zG c35
        clear c35
        replace H := qb H; obtain ⟨t224, A42, H⟩ := H
        replace H := qb H; obtain ⟨t227, A43, H⟩ := H
        have H' := zA H
        clear H
        have z44_0 := bk6 BK214.out
        go_wp2_with (first | ((with_reducible refine gate_callee (f := 42) rfl ?_); refine goesL_ (some 30) rfl rfl Tryz.func42 (by kernel_rfl) rfl #[.agg #[.int .i64 a0_0, .int .i64 a0_1, .int .i64 a0_2, .int .i64 a0_3, .string a0_4, .slice A0_5 l0_5.length c0_5]] rfl qL ?_; (with_reducible refine (cubbyref07_Def.calls a0_0 a0_1 a0_2 a0_3 a0_4 _ _ l0_5 t217 _ ?side1 ?side2 A19.out).mono ?_); (case side1 => exact qCB HR0_5.out); (case side2 => exact HC0_5.out); rintro e w45 ⟨rfl, hb⟩; refine ⟨_, rfl, ?_⟩; replace BK214 := qW BK214 hb; replace HB := qH hb; (try clear hb); have z46_0 := bk6 BK214.out) | (go_at_call 42; (with_reducible refine (cubbyref07_Def.calls a0_0 a0_1 a0_2 a0_3 a0_4 _ _ l0_5 t222 _ ?side1 ?side2 A28.out).mono ?_); (case side1 => exact qCB HR0_5.out); (case side2 => exact HC0_5.out); (try clear A28); rintro e w47 ⟨rfl, hb⟩; replace BK214 := qW BK214 hb; replace HB := qH hb; (try clear hb); have z48_0 := bk6 BK214.out) | (go_at_call 42; (with_reducible refine (cubbyref07_Def.calls a0_0 a0_1 a0_2 a0_3 a0_4 _ _ l0_5 t223 _ ?side1 ?side2 A34.out).mono ?_); (case side1 => exact qCB HR0_5.out); (case side2 => exact HC0_5.out); (try clear A34); rintro e w49 ⟨rfl, hb⟩; replace BK214 := qW BK214 hb; replace HB := qH hb; (try clear hb); have z50_0 := bk6 BK214.out) | (go_at_call 44; (with_reducible refine (cubbyref07_Uses.calls kj4 a0_0 a0_1 a0_2 a0_3 a0_4 _ _ l0_5 t224 _ ?side1 ?side2 A42.out).mono ?_); (case side1 => exact qCB HR0_5.out); (case side2 => exact HC0_5.out); (try clear A42); rintro e w51 ⟨v225, rfl, ho0, hb⟩; have HO226 := zA (Kd.R_lower ho0 (below_size qB)); replace BK214 := qW BK214 hb; replace HB := qH hb; (try clear hb); (try clear ho0); obtain ⟨Ao52, co52, eo52⟩ := Kd.R_slice HO226.out; subst eo52) | (go_at_call 43; (with_reducible refine (cubbyref07_within.calls kj4 _ _ t224 a1 t227 _ ?side1 ?side2 A43.out).mono ?_); (case side1 => repeat (first | exact (Kd.R_reads' HO226.out).2.2 | (with_reducible refine Kd.C_alloc ?_ _) | (with_reducible refine Kd.C_drewN ?_ _) | (with_reducible refine Kd.C_drew ?_))); (case side2 => exact (Kd.R_reads' HO226.out).2.1); (try clear A43); rintro e w' ⟨rfl, ⟨nd, rfl⟩⟩))
        go_meet
        case rel => exact ⟨_, (!t227), qT, H', ⟨by have := HJ4.out; first | omega | exact Nat.le_refl _⟩, ⟨qK BK214.out⟩, ⟨qB⟩⟩
    case rest =>
     clear HC18
     obtain ⟨kq, x49_17, rfl, HA, HJ17, BK214, HB⟩ := hcut
     cases kq with
     | zero => exact absurd HA.out (by simp [cubbyref07_One.j1])
     | succ kj17 =>
      have H := HA.out
      clear HA
      simp only [cubbyref07_One.j1] at H
      by_cases c53 : x49_17 = true
      ·subst c53
       have H1 : (some 73) = some r := by rw [zC rfl] at H; exact H
       clear H
       have H := H1
       clear H1
       obtain rfl := zI H
       go_wp2
       go_ret
       exact ⟨qE, qB⟩
      ·replace c53 := Bool.eq_false_iff.mpr c53
       subst c53
       have H1 : ((cubbyref07_Def.f a0_0 a0_1 a0_2 a0_3 a0_4 l0_5).bind fun t228 => (if t228 = (-1) then (if a0_0 = 9 then (cubbyref07_One.j2 kj17 a2 false a0_0 a0_1 a0_2 a0_3 a0_4 l0_5) else (if a0_0 = 10 then (cubbyref07_One.j2 kj17 a2 false a0_0 a0_1 a0_2 a0_3 a0_4 l0_5) else ((cubbyref07_Last.f a0_0).bind fun t229 => (cubbyref07_One.j2 kj17 a2 (!t229) a0_0 a0_1 a0_2 a0_3 a0_4 l0_5)))) else (cubbyref07_One.j2 kj17 a2 false a0_0 a0_1 a0_2 a0_3 a0_4 l0_5))) = some r := by rw [zD (show ¬ (false = true) by decide)] at H; exact H
       clear H
       have H := H1
       clear H1
       have HC54 := zA H
       clear H
       go_upto_region 5 with (fail)
       go_cut [68] (fun v68 wc => ∃ (kq : Nat) (x68_53 : Bool), v68 = .bool x68_53 ∧ Aside0 (cubbyref07_One.j2 kq a2 x68_53 a0_0 a0_1 a0_2 a0_3 a0_4 l0_5 = some r) ∧ Aside0 (kq ≤ kj17) ∧ Aside0 (wc.heap[gb214]? = some (.cells #[.int .i64 a0_0, .int .i64 a0_1, .int .i64 a0_2, .int .i64 a0_3, .string a0_4, (.slice A0_5 l0_5.length c0_5)] 44 (0, 0))) ∧ Aside0 (Below w.heap.size w wc))
       case first =>
        have H := HC54.out
        clear HC54
        replace H := qb H; obtain ⟨t228, A55, H⟩ := H
        by_cases c56 : t228 = (-1)
        ·rw [zC c56] at H
         obtain ⟨c56b0, c56b1⟩ := qe c56; clear c56
         (first | rw [c56b0] | (simp only [i64_w, i32_w]; rw [c56b0]) | skip)
         by_cases c57 : a0_0 = 9
         ·rw [zC c57] at H
          obtain ⟨c57b0, c57b1⟩ := qe c57; clear c57
          have H' := zA H
          clear H
          have z58_0 := bk6 BK214.out
          go_wp2_with (first | ((with_reducible refine gate_callee (f := 42) rfl ?_); refine goesL_ (some 51) rfl rfl Tryz.func42 (by kernel_rfl) rfl #[.agg #[.int .i64 a0_0, .int .i64 a0_1, .int .i64 a0_2, .int .i64 a0_3, .string a0_4, .slice A0_5 l0_5.length c0_5]] rfl qL ?_; (with_reducible refine (cubbyref07_Def.calls a0_0 a0_1 a0_2 a0_3 a0_4 _ _ l0_5 t228 _ ?side1 ?side2 A55.out).mono ?_); (case side1 => exact qCB HR0_5.out); (case side2 => exact HC0_5.out); rintro e w59 ⟨rfl, hb⟩; refine ⟨_, rfl, ?_⟩; replace BK214 := qW BK214 hb; replace HB := qH hb; (try clear hb); have z60_0 := bk6 BK214.out))
          go_meet
          case rel => exact ⟨_, (false), qT, H', ⟨by have := HJ4.out; have := HJ17.out; first | omega | exact Nat.le_refl _⟩, ⟨qK BK214.out⟩, ⟨qB⟩⟩
         ·rw [zD c57] at H
          obtain ⟨c57b0, c57b1⟩ := qn c57
          by_cases c61 : a0_0 = 10
          ·rw [zC c61] at H
           obtain ⟨c61b0, c61b1⟩ := qe c61; clear c61
           have H' := zA H
           clear H
           have z62_0 := bk6 BK214.out
           go_wp2_with (first | ((with_reducible refine gate_callee (f := 42) rfl ?_); refine goesL_ (some 51) rfl rfl Tryz.func42 (by kernel_rfl) rfl #[.agg #[.int .i64 a0_0, .int .i64 a0_1, .int .i64 a0_2, .int .i64 a0_3, .string a0_4, .slice A0_5 l0_5.length c0_5]] rfl qL ?_; (with_reducible refine (cubbyref07_Def.calls a0_0 a0_1 a0_2 a0_3 a0_4 _ _ l0_5 t228 _ ?side1 ?side2 A55.out).mono ?_); (case side1 => exact qCB HR0_5.out); (case side2 => exact HC0_5.out); rintro e w63 ⟨rfl, hb⟩; refine ⟨_, rfl, ?_⟩; replace BK214 := qW BK214 hb; replace HB := qH hb; (try clear hb); have z64_0 := bk6 BK214.out))
           go_meet
           case rel => exact ⟨_, (false), qT, H', ⟨by have := HJ4.out; have := HJ17.out; first | omega | exact Nat.le_refl _⟩, ⟨qK BK214.out⟩, ⟨qB⟩⟩
          ·rw [zD c61] at H
           obtain ⟨c61b0, c61b1⟩ := qn c61
           replace H := qb H; obtain ⟨t229, A65, H⟩ := H
           have H' := zA H
           clear H
           have z66_0 := bk6 BK214.out
           go_wp2_with (first | ((with_reducible refine gate_callee (f := 42) rfl ?_); refine goesL_ (some 51) rfl rfl Tryz.func42 (by kernel_rfl) rfl #[.agg #[.int .i64 a0_0, .int .i64 a0_1, .int .i64 a0_2, .int .i64 a0_3, .string a0_4, .slice A0_5 l0_5.length c0_5]] rfl qL ?_; (with_reducible refine (cubbyref07_Def.calls a0_0 a0_1 a0_2 a0_3 a0_4 _ _ l0_5 t228 _ ?side1 ?side2 A55.out).mono ?_); (case side1 => exact qCB HR0_5.out); (case side2 => exact HC0_5.out); rintro e w67 ⟨rfl, hb⟩; refine ⟨_, rfl, ?_⟩; replace BK214 := qW BK214 hb; replace HB := qH hb; (try clear hb); have z68_0 := bk6 BK214.out) | (go_at_call 40; (with_reducible refine (cubbyref07_Last.calls a0_0 t229 _ A65.out).mono ?_); (try clear A65); rintro e w' ⟨rfl, ⟨nd, rfl⟩⟩))
           go_meet
           case rel => exact ⟨_, (!t229), qT, H', ⟨by have := HJ4.out; have := HJ17.out; first | omega | exact Nat.le_refl _⟩, ⟨qK BK214.out⟩, ⟨qB⟩⟩
        ·rw [zD c56] at H
         obtain ⟨c56b0, c56b1⟩ := qn c56
         (first | rw [c56b0] | (simp only [i64_w, i32_w]; rw [c56b0]) | skip)
         have H' := zA H
         clear H
         have z69_0 := bk6 BK214.out
         go_wp2_with (first | ((with_reducible refine gate_callee (f := 42) rfl ?_); refine goesL_ (some 51) rfl rfl Tryz.func42 (by kernel_rfl) rfl #[.agg #[.int .i64 a0_0, .int .i64 a0_1, .int .i64 a0_2, .int .i64 a0_3, .string a0_4, .slice A0_5 l0_5.length c0_5]] rfl qL ?_; (with_reducible refine (cubbyref07_Def.calls a0_0 a0_1 a0_2 a0_3 a0_4 _ _ l0_5 t228 _ ?side1 ?side2 A55.out).mono ?_); (case side1 => exact qCB HR0_5.out); (case side2 => exact HC0_5.out); rintro e w70 ⟨rfl, hb⟩; refine ⟨_, rfl, ?_⟩; replace BK214 := qW BK214 hb; replace HB := qH hb; (try clear hb)))
         go_meet
         case rel => exact ⟨_, (false), qT, H', ⟨by have := HJ4.out; have := HJ17.out; first | omega | exact Nat.le_refl _⟩, ⟨qK BK214.out⟩, ⟨qB⟩⟩
       case rest =>
        clear HC54
        obtain ⟨kq, x68_53, rfl, HA, HJ53, BK214, HB⟩ := hcut
        cases kq with
        | zero => exact absurd HA.out (by simp [cubbyref07_One.j2])
        | succ kj53 =>
         have H := HA.out
         clear HA
         simp only [cubbyref07_One.j2] at H
         by_cases c71 : x68_53 = true
         ·subst c71
          have H1 : (some 73) = some r := by rw [zC rfl] at H; exact H
          clear H
          have H := H1
          clear H1
          obtain rfl := zI H
          go_wp2
          go_ret
          exact ⟨qE, qB⟩
         ·replace c71 := Bool.eq_false_iff.mpr c71
          subst c71
          have H1 : (if a0_0 = 1 then (if a0_2 < 0 then (cubbyref07_One.j3 kj53 a2 true a0_0 a0_1 a0_2 a0_3 a0_4 l0_5) else (cubbyref07_One.j3 kj53 a2 (decide (a0_2 ≥ 65536)) a0_0 a0_1 a0_2 a0_3 a0_4 l0_5)) else (cubbyref07_One.j3 kj53 a2 false a0_0 a0_1 a0_2 a0_3 a0_4 l0_5)) = some r := by rw [zD (show ¬ (false = true) by decide)] at H; exact H
          clear H
          have H := H1
          clear H1
          have HC72 := zA H
          clear H
          go_upto_region 7 with (fail)
          go_cut [81] (fun v81 wc => ∃ (kq : Nat) (x81_71 : Bool), v81 = .bool x81_71 ∧ Aside0 (cubbyref07_One.j3 kq a2 x81_71 a0_0 a0_1 a0_2 a0_3 a0_4 l0_5 = some r) ∧ Aside0 (kq ≤ kj53) ∧ Aside0 (wc.heap[gb214]? = some (.cells #[.int .i64 a0_0, .int .i64 a0_1, .int .i64 a0_2, .int .i64 a0_3, .string a0_4, (.slice A0_5 l0_5.length c0_5)] 44 (0, 0))) ∧ Aside0 (Below w.heap.size w wc))
          case first =>
           have H := HC72.out
           clear HC72
           by_cases c73 : a0_0 = 1
           ·rw [zC c73] at H
            obtain ⟨c73b0, c73b1⟩ := qe c73; clear c73
            (first | rw [c73b0] | (simp only [i64_w, i32_w]; rw [c73b0]) | skip)
            by_cases c74 : a0_2 < 0
            ·rw [zC c74] at H
             have c74b0 := zF c74
             clear c74
             have H' := zA H
             clear H
             have z75_0 := bk6 BK214.out
             go_wp2
             go_meet
             case rel => exact ⟨_, (true), qT, H', ⟨by have := HJ4.out; have := HJ17.out; have := HJ53.out; first | omega | exact Nat.le_refl _⟩, ⟨qK BK214.out⟩, ⟨qB⟩⟩
            ·rw [zD c74] at H
             have c74b0 := zG c74
             clear c74
             have H' := zA H
             clear H
             have z76_0 := bk6 BK214.out
             go_wp2
             go_meet
             case rel => exact ⟨_, (decide (a0_2 ≥ 65536)), qT, H', ⟨by have := HJ4.out; have := HJ17.out; have := HJ53.out; first | omega | exact Nat.le_refl _⟩, ⟨qK BK214.out⟩, ⟨qB⟩⟩
           ·rw [zD c73] at H
            obtain ⟨c73b0, c73b1⟩ := qn c73
            (first | rw [c73b0] | (simp only [i64_w, i32_w]; rw [c73b0]) | skip)
            have H' := zA H
            clear H
            have z77_0 := bk6 BK214.out
            go_wp2
            go_meet
            case rel => exact ⟨_, (false), qT, H', ⟨by have := HJ4.out; have := HJ17.out; have := HJ53.out; first | omega | exact Nat.le_refl _⟩, ⟨qK BK214.out⟩, ⟨qB⟩⟩
          case rest =>
           clear HC72
           obtain ⟨kq, x81_71, rfl, HA, HJ71, BK214, HB⟩ := hcut
           cases kq with
           | zero => exact absurd HA.out (by simp [cubbyref07_One.j3])
           | succ kj71 =>
            have H := HA.out
            clear HA
            simp only [cubbyref07_One.j3] at H
            by_cases c78 : x81_71 = true
            ·subst c78
             have H1 : (some 81) = some r := by rw [zC rfl] at H; exact H
             clear H
             have H := H1
             clear H1
             obtain rfl := zI H
             go_wp2
             go_ret
             exact ⟨qE, qB⟩
            ·replace c78 := Bool.eq_false_iff.mpr c78
             subst c78
             have H1 : ((cubbyref07_Targets.f a0_0 a0_1 a0_2 a0_3 a0_4 l0_5).bind fun t230 => ((cubbyref07_within.f kj71 t230 a2).bind fun t233 => (if t233 = true then (if a0_0 = 11 then ((cubbyref07_Name.f kj71 a0_4).bind fun t234 => (cubbyref07_One.j4 kj71 (!t234) a0_0 a0_1 a0_2 a0_3 a0_4 l0_5)) else (cubbyref07_One.j4 kj71 false a0_0 a0_1 a0_2 a0_3 a0_4 l0_5)) else (some 74)))) = some r := by rw [zD (show ¬ (false = true) by decide)] at H; exact H
             clear H
             have H := H1
             clear H1
             replace H := qb H; obtain ⟨t230, A79, H⟩ := H
             replace H := qb H; obtain ⟨t233, A80, H⟩ := H
             by_cases c81 : t233 = true
             ·subst c81
              have H1 : (if a0_0 = 11 then ((cubbyref07_Name.f kj71 a0_4).bind fun t234 => (cubbyref07_One.j4 kj71 (!t234) a0_0 a0_1 a0_2 a0_3 a0_4 l0_5)) else (cubbyref07_One.j4 kj71 false a0_0 a0_1 a0_2 a0_3 a0_4 l0_5)) = some r := by rw [zC rfl] at H; exact H
              clear H
              have H := H1
              clear H1
              have HC82 := zA H
              clear H
              have z83_0 := bk6 BK214.out
              go_upto_region 11 with (first | ((with_reducible refine gate_callee (f := 45) rfl ?_); refine goesL_ (some 83) rfl rfl Tryz.func45 (by kernel_rfl) rfl #[.agg #[.int .i64 a0_0, .int .i64 a0_1, .int .i64 a0_2, .int .i64 a0_3, .string a0_4, .slice A0_5 l0_5.length c0_5]] rfl qL ?_; (with_reducible refine (cubbyref07_Targets.calls a0_0 a0_1 a0_2 a0_3 a0_4 _ _ l0_5 t230 _ ?side1 ?side2 A79.out).mono ?_); (case side1 => exact qCB HR0_5.out); (case side2 => exact HC0_5.out); rintro e w84 ⟨v231, rfl, ho0, hb⟩; refine ⟨_, rfl, ?_⟩; have HO232 := zA (Kd.R_lower ho0 (below_size qB)); replace BK214 := qW BK214 hb; replace HB := qH hb; (try clear hb); (try clear ho0); obtain ⟨Ao85, co85, eo85⟩ := Kd.R_slice HO232.out; subst eo85) | ((with_reducible refine gate_callee (f := 43) rfl ?_); refine goesL_ (some 85) rfl rfl Tryz.func43 (by kernel_rfl) rfl #[.slice Ao85 t230.length co85, .int .i64 a2] rfl qL ?_; (with_reducible refine (cubbyref07_within.calls kj71 _ _ t230 a2 true _ ?side1 ?side2 A80.out).mono ?_); (case side1 => repeat (first | exact (Kd.R_reads' HO232.out).2.2 | (with_reducible refine Kd.C_alloc ?_ _) | (with_reducible refine Kd.C_drewN ?_ _) | (with_reducible refine Kd.C_drew ?_))); (case side2 => exact (Kd.R_reads' HO232.out).2.1); rintro e w' ⟨rfl, ⟨nd, rfl⟩⟩; refine ⟨_, rfl, ?_⟩))
              (try simp only [Act.put, List.setIfInBounds_toArray, List.set_cons_zero, List.set_cons_succ])
              go_cut [95] (fun v95 wc => ∃ (kq : Nat) (x95_81 : Bool), v95 = .bool x95_81 ∧ Aside0 (cubbyref07_One.j4 kq x95_81 a0_0 a0_1 a0_2 a0_3 a0_4 l0_5 = some r) ∧ Aside0 (kq ≤ kj71) ∧ Aside0 (wc.heap[gb214]? = some (.cells #[.int .i64 a0_0, .int .i64 a0_1, .int .i64 a0_2, .int .i64 a0_3, .string a0_4, (.slice A0_5 l0_5.length c0_5)] 44 (0, 0))) ∧ Aside0 (Below w.heap.size w wc))
              case first =>
               have H := HC82.out
               clear HC82
               by_cases c86 : a0_0 = 11
               ·rw [zC c86] at H
                obtain ⟨c86b0, c86b1⟩ := qe c86; clear c86
                (first | rw [c86b0] | (simp only [i64_w, i32_w]; rw [c86b0]) | skip)
                replace H := qb H; obtain ⟨t234, A87, H⟩ := H
                have H' := zA H
                clear H
                have z88_0 := bk6 BK214.out
                go_wp2_with (first | (go_at_call 22; (with_reducible refine (cubbyref07_Name.calls kj71 a0_4 t234 _ A87.out).mono ?_); (try clear A87); rintro e w' ⟨rfl, ⟨nd, rfl⟩⟩))
                go_meet
                case rel => exact ⟨_, (!t234), qT, H', ⟨by have := HJ4.out; have := HJ17.out; have := HJ53.out; have := HJ71.out; first | omega | exact Nat.le_refl _⟩, ⟨qK BK214.out⟩, ⟨qB⟩⟩
               ·rw [zD c86] at H
                obtain ⟨c86b0, c86b1⟩ := qn c86
                (first | rw [c86b0] | (simp only [i64_w, i32_w]; rw [c86b0]) | skip)
                have H' := zA H
                clear H
                have z89_0 := bk6 BK214.out
                go_wp2
                go_meet
                case rel => exact ⟨_, (false), qT, H', ⟨by have := HJ4.out; have := HJ17.out; have := HJ53.out; have := HJ71.out; first | omega | exact Nat.le_refl _⟩, ⟨qK BK214.out⟩, ⟨qB⟩⟩
              case rest =>
               clear HC82
               obtain ⟨kq, x95_81, rfl, HA, HJ81, BK214, HB⟩ := hcut
               cases kq with
               | zero => exact absurd HA.out (by simp [cubbyref07_One.j4])
               | succ kj81 =>
                have H := HA.out
                clear HA
                simp only [cubbyref07_One.j4] at H
                by_cases c90 : x95_81 = true
                ·subst c90
                 have H1 : (some 70) = some r := by rw [zC rfl] at H; exact H
                 clear H
                 have H := H1
                 clear H1
                 obtain rfl := zI H
                 go_wp2
                 go_ret
                 exact ⟨qE, qB⟩
                ·replace c90 := Bool.eq_false_iff.mpr c90
                 subst c90
                 have H1 : (if a0_0 = 11 then (if (l0_5.length : Int) > 4 then (some 192) else (some 0)) else (some 0)) = some r := by rw [zD (show ¬ (false = true) by decide)] at H; exact H
                 clear H
                 have H := H1
                 clear H1
                 by_cases c91 : a0_0 = 11
                 ·rw [zC c91] at H
                  obtain ⟨c91b0, c91b1⟩ := qe c91; clear c91
                  by_cases c92 : (l0_5.length : Int) > 4
                  ·rw [zC c92] at H
                   have c92b0 : decide (4 < (l0_5.length : Int)) = true := zF c92
                   have c92b1 : decide (4 < l0_5.length) = true := zF (by omega)
                   clear c92
                   obtain rfl := zI H
                   have z93_0 := bk6 BK214.out
                   go_wp2
                   go_ret
                   exact ⟨qE, qB⟩
                  ·rw [zD c92] at H
                   have c92b0 : decide (4 < (l0_5.length : Int)) = false := zG c92
                   have c92b1 : decide (4 < l0_5.length) = false := zG (by omega)
                   clear c92
                   obtain rfl := zI H
                   have z94_0 := bk6 BK214.out
                   go_wp2
                   go_ret
                   exact ⟨qE, qB⟩
                 ·rw [zD c91] at H
                  obtain ⟨c91b0, c91b1⟩ := qn c91
                  obtain rfl := zI H
                  have z95_0 := bk6 BK214.out
                  go_wp2
                  go_ret
                  exact ⟨qE, qB⟩
             ·replace c81 := Bool.eq_false_iff.mpr c81
              subst c81
              have H1 : (some 74) = some r := by rw [zD (show ¬ (false = true) by decide)] at H; exact H
              clear H
              have H := H1
              clear H1
              obtain rfl := zI H
              have z96_0 := bk6 BK214.out
              go_wp2_with (first | ((with_reducible refine gate_callee (f := 45) rfl ?_); refine goesL_ (some 83) rfl rfl Tryz.func45 (by kernel_rfl) rfl #[.agg #[.int .i64 a0_0, .int .i64 a0_1, .int .i64 a0_2, .int .i64 a0_3, .string a0_4, .slice A0_5 l0_5.length c0_5]] rfl qL ?_; (with_reducible refine (cubbyref07_Targets.calls a0_0 a0_1 a0_2 a0_3 a0_4 _ _ l0_5 t230 _ ?side1 ?side2 A79.out).mono ?_); (case side1 => exact qCB HR0_5.out); (case side2 => exact HC0_5.out); rintro e w97 ⟨v231, rfl, ho0, hb⟩; refine ⟨_, rfl, ?_⟩; have HO232 := zA (Kd.R_lower ho0 (below_size qB)); replace BK214 := qW BK214 hb; replace HB := qH hb; (try clear hb); (try clear ho0); obtain ⟨Ao98, co98, eo98⟩ := Kd.R_slice HO232.out; subst eo98) | ((with_reducible refine gate_callee (f := 43) rfl ?_); refine goesL_ (some 85) rfl rfl Tryz.func43 (by kernel_rfl) rfl #[.slice Ao98 t230.length co98, .int .i64 a2] rfl qL ?_; (with_reducible refine (cubbyref07_within.calls kj71 _ _ t230 a2 false _ ?side1 ?side2 A80.out).mono ?_); (case side1 => repeat (first | exact (Kd.R_reads' HO232.out).2.2 | (with_reducible refine Kd.C_alloc ?_ _) | (with_reducible refine Kd.C_drewN ?_ _) | (with_reducible refine Kd.C_drew ?_))); (case side2 => exact (Kd.R_reads' HO232.out).2.1); rintro e w' ⟨rfl, ⟨nd, rfl⟩⟩; refine ⟨_, rfl, ?_⟩))
              go_ret
              exact ⟨qE, qB⟩

mutual
def cubbyref07_Shape.j0 : Nat → List (List (SIns)) → Bool → Option (Bool)
 | 0, _, _ => none
 | k + 1, x2, x33 => if x33 = true then (some false) else (cubbyref07_Shape.l0 k x2 0 0)
def cubbyref07_Shape.l0 : Nat → List (List (SIns)) → Int → Int → Option (Bool)
 | 0, _, _, _ => none
 | k + 1, x2, x7, x8 => if x8 < (x2.length : Int) then (if 0 ≤ x8 then (if ((rd_LIns x2 x8).length : Int) = 0 then (some false) else (if ((rd_LIns x2 x8).length : Int) > 200 then (some false) else (cubbyref07_Shape.l0 k x2 (wrap64 (x7 + ((rd_LIns x2 x8).length : Int))) (wrap64 (x8 + 1))))) else (none)) else (some (decide (x7 ≤ 200)))
end
def cubbyref07_Shape.f (k : Nat) (a0 : Int) (a1 : Int) (l2 : List (List (SIns))) : Option (Bool) := if a0 < 0 then (cubbyref07_Shape.j0 k l2 true) else (if a0 > 4 then (cubbyref07_Shape.j0 k l2 true) else (if a1 < a0 then (cubbyref07_Shape.j0 k l2 true) else (if a1 > 64 then (cubbyref07_Shape.j0 k l2 true) else (if (l2.length : Int) < 1 then (cubbyref07_Shape.j0 k l2 true) else (cubbyref07_Shape.j0 k l2 (decide ((l2.length : Int) > 32)))))))
set_option maxHeartbeats 8000000 in
set_option maxRecDepth 100000 in
theorem cubbyref07_Shape.calls (k : Nat) (a0 : Int) (a1 : Int) (A2 : Option Addr) (c2 : Nat) (l2 : List (List (SIns))) (r : Bool) (w : World) (hr2 : Kd.C (Kd.slice 44 kIns) w A2 l2.length l2) (hc2 : l2.length ≤ c2) (h : cubbyref07_Shape.f k a0 a1 l2 = some r) :
 Calls Tryz.prog 23 #[.int .i64 a0, .int .i64 a1, .slice A2 l2.length c2] w fun e w' => e = .returned (.bool r) ∧ Drawn0 w w' := by
 have HR2 := zA hr2
 have HC2 := zA hc2
 clear hr2 hc2
 have H := h; clear h; unfold cubbyref07_Shape.f at H
 have HC4 := zA H
 clear H
 go_enter Tryz.func23, Tryz.ntmps23
 go_upto_region 1 with (fail)
 go_cut [33] (fun v33 wc => ∃ (kq : Nat) (x33_3 : Bool), v33 = .bool x33_3 ∧ Aside0 (cubbyref07_Shape.j0 kq l2 x33_3 = some r) ∧ Aside0 (kq ≤ k) ∧ Drawn0 w wc)
 case first =>
  have H := HC4.out
  clear HC4
  by_cases c5 : a0 < 0
  ·rw [zC c5] at H
   have c5b0 := zF c5
   clear c5
   (first | rw [c5b0] | (simp only [i64_w, i32_w]; rw [c5b0]) | skip)
   have H' := zA H
   clear H
   go_wp2
   go_meet
   case rel => exact ⟨_, (true), qT, H', ⟨qO⟩, qD⟩
  ·rw [zD c5] at H
   have c5b0 := zG c5
   clear c5
   (first | rw [c5b0] | (simp only [i64_w, i32_w]; rw [c5b0]) | skip)
   by_cases c6 : a0 > 4
   ·rw [zC c6] at H
    have c6b0 : decide (4 < a0) = true := zF c6
    clear c6
    have H' := zA H
    clear H
    go_wp2
    go_meet
    case rel => exact ⟨_, (true), qT, H', ⟨qO⟩, qD⟩
   ·rw [zD c6] at H
    have c6b0 : decide (4 < a0) = false := zG c6
    clear c6
    by_cases c7 : a1 < a0
    ·rw [zC c7] at H
     have c7b0 := zF c7
     clear c7
     have H' := zA H
     clear H
     go_wp2
     go_meet
     case rel => exact ⟨_, (true), qT, H', ⟨qO⟩, qD⟩
    ·rw [zD c7] at H
     have c7b0 := zG c7
     clear c7
     by_cases c8 : a1 > 64
     ·rw [zC c8] at H
      have c8b0 : decide (64 < a1) = true := zF c8
      clear c8
      have H' := zA H
      clear H
      go_wp2
      go_meet
      case rel => exact ⟨_, (true), qT, H', ⟨qO⟩, qD⟩
     ·rw [zD c8] at H
      have c8b0 : decide (64 < a1) = false := zG c8
      clear c8
      by_cases c9 : (l2.length : Int) < 1
      ·rw [zC c9] at H
       have c9b0 := zF c9
       have c9b1 : decide (l2.length < 1) = true := zF (by omega)
       clear c9
       have H' := zA H
       clear H
       go_wp2
       go_meet
       case rel => exact ⟨_, (true), qT, H', ⟨qO⟩, qD⟩
      ·rw [zD c9] at H
       have c9b0 := zG c9
       have c9b1 : decide (l2.length < 1) = false := zG (by omega)
       clear c9
       have H' := zA H
       clear H
       go_wp2
       go_meet
       case rel => exact ⟨_, (decide ((l2.length : Int) > 32)), qT, H', ⟨qO⟩, qD⟩
 case rest =>
  clear HC4
  obtain ⟨kq, x33_3, rfl, HA, HJ3, ⟨mc3, rfl⟩⟩ := hcut
  cases kq with
  | zero => exact absurd HA.out (by simp [cubbyref07_Shape.j0])
  | succ kj3 =>
   have H := HA.out
   clear HA
   simp only [cubbyref07_Shape.j0] at H
   by_cases c10 : x33_3 = true
   ·subst c10
    have H1 : (some false) = some r := by rw [zC rfl] at H; exact H
    clear H
    have H := H1
    clear H1
    obtain rfl := zI H
    go_wp2
    go_ret
    exact ⟨by first | rfl | (simp; done) | (simp [*]; done), qD⟩
   ·replace c10 := Bool.eq_false_iff.mpr c10
    subst c10
    have H1 : (cubbyref07_Shape.l0 kj3 l2 0 0) = some r := by rw [zD (show ¬ (false = true) by decide)] at H; exact H
    clear H
    have H := H1
    clear H1
    have H' := zA H
    clear H
    go_wp2
    go_loopg [7, 8] kj3 (fun kq v7 v8 w' => ∃ (x7_2 : Int) (x8_2 : Int), v7 = .int .i64 x7_2 ∧ v8 = .int .i64 x8_2 ∧ Aside0 (cubbyref07_Shape.l0 kq l2 x7_2 x8_2 = some r) ∧ Aside0 (kq ≤ kj3) ∧ Drawn0 w w')
    case atStart => exact ⟨(0), (0), qT, qT, H', ⟨Nat.le_refl _⟩, qD⟩
    case round =>
     clear H'
     obtain ⟨x7_2, x8_2, rfl, rfl, HA, HK2, ⟨m2, rfl⟩⟩ := hrel
     cases gk with
     | zero => exact absurd HA.out (by simp [cubbyref07_Shape.l0])
     | succ k2 =>
      have H := HA.out
      clear HA
      simp only [cubbyref07_Shape.l0] at H
      by_cases c11 : x8_2 < (l2.length : Int)
      ·rw [zC c11] at H
       have c11b0 := zF c11
       clear c11
       by_cases c12 : 0 ≤ x8_2
       ·rw [zC c12] at H
        have c12b0 := zF c12
        clear c12
        by_cases c13 : ((rd_LIns l2 x8_2).length : Int) = 0
        ·rw [zC c13] at H
         obtain ⟨c13b0, c13b1⟩ := qe c13; clear c13
         obtain rfl := zI H
         have p178 : 0 ≤ (x8_2 : Int) := zB qA
         have q178 : x8_2 < (l2.length : Int) := zB qA
         obtain ⟨ad178, A178_0, c178_0, e178, hx178_0, hl178_0, hi178_0⟩ := at_LIns HR2.out x8_2 p178 q178
         cases e178
         have HR178_0 := zA hi178_0
         have HC178_0 := zA hl178_0
         clear hi178_0 hl178_0
         replace p178 := eq_true p178
         replace q178 := eq_true q178
         go_wp2
         go_ret
         exact ⟨by first | rfl | (simp; done) | (simp [*]; done), qD⟩
        ·rw [zD c13] at H
         obtain ⟨c13b0, c13b1⟩ := qn c13
         have c13b2 : ¬ ((rd_LIns l2 x8_2) = []) := fun h_ => c13 (by rw [h_]; rfl)
         by_cases c14 : ((rd_LIns l2 x8_2).length : Int) > 200
         ·rw [zC c14] at H
          have c14b0 : decide (200 < ((rd_LIns l2 x8_2).length : Int)) = true := zF c14
          have c14b1 : decide (200 < (rd_LIns l2 x8_2).length) = true := zF (by omega)
          clear c14
          obtain rfl := zI H
          have p178 : 0 ≤ (x8_2 : Int) := zB qA
          have q178 : x8_2 < (l2.length : Int) := zB qA
          obtain ⟨ad178, A178_0, c178_0, e178, hx178_0, hl178_0, hi178_0⟩ := at_LIns HR2.out x8_2 p178 q178
          cases e178
          have HR178_0 := zA hi178_0
          have HC178_0 := zA hl178_0
          clear hi178_0 hl178_0
          replace p178 := eq_true p178
          replace q178 := eq_true q178
          have p179 : 0 ≤ (x8_2 : Int) := zB qA
          have q179 : x8_2 < (l2.length : Int) := zB qA
          obtain ⟨ad179, A179_0, c179_0, e179, hx179_0, hl179_0, hi179_0⟩ := at_LIns HR2.out x8_2 p179 q179
          obtain rfl : ad178 = ad179 := (by injection e179)
          have HR179_0 := zA hi179_0
          have HC179_0 := zA hl179_0
          clear hi179_0 hl179_0
          replace p179 := eq_true p179
          replace q179 := eq_true q179
          have ea_ := zI (hx178_0.symm.trans hx179_0)
          injection ea_ with ea_ en_ ec_
          subst ea_
          subst ec_
          clear en_
          go_wp2
          go_ret
          exact ⟨by first | rfl | (simp; done) | (simp [*]; done), qD⟩
         ·rw [zD c14] at H
          have c14b0 : decide (200 < ((rd_LIns l2 x8_2).length : Int)) = false := zG c14
          have c14b1 : decide (200 < (rd_LIns l2 x8_2).length) = false := zG (by omega)
          clear c14
          have H' := zA H
          clear H
          have p178 : 0 ≤ (x8_2 : Int) := zB qA
          have q178 : x8_2 < (l2.length : Int) := zB qA
          obtain ⟨ad178, A178_0, c178_0, e178, hx178_0, hl178_0, hi178_0⟩ := at_LIns HR2.out x8_2 p178 q178
          cases e178
          have HR178_0 := zA hi178_0
          have HC178_0 := zA hl178_0
          clear hi178_0 hl178_0
          replace p178 := eq_true p178
          replace q178 := eq_true q178
          have p179 : 0 ≤ (x8_2 : Int) := zB qA
          have q179 : x8_2 < (l2.length : Int) := zB qA
          obtain ⟨ad179, A179_0, c179_0, e179, hx179_0, hl179_0, hi179_0⟩ := at_LIns HR2.out x8_2 p179 q179
          obtain rfl : ad178 = ad179 := (by injection e179)
          have HR179_0 := zA hi179_0
          have HC179_0 := zA hl179_0
          clear hi179_0 hl179_0
          replace p179 := eq_true p179
          replace q179 := eq_true q179
          have ea_ := zI (hx178_0.symm.trans hx179_0)
          injection ea_ with ea_ en_ ec_
          subst ea_
          subst ec_
          clear en_
          have p180 : 0 ≤ (x8_2 : Int) := zB qA
          have q180 : x8_2 < (l2.length : Int) := zB qA
          obtain ⟨ad180, A180_0, c180_0, e180, hx180_0, hl180_0, hi180_0⟩ := at_LIns HR2.out x8_2 p180 q180
          obtain rfl : ad178 = ad180 := (by injection e180)
          have HR180_0 := zA hi180_0
          have HC180_0 := zA hl180_0
          clear hi180_0 hl180_0
          replace p180 := eq_true p180
          replace q180 := eq_true q180
          have ea_ := zI (hx178_0.symm.trans hx180_0)
          injection ea_ with ea_ en_ ec_
          subst ea_
          subst ec_
          clear en_
          go_wp2
          go_roundg k2
          case measure => have := HJ3.out; have := HK2.out; omega
          case rel => exact ⟨(wrap64 (x7_2 + ((rd_LIns l2 x8_2).length : Int))), (wrap64 (x8_2 + 1)), qT, qT, H', ⟨by have := HJ3.out; have := HK2.out; omega⟩, qD⟩
       ·rw [zD c12] at H
        exact absurd H (by simp)
      ·rw [zD c11] at H
       have c11b0 := zG c11
       clear c11
       obtain rfl := zI H
       go_wp2
       go_ret
       exact ⟨by first | rfl | (simp; done) | (simp [*]; done), qD⟩
end Go.Proofs.YtniknpjeknmpjaaGreatDoor.Q
