/- TextCodes: parts of the proofs, put together. -/
import Derived.SizedLaws
import Derived.Deep.Slices
import Derived.ProofKit
import Derived.Test.YtniknpjeknmpjaaGreatDoorProg
import Derived.Below
import Derived.Deep.Draws
import Derived.Deep.AppendLies
import Derived.Maps.AppendAt
import Derived.OwnWalk
import Derived.Laws.BytesArg
import Derived.Laws.MakeOwn
import Derived.Laws.OwnMore
import Derived.Deep.OwnRows
import Derived.Tactics
import Derived.Lib.ConvBytes
import Derived.Laws.Slices
import Derived.WalkKit
import Derived.KernelRfl
import Derived.RowKit3
import Derived.Deep.LoopGhost
import Derived.Deep.QuietTactic
import Derived.BigQuiet
import Derived.WideLaws
import Derived.Deep.DeepCutAuto
import Derived.Deep.CutBlock
import Derived.Deep.RegionHeld3
import Derived.Laws.Rows
import Derived.Lib.AppendStr
import Derived.ArgAppend
import Derived.Laws.IdiomCopy
import Derived.OrdersHeld
import Derived.Laws.BitsLemmas
import Derived.RowKit
import Derived.Ground.NamesProg
import Derived.Shelf.SlGeneric
import Derived.Shelf.LaysM
import Derived.Shelf.Strings.SlTrimAscii
import Derived.Shelf.Strings.Search2
import Derived.Shelf.Strings.Search3
import Derived.Shelf.Strings.Count
import Derived.Shelf.Strings.Split
import Derived.Shelf.Strconv.ErrVarAll
import Derived.Shelf.Strconv.Itoa3
import Derived.Shelf.Strings.OnBuilder
import Derived.Shelf.Small.Wraps
import Derived.Shelf.Strings.Prefix
import Derived.Shelf.Small.Strs
import Derived.Test.YtniknpjeknmpjaaGreatDoorRows
import Derived.Lib.LaidU8
import Derived.Lib.LaidTab
import Derived.Stop.LaidErr
import Derived.Lib.QuietBelow
import Derived.OpenShut
import Derived.Lib.Builder
import Derived.Lib.OthersKept
import Derived.Deep.RegionWith
import Derived.Test.YtniknpjeknmpjaaGreatDoorMTextCodes1
namespace Go.Proofs.YtniknpjeknmpjaaGreatDoor.Open
open Go Go.Proofs.YtniknpjeknmpjaaGreatDoorW.PrintWords
def Opens (P : Program) (t : TypeId) {α : Type} (d : Kd α) (G : α → Prop) : Prop :=
 P.cellsOf t = d.sz ∧ ∀ {H : Type} (enc : TypeId × Value → H) (w : World) (fuel : Nat) (cs : List Value) (x : DataW H × List MemPlace),
  DataW.trod enc P w 0 (fun _ => true) true fuel t cs = some x → (∀ n ∈ x.1.weights P t, n ≤ 140737488351232) → ∃ y, d.K w y cs ∧ G y
theorem Opens.int {P : Program} {t : TypeId} {k : IntKind} (ht : P.underlying t = some (.int k)) (hc : P.cellsOf t = 1) : Opens P t (Kd.int k) (fun n => (Lit.int k n).wf = true) := by
 refine ⟨hc, fun enc w fuel cs x h _ => ?_⟩
 obtain ⟨n, rfl, _, hw⟩ := DataW.trod_int ht h
 exact ⟨n, rfl, hw⟩
theorem Opens.bool {P : Program} {t : TypeId} (ht : P.underlying t = some .bool) (hc : P.cellsOf t = 1) : Opens P t Kd.bool (fun _ => True) := by
 refine ⟨hc, fun enc w fuel cs x h _ => ?_⟩
 obtain ⟨b, rfl, _⟩ := DataW.trod_bool ht h
 exact ⟨b, rfl, trivial⟩
theorem Opens.string {P : Program} {t : TypeId} (ht : P.underlying t = some .string) (hc : P.cellsOf t = 1) : Opens P t Kd.string (fun s => s.size ≤ 140737488351232) := by
 refine ⟨hc, fun enc w fuel cs x h hz => ?_⟩
 obtain ⟨s, rfl, rfl, _⟩ := DataW.trod_string ht h
 refine ⟨s, rfl, ?_⟩
 have := hz s.data.toList.length (by simp [DataW.weights])
 simpa using this
theorem weightsAll_mem {H : Type} {P : Program} {e : TypeId} : ∀ {l : List (DataW H)} {d : DataW H}, d ∈ l → ∀ n ∈ d.weights P e, n ∈ DataW.weightsAll P e l
 | a :: l, d, hd, n, hn => by
  simp only [DataW.weightsAll, List.mem_append]
  rcases List.mem_cons.1 hd with rfl | hd
  ·exact Or.inl hn
  ·exact Or.inr (weightsAll_mem hd n hn)
theorem choose_list {α : Type} {Q : Nat → α → Prop} : ∀ (n : Nat), (∀ i, i < n → ∃ y, Q i y) → ∃ ys : List α, ys.length = n ∧ ∀ i y, ys[i]? = some y → Q i y
 | 0, _ => ⟨[], rfl, fun i y h => by simp at h⟩
 | n + 1, h => by
  obtain ⟨ys, hl, hq⟩ := choose_list n (fun i hi => h i (by omega))
  obtain ⟨y, hy⟩ := h n (by omega)
  refine ⟨ys ++ [y], by simp [hl], fun i z hz => ?_⟩
  rcases Nat.lt_or_ge i n with hi | hi
  ·rw [List.getElem?_append_left (by omega)] at hz
   exact hq i z hz
  ·rw [List.getElem?_append_right (by omega)] at hz
   have : i = n := by
    have := (List.getElem?_eq_some_iff.1 hz).1
    simp at this
    omega
   subst this
   rw [hl, Nat.sub_self] at hz
   simp at hz
   subst hz
   exact hy
theorem Opens.slice {P : Program} {t e : TypeId} {α : Type} {d : Kd α} {G : α → Prop} {B : Nat} (ht : P.underlying t = some (.slice e)) (hc : P.cellsOf t = 1) (hB : P.bytesOf e = B) (hd : Opens P e d G) :
 Opens P t (Kd.slice e d) (fun xs => xs.length * B ≤ 140737488351232 ∧ xs.length ≤ maxLen ∧ ∀ x ∈ xs, G x) := by
 refine ⟨hc, fun enc w fuel cs x h hz => ?_⟩
 rcases Go.Deep.open_slice ht h with ⟨rfl, rfl⟩ | ⟨a, len, cap, m, n, D, Pl, rfl, _, hl, hm, hmc, rfl, hel⟩
 ·refine ⟨[], ⟨none, 0, rfl, Nat.le_refl _, ?_⟩, by simp [maxLen]⟩
  exact ⟨rfl, by simp, fun h => absurd h (by simp)⟩
 ·replace hmc : m = cap := by rw [hmc]; rfl
  subst hmc
  have hw : ∀ i, i < len → ∀ q ∈ (D i).weights P e, q ≤ 140737488351232 := by
   intro i hi q hq
   apply hz
   simp only [DataW.weights, ht, List.mem_cons, List.mem_append]
   right; left
   exact weightsAll_mem (d := D i) (List.mem_map.2 ⟨i, by simpa using hi, rfl⟩) q hq
  have hbig : (len + (m - len)) * B ≤ 140737488351232 := by
   apply hz
   simp only [DataW.weights, ht, List.mem_cons, List.length_map, List.length_range, hB]
   left; trivial
  obtain ⟨ys, hyl, hys⟩ := choose_list (Q := fun i y => ∃ c, w.cells? 0 (a.add (i * P.cellsOf e)) (P.cellsOf e) = some c ∧ d.K w y c ∧ G y) len (fun i hi => by
   obtain ⟨c, h1, h2⟩ := hel i (by omega)
   obtain ⟨y, hk, hg⟩ := hd.2 enc w _ _ _ h2 (hw i hi)
   exact ⟨y, c, h1, hk, hg⟩)
  refine ⟨ys, ⟨some a, m, by rw [hyl], by omega, ?_⟩, ?_, by omega, ?_⟩
  ·refine ⟨rfl, by unfold maxLen at hm; omega, fun _ => ⟨a, rfl, fun j p hj => ?_⟩⟩
   obtain ⟨c, h1, hk, hg⟩ := hys j p hj
   obtain ⟨_, h3, h4⟩ := World.cells?_some h1
   refine ⟨c, by rw [h3, hd.1], hk, fun i u hu => ?_⟩
   have hi : i < P.cellsOf e := by
    have := (List.getElem?_eq_some_iff.1 hu).1
    omega
   have h5 := h4 i hi
   rw [hu] at h5
   rw [← h5, ← hd.1]
   congr 1
   rw [Addr.add_add]
  ·rw [hyl]
   exact Nat.le_trans (Nat.mul_le_mul_right _ (by omega)) hbig
  ·intro y hy
   obtain ⟨i, hi⟩ := List.getElem?_of_mem hy
   obtain ⟨_, _, _, hg⟩ := hys i y hi
   exact hg
structure OpensFs (P : Program) (fs : List Field) (off : Nat) {α : Type} (d : Kd α) (G : α → Prop) : Prop where
 out : ∀ (H : Type) (enc : TypeId × Value → H) (w : World) (fuel : Nat) (cs : List Value) (xs : List (DataW H × List MemPlace)), cs.length = off + d.sz → xs.length = fs.length →
  (∀ (i : Nat) (f : Field), fs[i]? = some f → DataW.trod enc P w 0 (fun _ => true) true fuel f.type ((cs.drop f.offset).take (P.cellsOf f.type)) = xs[i]?) →
  (∀ n ∈ DataW.weightsEach P (fs.map (·.type)) (xs.map (·.1)), n ≤ 140737488351232) → ∃ y, d.K w y (cs.drop off) ∧ G y
theorem OpensFs.one {P : Program} {f : Field} {off : Nat} {α : Type} {d : Kd α} {G : α → Prop} (ho : f.offset = off) (hd : Opens P f.type d G) : OpensFs P [f] off d G := by
 refine ⟨fun H enc w fuel cs xs hl hx hf hz => ?_⟩
 have h0 := hf 0 f rfl
 obtain ⟨x, rfl⟩ : ∃ x, xs = [x] := by
  match xs, hx with
  | [x], _ => exact ⟨x, rfl⟩
 have h1 : (cs.drop f.offset).take (P.cellsOf f.type) = cs.drop off := by
  rw [ho, hd.1, List.take_of_length_le (by simp; omega)]
 rw [h1] at h0
 exact hd.2 enc w fuel _ x h0 (fun n hn => hz n (by simpa [DataW.weightsEach] using hn))
theorem OpensFs.cons {P : Program} {f : Field} {fs : List Field} {off : Nat} {α β : Type} {d : Kd α} {d2 : Kd β} {G : α → Prop} {G2 : β → Prop} (ho : f.offset = off) (hd : Opens P f.type d G) (h2 : OpensFs P fs (off + d.sz) d2 G2) :
 OpensFs P (f :: fs) off (Kd.pair d d2) (fun y => G y.1 ∧ G2 y.2) := by
 refine ⟨fun H enc w fuel cs xs hl hx hf hz => ?_⟩
 have hp : (Kd.pair d d2).sz = d.sz + d2.sz := rfl
 match xs, hx with
 | x :: xs, hx =>
  have h0 := hf 0 f rfl
  simp only [List.getElem?_cons_zero] at h0
  obtain ⟨y, hk, hg⟩ := hd.2 enc w fuel _ x h0 (fun n hn => hz n (by simp only [List.map_cons, DataW.weightsEach, List.mem_append]; exact Or.inl hn))
  obtain ⟨y2, hk2, hg2⟩ := h2.out H enc w fuel cs xs (by omega) (by simpa using hx) (fun i g hi => by simpa using hf (i + 1) g (by simpa using hi)) (fun n hn => hz n (by simp only [List.map_cons, DataW.weightsEach, List.mem_append]; exact Or.inr hn))
  refine ⟨(y, y2), ⟨_, _, ?_, hk, hk2⟩, hg, hg2⟩
  rw [ho, hd.1, ← List.drop_drop, List.take_append_drop]
theorem Opens.struct {P : Program} {t : TypeId} {fs : Array Field} {α : Type} {d : Kd α} {G : α → Prop} (ht : P.underlying t = some (.struct fs)) (hc : P.cellsOf t = d.sz) (hf : OpensFs P fs.toList 0 d G) : Opens P t d G := by
 refine ⟨hc, fun enc w fuel cs x h hz => ?_⟩
 obtain ⟨xs, n, rfl, rfl, hl, hx, hi⟩ := DataW.trod_struct ht h
 have := hf.out _ enc w n cs xs (by omega) (by simpa using hx) (fun i f h => hi i f (by simpa using h)) (fun q hq => hz q (by simpa [DataW.weights, ht] using hq))
 simpa using this
theorem Opens.iso {P : Program} {t : TypeId} {α β : Type} {d : Kd α} {G : α → Prop} (f : β → α) (g : α → β) (hg : ∀ y, f (g y) = y) (h : Opens P t d G) : Opens P t (Kd.iso d f) (fun x => G (f x)) := by
 refine ⟨h.1, fun enc w fuel cs x hx hz => ?_⟩
 obtain ⟨y, hk, hy⟩ := h.2 enc w fuel cs x hx hz
 exact ⟨g y, by show d.K w (f (g y)) cs; rw [hg]; exact hk, by show G (f (g y)); rw [hg]; exact hy⟩
theorem Opens.imp {P : Program} {t : TypeId} {α : Type} {d : Kd α} {G G' : α → Prop} (h : Opens P t d G) (hG : ∀ y, G y → G' y) : Opens P t d G' :=
 ⟨h.1, fun enc w fuel cs x hx hz => by
  obtain ⟨y, hk, hy⟩ := h.2 enc w fuel cs x hx hz
  exact ⟨y, hk, hG y hy⟩⟩
theorem Opens.arg {P : Program} {t : TypeId} {α : Type} {d : Kd α} {G : α → Prop} (h : Opens P t d G) {H : Type} {enc : TypeId × Value → H} {w : World} {v : Value} {x : DataW H} {ps : List MemPlace} (ht : DataW.Trod enc P w 0 (fun _ => true) true t v x ps)
 {ts : List TypeId} {ds : List (DataW H)} (hsz : (DataW.weightsEach P ts ds).all (· ≤ reachBytes) = true) {j : Nat} (h1 : ts[j]? = some t) (h2 : ds[j]? = some x) : ∃ y, d.K w y v.cells.toList ∧ G y := by
 obtain ⟨fuel, hf⟩ := ht
 refine h.2 enc w fuel _ _ hf (fun n hn => ?_)
 have := List.all_eq_true.1 hsz _ (DataW.weights_mem_each h1 h2 n hn)
 exact zB this
end Go.Proofs.YtniknpjeknmpjaaGreatDoor.Open
namespace Go.Proofs.YtniknpjeknmpjaaGreatDoor.Q
open Go.RowKit Go.Proofs.YtniknpjeknmpjaaGreatDoorW.PrintWords Go.Proofs.YtniknpjeknmpjaaGreatDoorW.PrintLast Go.Proofs.YtniknpjeknmpjaaGreatDoorW.PrintMore
attribute [local go_sem] max2_int min2_int max_two min_two max_three min_three max_four min_four
set_option linter.unusedVariables false
set_option linter.unusedSimpArgs false
def errW : Option Int → Value
 | none => .nilIface
 | some c => .iface 147 (.int .i64 c)
theorem errW_none : errW none = .nilIface := rfl
theorem errW_some (c : Int) : errW (some c) = .iface 147 (.int .i64 c) := rfl
theorem info3 : (Tryz.prog.info? 3).map (fun i => (i.zero, i.size, i.bytes)) = some (some (.int .i64 0), 1, 8) := by kernel_rfl
theorem info9 : (Tryz.prog.info? 9).map (fun i => (i.zero, i.size, i.bytes)) = some (some (.string ⟨#[]⟩), 1, 16) := by kernel_rfl
-- the values' own types

structure SIns where
 f0 : Int
 f1 : Int
 f2 : Int
 f3 : Int
 f4 : ByteArray
 f5 : (List Int)
def zIns : SIns := ⟨(0 : Int), (0 : Int), (0 : Int), (0 : Int), (⟨#[]⟩ : ByteArray), ([] : List Int)⟩
def kIns : Kd SIns := Kd.iso (Kd.pair (Kd.int .i64) (Kd.pair (Kd.int .i64) (Kd.pair (Kd.int .i64) (Kd.pair (Kd.int .i64) (Kd.pair Kd.string (Kd.slice 3 (Kd.int .i64))))))) (fun x : SIns => (x.f0, x.f1, x.f2, x.f3, x.f4, x.f5))
theorem kIns_open {w : World} {x : SIns} {cs : List Value} (h : kIns.K w x cs) : ∃ A5 c5, cs = [.int .i64 x.f0, .int .i64 x.f1, .int .i64 x.f2, .int .i64 x.f3, .string x.f4, .slice A5 x.f5.length c5] ∧ x.f5.length ≤ c5 ∧ (Kd.int .i64).C w A5 x.f5.length x.f5 := by
 obtain ⟨_, _, rfl, rfl, ⟨_, _, rfl, rfl, ⟨_, _, rfl, rfl, ⟨_, _, rfl, rfl, ⟨_, _, rfl, rfl, ⟨A5, c5, rfl, l5, g5⟩⟩⟩⟩⟩⟩ := h
 exact ⟨A5, c5, rfl, l5, g5⟩
theorem kIns_mkM (w : World) (base : Nat) (ok : Nat → Prop) (x : SIns) {v5 : Value} (g5 : (Kd.int .i64).R 3 w base ok v5 x.f5) : kIns.M w base ok x [.int .i64 x.f0, .int .i64 x.f1, .int .i64 x.f2, .int .i64 x.f3, .string x.f4, v5] := ⟨[.int .i64 x.f0], [.int .i64 x.f1, .int .i64 x.f2, .int .i64 x.f3, .string x.f4, v5], rfl, rfl, ⟨[.int .i64 x.f1], [.int .i64 x.f2, .int .i64 x.f3, .string x.f4, v5], rfl, rfl, ⟨[.int .i64 x.f2], [.int .i64 x.f3, .string x.f4, v5], rfl, rfl, ⟨[.int .i64 x.f3], [.string x.f4, v5], rfl, rfl, ⟨[.string x.f4], [v5], rfl, rfl, ⟨v5, rfl, g5⟩⟩⟩⟩⟩⟩
def rd_TIns (xs : List SIns) (i : Int) : SIns := xs.getD i.toNat zIns
theorem at_TIns {w : World} {A : Option Addr} {n : Nat} {xs : List SIns} (h : Kd.C kIns w A n xs) (i : Int) (h0 : 0 ≤ i) (h1 : i < n) : ∃ ad A5 c5, A = some ad ∧ w.cell? (ad.add (i.toNat * 6)) = some (.int .i64 (rd_TIns xs i).f0) ∧ w.cell? ⟨(ad.add (i.toNat * 6)).block, (ad.add (i.toNat * 6)).off + 1, none⟩ = some (.int .i64 (rd_TIns xs i).f1) ∧ w.cell? ⟨(ad.add (i.toNat * 6)).block, (ad.add (i.toNat * 6)).off + 2, none⟩ = some (.int .i64 (rd_TIns xs i).f2) ∧ w.cell? ⟨(ad.add (i.toNat * 6)).block, (ad.add (i.toNat * 6)).off + 3, none⟩ = some (.int .i64 (rd_TIns xs i).f3) ∧ w.cell? ⟨(ad.add (i.toNat * 6)).block, (ad.add (i.toNat * 6)).off + 4, none⟩ = some (.string (rd_TIns xs i).f4) ∧ w.cell? ⟨(ad.add (i.toNat * 6)).block, (ad.add (i.toNat * 6)).off + 5, none⟩ = some (.slice A5 (rd_TIns xs i).f5.length c5) ∧ (rd_TIns xs i).f5.length ≤ c5 ∧ (Kd.int .i64).C w A5 (rd_TIns xs i).f5.length (rd_TIns xs i).f5 := by
 obtain ⟨ad, c, e, _, hK, hc0⟩ := Kd.C_get h zIns i h0 h1
 have hc : ∀ j u, c[j]? = some u → w.cell? (ad.add (i.toNat * 6 + j)) = some u := hc0
 obtain ⟨A5, c5, rfl, l5, g5⟩ := kIns_open hK
 exact ⟨ad, A5, c5, e, hc 0 _ rfl, by rw [← add_field _ _ 1 (by omega)]; exact hc 1 _ rfl, by rw [← add_field _ _ 2 (by omega)]; exact hc 2 _ rfl, by rw [← add_field _ _ 3 (by omega)]; exact hc 3 _ rfl, by rw [← add_field _ _ 4 (by omega)]; exact hc 4 _ rfl, by rw [← add_field _ _ 5 (by omega)]; exact hc 5 _ rfl, l5, g5⟩
def rd_LIns (xs : List (List SIns)) (i : Int) : (List SIns) := xs.getD i.toNat ([] : List SIns)
theorem at_LIns {w : World} {A : Option Addr} {n : Nat} {xs : List (List SIns)} (h : Kd.C (Kd.slice 44 kIns) w A n xs) (i : Int) (h0 : 0 ≤ i) (h1 : i < n) : ∃ ad A0 c0, A = some ad ∧ w.cell? (ad.add i.toNat) = some (.slice A0 (rd_LIns xs i).length c0) ∧ (rd_LIns xs i).length ≤ c0 ∧ kIns.C w A0 (rd_LIns xs i).length (rd_LIns xs i) := by
 obtain ⟨ad, c, e, _, hK, hc0⟩ := Kd.C_get h ([] : List SIns) i h0 h1
 have hc : ∀ j u, c[j]? = some u → w.cell? (ad.add (i.toNat * 1 + j)) = some u := hc0
 obtain ⟨A0, c0, rfl, l0, g0⟩ := hK
 exact ⟨ad, A0, c0, e, by have hq := hc 0 _ rfl; rwa [Nat.mul_one, Nat.add_zero] at hq, l0, g0⟩


end Go.Proofs.YtniknpjeknmpjaaGreatDoor.Q
namespace Go.Proofs.YtniknpjeknmpjaaGreatDoor.Q
open Go.RowKit Go.Proofs.YtniknpjeknmpjaaGreatDoorW.PrintWords Go.Proofs.YtniknpjeknmpjaaGreatDoorW.PrintLast Go.Proofs.YtniknpjeknmpjaaGreatDoorW.PrintMore
set_option linter.unusedVariables false
section
variable {P Q : Prop}
theorem qB (h : P := by repeat (first | (with_reducible first | exact HB.out | apply below_alloc | apply pw_below_drewN | apply below_drew1 | refine below_set ?_ (Aside0.out (by assumption))) | exact HB.out)) : P := h
theorem qA (h : P := by first | (with_reducible assumption) | assumption) : P := h
theorem qE (h : P := by first | rfl | (simp [errW_none, errW_some] <;> rfl) | (simp [*, errW_none, errW_some] <;> rfl)) : P := h
theorem qT (h : P := by first | rfl | (simp; done) | (simp [*]; done)) : P := h
theorem qO (h : P := by first | omega | exact Nat.le_refl _) : P := h
theorem qD (h : P := by repeat (first | exact Drawn0.refl _ | apply Drawn0.step)) : P := h
theorem qL (h : P := by (try simp only [List.map_toArray, List.map_cons, List.map_nil]); first | done | rfl | (simp only [List.length_drop, List.length_take]; rfl)) : P := h
theorem qK (q : Q) (h : Q → P := by intro h_; (with_reducible repeat (first | refine blk_drewN ?_ _ | refine blk_drew ?_ | refine blk_alloc ?_ _)); exact h_) : P := h q
theorem qR (q : Q) (h : Q → P := by intro h_; (with_reducible repeat (first | apply Kd.R_alloc | apply Kd.R_drewN | apply Kd.R_drew)); exact h_) : P := h q
theorem qCB (q : Q) (h : Q → P := by intro h_; repeat (first | exact (Kd.C_below h_ HB.out) | (with_reducible refine Kd.C_alloc ?_ _) | (with_reducible refine Kd.C_drewN ?_ _) | (with_reducible refine Kd.C_drew ?_))) : P := h q
end
theorem qW {w0 w w1 : World} {g : Nat} {o : Obj} (bk : Aside0 (w0.heap[g]? = some o)) (hb : Below w.heap.size w w1) (h : w0.heap[g]? = some o → w.heap[g]? = some o := by intro h_; (with_reducible repeat (first | refine blk_drewN ?_ _ | refine blk_drew ?_ | refine blk_alloc ?_ _)); exact h_) : Aside0 (w1.heap[g]? = some o) := ⟨blk_below (h bk.out) hb⟩
theorem qH {w W w2 : World} (hb : Below W.heap.size W w2) (h : Below w.heap.size w W := by repeat (first | (with_reducible first | exact HB.out | apply below_alloc | apply pw_below_drewN | apply below_drew1 | refine below_set ?_ (Aside0.out (by assumption))) | exact HB.out)) : Aside0 (Below w.heap.size w w2) := ⟨below_step h hb⟩
theorem qG {w W : World} {g : Nat} (hg : g = W.heap.size) (h : Below w.heap.size w W := by repeat (first | (with_reducible first | exact HB.out | apply below_alloc | apply pw_below_drewN | apply below_drew1 | refine below_set ?_ (Aside0.out (by assumption))) | exact HB.out)) : Aside0 (w.heap.size ≤ g) := ⟨by rw [hg]; exact below_size h⟩
theorem qb {α β : Type} {x : Option α} {f : α → Option β} {r : β} (h : x.bind f = some r) : ∃ t, Aside0 (x = some t) ∧ f t = some r := by
 obtain ⟨t, h1, h2⟩ := Option.bind_eq_some_iff.mp h
 exact ⟨t, ⟨h1⟩, h2⟩
theorem qe {α : Type} [BEq α] [LawfulBEq α] {a b : α} (h : a = b) : (a == b) = true ∧ (a != b) = false := ⟨beq_iff_eq.mpr h, bne_eq_false_iff_eq.mpr h⟩
theorem qn {α : Type} [BEq α] [LawfulBEq α] {a b : α} (h : ¬ a = b) : (a == b) = false ∧ (a != b) = true := ⟨beq_eq_false_iff_ne.mpr h, bne_iff_ne.mpr h⟩
theorem bk1 {w : World} {g : Nat} {t : TypeId} {c0 : Value} (h : w.heap[g]? = some (.cells #[c0] t (0, 0))) : w.cell? ⟨g, 0, none⟩ = some c0 ∧ w.frozen? ⟨g, 0, none⟩ = false := ⟨(blk_cell h 0).trans rfl, blk_frozen h 0⟩
theorem bk3 {w : World} {g : Nat} {t : TypeId} {c0 c1 c2 : Value} (h : w.heap[g]? = some (.cells #[c0, c1, c2] t (0, 0))) : w.cell? ⟨g, 0, none⟩ = some c0 ∧ w.cell? ⟨g, 1, none⟩ = some c1 ∧ w.cell? ⟨g, 2, none⟩ = some c2 ∧ w.frozen? ⟨g, 0, none⟩ = false ∧ w.frozen? ⟨g, 1, none⟩ = false ∧ w.frozen? ⟨g, 2, none⟩ = false := ⟨(blk_cell h 0).trans rfl, (blk_cell h 1).trans rfl, (blk_cell h 2).trans rfl, blk_frozen h 0, blk_frozen h 1, blk_frozen h 2⟩
theorem bk5 {w : World} {g : Nat} {t : TypeId} {c0 c1 c2 c3 c4 : Value} (h : w.heap[g]? = some (.cells #[c0, c1, c2, c3, c4] t (0, 0))) : w.cell? ⟨g, 0, none⟩ = some c0 ∧ w.cell? ⟨g, 1, none⟩ = some c1 ∧ w.cell? ⟨g, 2, none⟩ = some c2 ∧ w.cell? ⟨g, 3, none⟩ = some c3 ∧ w.cell? ⟨g, 4, none⟩ = some c4 ∧ w.frozen? ⟨g, 0, none⟩ = false ∧ w.frozen? ⟨g, 1, none⟩ = false ∧ w.frozen? ⟨g, 2, none⟩ = false ∧ w.frozen? ⟨g, 3, none⟩ = false ∧ w.frozen? ⟨g, 4, none⟩ = false := ⟨(blk_cell h 0).trans rfl, (blk_cell h 1).trans rfl, (blk_cell h 2).trans rfl, (blk_cell h 3).trans rfl, (blk_cell h 4).trans rfl, blk_frozen h 0, blk_frozen h 1, blk_frozen h 2, blk_frozen h 3, blk_frozen h 4⟩
theorem bk6 {w : World} {g : Nat} {t : TypeId} {c0 c1 c2 c3 c4 c5 : Value} (h : w.heap[g]? = some (.cells #[c0, c1, c2, c3, c4, c5] t (0, 0))) : w.cell? ⟨g, 0, none⟩ = some c0 ∧ w.cell? ⟨g, 1, none⟩ = some c1 ∧ w.cell? ⟨g, 2, none⟩ = some c2 ∧ w.cell? ⟨g, 3, none⟩ = some c3 ∧ w.cell? ⟨g, 4, none⟩ = some c4 ∧ w.cell? ⟨g, 5, none⟩ = some c5 ∧ w.frozen? ⟨g, 0, none⟩ = false ∧ w.frozen? ⟨g, 1, none⟩ = false ∧ w.frozen? ⟨g, 2, none⟩ = false ∧ w.frozen? ⟨g, 3, none⟩ = false ∧ w.frozen? ⟨g, 4, none⟩ = false ∧ w.frozen? ⟨g, 5, none⟩ = false := ⟨(blk_cell h 0).trans rfl, (blk_cell h 1).trans rfl, (blk_cell h 2).trans rfl, (blk_cell h 3).trans rfl, (blk_cell h 4).trans rfl, (blk_cell h 5).trans rfl, blk_frozen h 0, blk_frozen h 1, blk_frozen h 2, blk_frozen h 3, blk_frozen h 4, blk_frozen h 5⟩
def bA (n m : Nat) : Array Bool := ((List.range n).map m.testBit).toArray
section
variable {P : Program} {ops : Array Oper} {Q : Exit → Act → World → Prop} {md : Region.Mode} {S : World → Prop} {ds : List Nat}
theorem pu_ {i : Nat} {N : Option Tmp} {oi : Oper} {v : Value} {fuel : Nat} {l : Array Bool} {a a' : Act} {w : World} (l' : Array Bool) (h : wpAnyLast P md ops Q S ds fuel l' a' w) (hi : ops[i]? = some oi := by rfl) (hN : oi.dst = N := by rfl) (hc : anyB md ops l l' i = true := by exact any_of HT_.out (by kernel_rfl)) (hQ : ∀ c a w, Q (.panic c) (a.put oi.dst v) w → Q (.panic c) a w := by exact fun _ _ _ h => h) (hy : Yields P ops oi v a := by exact Or.inl ⟨by rfl, by intro w'; first | (go_simp; done) | (go_simp; with_reducible rfl)⟩) (ha : a.put N v = a' := by (conv => lhs; simp only [Act.put, List.setIfInBounds_toArray, List.set_cons_zero, List.set_cons_succ, i64_w, i32_w]); try rfl) : wpAnyLast P md ops Q S ds (fuel + 1) l a w := pure_ l' hi hN hc hQ hy ha h
theorem tk_ {i : Nat} {N : Option Tmp} {oi : Oper} {v : Value} {fuel : Nat} {l : Array Bool} {a a' : Act} {w : World} (l' : Array Bool) (h : wpAnyLast P md ops Q S ds fuel l' a' w) (hi : ops[i]? = some oi := by rfl) (hN : oi.dst = N := by rfl) (hc : takeB md ops ds l l' i = true := by exact take_ofW HT_.out HW_.out (by kernel_rfl)) (hQ : ∀ c a w, Q (.panic c) (a.put oi.dst v) w → Q (.panic c) a w := by exact fun _ _ _ h => h) (hy : YieldsIf P ops S oi v a := by refine Or.inl ⟨by rfl, ?_⟩; intro w' s_; repeat (obtain ⟨s0_, s_⟩ : _ ∧ _ := s_); first | (go_simp; done) | (go_simp; with_reducible rfl)) (hS : S w := by exact hHeld) (ha : a.put N v = a' := by (conv => lhs; simp only [Act.put, List.setIfInBounds_toArray, List.set_cons_zero, List.set_cons_succ, i64_w, i32_w]); try rfl) : wpAnyLast P md ops Q S ds (fuel + 1) l a w := take_ l' hi hN hc hQ hy hS ha h
end
end Go.Proofs.YtniknpjeknmpjaaGreatDoor.Q
namespace Go.Proofs
open Go.Shelf
def Tryz.lays160_ren : Go.Shelf.Ren := ⟨fun | 160 => 57 | 232 => 72 | 231 => 71 | 227 => 73 | 234 => 75 | 233 => 74 | 236 => 77 | 235 => 76 | 228 => 86 | 271 => 89 | 151 => 88 | 197 => 87 | 120 => 102 | 152 => 101 | 260 => 100 | 137 => 61 | 119 => 116 | 224 => 109 | 225 => 108 | 217 => 79 | 266 => 94 | n => n, fun | 9 => 9 | 4 => 4 | 3 => 3 | 5 => 5 | 117 => 119 | 116 => 118 | 0 => 0 | 124 => 122 | 21 => 21 | 105 => 128 | 46 => 145 | 119 => 153 | 139 => 156 | 138 => 155 | n => n, fun | 3 => 2 | 4 => 3 | n => n⟩
theorem Tryz.lays160 : Go.Proofs.Lays.n160 Tryz.prog Tryz.lays160_ren := {
 mixed := by kernel_rfl
 f119 := Tryz.func116.trans (congrArg some (by kernel_rfl))
 f120 := Tryz.func102.trans (congrArg some (by kernel_rfl))
 f137 := Tryz.func61.trans (congrArg some (by kernel_rfl))
 f151 := Tryz.func88.trans (congrArg some (by kernel_rfl))
 f152 := Tryz.func101.trans (congrArg some (by kernel_rfl))
 f160 := Tryz.func57.trans (congrArg some (by kernel_rfl))
 f197 := Tryz.func87.trans (congrArg some (by kernel_rfl))
 f217 := Tryz.func79.trans (congrArg some (by kernel_rfl))
 f224 := Tryz.func109.trans (congrArg some (by kernel_rfl))
 f225 := Tryz.func108.trans (congrArg some (by kernel_rfl))
 f227 := Tryz.func73.trans (congrArg some (by kernel_rfl))
 f228 := Tryz.func86.trans (congrArg some (by kernel_rfl))
 f231 := Tryz.func71.trans (congrArg some (by kernel_rfl))
 f232 := Tryz.func72.trans (congrArg some (by kernel_rfl))
 f233 := Tryz.func74.trans (congrArg some (by kernel_rfl))
 f234 := Tryz.func75.trans (congrArg some (by kernel_rfl))
 f235 := Tryz.func76.trans (congrArg some (by kernel_rfl))
 f236 := Tryz.func77.trans (congrArg some (by kernel_rfl))
 f260 := Tryz.func100.trans (congrArg some (by kernel_rfl))
 f266 := Tryz.func94.trans (congrArg some (by kernel_rfl))
 f271 := Tryz.func89.trans (congrArg some (by kernel_rfl))
 t0 := Tryz.underlying0
 a0 := Tryz.isAgg0
 z0 := Tryz.sizeOf0
 v0 := Tryz.zeroValue0
 t3 := Tryz.underlying3
 a3 := Tryz.isAgg3
 z3 := Tryz.sizeOf3
 v3 := Tryz.zeroValue3
 t4 := Tryz.underlying4
 a4 := Tryz.isAgg4
 z4 := Tryz.sizeOf4
 v4 := Tryz.zeroValue4
 t5 := Tryz.underlying5
 a5 := Tryz.isAgg5
 z5 := Tryz.sizeOf5
 v5 := Tryz.zeroValue5
 t9 := Tryz.underlying9
 a9 := Tryz.isAgg9
 z9 := Tryz.sizeOf9
 v9 := Tryz.zeroValue9
 t21 := Tryz.underlying21
 a21 := Tryz.isAgg21
 z21 := Tryz.sizeOf21
 v21 := Tryz.zeroValue21
 t46 := Tryz.underlying145
 a46 := Tryz.isAgg145
 z46 := Tryz.sizeOf145
 v46 := Tryz.zeroValue145
 t105 := Tryz.underlying128
 a105 := Tryz.isAgg128
 z105 := Tryz.sizeOf128
 v105 := Tryz.zeroValue128
 t116 := Tryz.underlying118
 a116 := Tryz.isAgg118
 z116 := Tryz.sizeOf118
 t117 := Tryz.underlying119
 a117 := Tryz.isAgg119
 z117 := Tryz.sizeOf119
 v117 := Tryz.zeroValue119
 t119 := Tryz.underlying153
 a119 := Tryz.isAgg153
 z119 := Tryz.sizeOf153
 t124 := Tryz.underlying122
 a124 := Tryz.isAgg122
 z124 := Tryz.sizeOf122
 v124 := Tryz.zeroValue122
 t138 := Tryz.underlying155
 a138 := Tryz.isAgg155
 z138 := Tryz.sizeOf155
 v138 := Tryz.zeroValue155
 t139 := Tryz.underlying156
 a139 := Tryz.isAgg156
 z139 := Tryz.sizeOf156
 v139 := Tryz.zeroValue156
 g3 := by kernel_rfl
 g4 := by kernel_rfl }
def Tryz.lays156_ren : Go.Shelf.Ren := ⟨fun | 156 => 29 | 165 => 56 | 166 => 28 | 169 => 36 | 240 => 55 | 241 => 70 | 276 => 69 | 277 => 85 | n => n, fun | 31 => 70 | 9 => 9 | 3 => 3 | 4 => 4 | 0 => 0 | 20 => 20 | 72 => 49 | 76 => 73 | 70 => 46 | 37 => 47 | 75 => 72 | 127 => 105 | 164 => 114 | 5 => 5 | 80 => 53 | n => n, fun | n => n⟩
theorem Tryz.lays156 : Go.Proofs.Lays.n156 Tryz.prog Tryz.lays156_ren := {
 mixed := by kernel_rfl
 f156 := Tryz.func29.trans (congrArg some (by kernel_rfl))
 f165 := Tryz.func56.trans (congrArg some (by kernel_rfl))
 f166 := Tryz.func28.trans (congrArg some (by kernel_rfl))
 f169 := Tryz.func36.trans (congrArg some (by kernel_rfl))
 f240 := Tryz.func55.trans (congrArg some (by kernel_rfl))
 f241 := Tryz.func70.trans (congrArg some (by kernel_rfl))
 f276 := Tryz.func69.trans (congrArg some (by kernel_rfl))
 f277 := Tryz.func85.trans (congrArg some (by kernel_rfl))
 t0 := Tryz.underlying0
 a0 := Tryz.isAgg0
 z0 := Tryz.sizeOf0
 v0 := Tryz.zeroValue0
 t3 := Tryz.underlying3
 a3 := Tryz.isAgg3
 z3 := Tryz.sizeOf3
 v3 := Tryz.zeroValue3
 t4 := Tryz.underlying4
 a4 := Tryz.isAgg4
 z4 := Tryz.sizeOf4
 v4 := Tryz.zeroValue4
 t9 := Tryz.underlying9
 a9 := Tryz.isAgg9
 z9 := Tryz.sizeOf9
 v9 := Tryz.zeroValue9
 t20 := Tryz.underlying20
 a20 := Tryz.isAgg20
 z20 := Tryz.sizeOf20
 v20 := Tryz.zeroValue20
 t31 := Tryz.underlying70
 a31 := Tryz.isAgg70
 z31 := Tryz.sizeOf70
 v31 := Tryz.zeroValue70
 t37 := Tryz.underlying47
 a37 := Tryz.isAgg47
 z37 := Tryz.sizeOf47
 v37 := Tryz.zeroValue47
 t70 := Tryz.underlying46
 a70 := Tryz.isAgg46
 z70 := Tryz.sizeOf46
 v70 := Tryz.zeroValue46
 t72 := Tryz.underlying49
 a72 := Tryz.isAgg49
 z72 := Tryz.sizeOf49
 v72 := Tryz.zeroValue49
 t75 := Tryz.underlying72
 a75 := Tryz.isAgg72
 z75 := Tryz.sizeOf72
 v75 := Tryz.zeroValue72
 t76 := Tryz.underlying73
 a76 := Tryz.isAgg73
 z76 := Tryz.sizeOf73
 v76 := Tryz.zeroValue73
 t127 := Tryz.underlying105
 a127 := Tryz.isAgg105
 z127 := Tryz.sizeOf105
 v127 := Tryz.zeroValue105
 t164 := Tryz.underlying114
 a164 := Tryz.isAgg114
 z164 := Tryz.sizeOf114
 v164 := Tryz.zeroValue114 }
def Tryz.lays104_ren : Go.Shelf.Ren := ⟨fun | 104 => 47 | 211 => 62 | 207 => 80 | n => n, fun | 9 => 9 | 4 => 4 | 24 => 89 | 3 => 3 | n => n, fun | n => n⟩
theorem Tryz.lays104 : Go.Proofs.Lays.n104 Tryz.prog Tryz.lays104_ren := {
 mixed := by kernel_rfl
 f104 := Tryz.func47.trans (congrArg some (by kernel_rfl))
 f207 := Tryz.func80.trans (congrArg some (by kernel_rfl))
 f211 := Tryz.func62.trans (congrArg some (by kernel_rfl))
 t3 := Tryz.underlying3
 a3 := Tryz.isAgg3
 z3 := Tryz.sizeOf3
 v3 := Tryz.zeroValue3
 t4 := Tryz.underlying4
 a4 := Tryz.isAgg4
 z4 := Tryz.sizeOf4
 v4 := Tryz.zeroValue4
 t9 := Tryz.underlying9
 a9 := Tryz.isAgg9
 z9 := Tryz.sizeOf9
 v9 := Tryz.zeroValue9
 t24 := Tryz.underlying89
 a24 := Tryz.isAgg89
 z24 := Tryz.sizeOf89
 v24 := Tryz.zeroValue89 }
def Tryz.lays100_ren : Go.Shelf.Ren := ⟨fun | 100 => 66 | 207 => 80 | n => n, fun | 9 => 9 | 4 => 4 | 3 => 3 | n => n, fun | n => n⟩
theorem Tryz.lays100 : Go.Proofs.Lays.n100 Tryz.prog Tryz.lays100_ren := {
 mixed := by kernel_rfl
 f100 := Tryz.func66.trans (congrArg some (by kernel_rfl))
 f207 := Tryz.func80.trans (congrArg some (by kernel_rfl))
 t3 := Tryz.underlying3
 a3 := Tryz.isAgg3
 z3 := Tryz.sizeOf3
 v3 := Tryz.zeroValue3
 t4 := Tryz.underlying4
 a4 := Tryz.isAgg4
 z4 := Tryz.sizeOf4
 v4 := Tryz.zeroValue4
 t9 := Tryz.underlying9
 a9 := Tryz.isAgg9
 z9 := Tryz.sizeOf9
 v9 := Tryz.zeroValue9 }
def Tryz.lays137_ren : Go.Shelf.Ren := ⟨fun | 137 => 61 | 217 => 79 | 266 => 94 | n => n, fun | 9 => 9 | 5 => 5 | 3 => 3 | n => n, fun | n => n⟩
theorem Tryz.lays137 : Go.Proofs.Lays.n137 Tryz.prog Tryz.lays137_ren := {
 mixed := by kernel_rfl
 f137 := Tryz.func61.trans (congrArg some (by kernel_rfl))
 f217 := Tryz.func79.trans (congrArg some (by kernel_rfl))
 f266 := Tryz.func94.trans (congrArg some (by kernel_rfl))
 t3 := Tryz.underlying3
 a3 := Tryz.isAgg3
 z3 := Tryz.sizeOf3
 v3 := Tryz.zeroValue3
 t5 := Tryz.underlying5
 a5 := Tryz.isAgg5
 z5 := Tryz.sizeOf5
 v5 := Tryz.zeroValue5
 t9 := Tryz.underlying9
 a9 := Tryz.isAgg9
 z9 := Tryz.sizeOf9
 v9 := Tryz.zeroValue9 }
def Tryz.lays146_ren : Go.Shelf.Ren := ⟨fun | 146 => 48 | 221 => 63 | 268 => 81 | 138 => 82 | 143 => 83 | 195 => 95 | 197 => 87 | 218 => 96 | 219 => 97 | 260 => 100 | 217 => 79 | 225 => 108 | 224 => 109 | 267 => 110 | 266 => 94 | 314 => 119 | n => n, fun | 9 => 9 | 31 => 70 | 3 => 3 | 4 => 4 | 0 => 0 | 105 => 128 | 21 => 21 | 5 => 5 | 46 => 145 | 119 => 153 | 139 => 156 | 138 => 155 | 146 => 159 | 51 => 143 | n => n, fun | 1 => 0 | 3 => 2 | 4 => 3 | n => n⟩
theorem Tryz.lays146 : Go.Proofs.LaysM.n146 Tryz.prog Tryz.lays146_ren := {
 mixed := by kernel_rfl
 f138 := Tryz.func82.trans (congrArg some (by kernel_rfl))
 f143 := Tryz.func83.trans (congrArg some (by kernel_rfl))
 f146 := Tryz.func48.trans (congrArg some (by kernel_rfl))
 f195 := Tryz.func95.trans (congrArg some (by kernel_rfl))
 f197 := Tryz.func87.trans (congrArg some (by kernel_rfl))
 f217 := Tryz.func79.trans (congrArg some (by kernel_rfl))
 f218 := Tryz.func96.trans (congrArg some (by kernel_rfl))
 f219 := Tryz.func97.trans (congrArg some (by kernel_rfl))
 f221 := Tryz.func63.trans (congrArg some (by kernel_rfl))
 f224 := Tryz.func109.trans (congrArg some (by kernel_rfl))
 f225 := Tryz.func108.trans (congrArg some (by kernel_rfl))
 f260 := Tryz.func100.trans (congrArg some (by kernel_rfl))
 f266 := Tryz.func94.trans (congrArg some (by kernel_rfl))
 f267 := Tryz.func110.trans (congrArg some (by kernel_rfl))
 f268 := Tryz.func81.trans (congrArg some (by kernel_rfl))
 f314 := Tryz.func119.trans (congrArg some (by kernel_rfl))
 t0 := Tryz.underlying0
 a0 := Tryz.isAgg0
 z0 := Tryz.sizeOf0
 v0 := Tryz.zeroValue0
 t3 := Tryz.underlying3
 a3 := Tryz.isAgg3
 z3 := Tryz.sizeOf3
 v3 := Tryz.zeroValue3
 t4 := Tryz.underlying4
 a4 := Tryz.isAgg4
 z4 := Tryz.sizeOf4
 v4 := Tryz.zeroValue4
 t5 := Tryz.underlying5
 a5 := Tryz.isAgg5
 z5 := Tryz.sizeOf5
 v5 := Tryz.zeroValue5
 t9 := Tryz.underlying9
 a9 := Tryz.isAgg9
 z9 := Tryz.sizeOf9
 v9 := Tryz.zeroValue9
 t21 := Tryz.underlying21
 a21 := Tryz.isAgg21
 z21 := Tryz.sizeOf21
 v21 := Tryz.zeroValue21
 t31 := Tryz.underlying70
 a31 := Tryz.isAgg70
 z31 := Tryz.sizeOf70
 v31 := Tryz.zeroValue70
 t46 := Tryz.underlying145
 a46 := Tryz.isAgg145
 z46 := Tryz.sizeOf145
 v46 := Tryz.zeroValue145
 t51 := Tryz.underlying143
 a51 := Tryz.isAgg143
 z51 := Tryz.sizeOf143
 v51 := Tryz.zeroValue143
 t105 := Tryz.underlying128
 a105 := Tryz.isAgg128
 z105 := Tryz.sizeOf128
 v105 := Tryz.zeroValue128
 t119 := Tryz.underlying153
 a119 := Tryz.isAgg153
 z119 := Tryz.sizeOf153
 t138 := Tryz.underlying155
 a138 := Tryz.isAgg155
 z138 := Tryz.sizeOf155
 v138 := Tryz.zeroValue155
 t139 := Tryz.underlying156
 a139 := Tryz.isAgg156
 z139 := Tryz.sizeOf156
 v139 := Tryz.zeroValue156
 t146 := Tryz.underlying159
 a146 := Tryz.isAgg159
 z146 := Tryz.sizeOf159
 v146 := Tryz.zeroValue159
 g1 := by kernel_rfl
 g3 := by kernel_rfl
 g4 := by kernel_rfl
 i0 := by kernel_rfl
 i3 := by kernel_rfl
 i4 := by kernel_rfl
 i5 := by kernel_rfl
 i9 := by kernel_rfl
 i21 := by kernel_rfl
 i31 := by kernel_rfl
 i46 := by kernel_rfl
 i51 := by kernel_rfl
 i105 := by kernel_rfl
 i138 := by kernel_rfl
 i139 := by kernel_rfl
 i146 := by kernel_rfl
 m1 := by kernel_rfl
 s1_3 := fun w h => Go.Proofs.cell_of_shapedOpen_int (zero := #[.int .i64 0]) (t := 3) h (zB (by kernel_rfl)) (by kernel_rfl) rfl (by kernel_rfl) (by kernel_rfl) Tryz.underlying3
 m3 := by kernel_rfl
 m4 := by kernel_rfl }
def Tryz.lays172_ren : Go.Shelf.Ren := ⟨fun | 172 => 84 | 244 => 98 | 245 => 99 | 247 => 111 | 279 => 112 | 280 => 113 | 281 => 114 | 282 => 115 | 287 => 120 | 316 => 121 | 171 => 34 | 205 => 122 | 321 => 123 | 322 => 124 | 243 => 58 | 246 => 78 | 283 => 90 | 284 => 91 | 285 => 92 | 286 => 93 | 129 => 104 | 317 => 103 | 318 => 105 | 319 => 106 | 320 => 107 | 337 => 117 | 338 => 118 | n => n, fun | 9 => 9 | 3 => 3 | 75 => 72 | 76 => 73 | 4 => 4 | 5 => 5 | 167 => 147 | 37 => 47 | 0 => 0 | 85 => 148 | 2 => 2 | 168 => 150 | 53 => 132 | 175 => 161 | 46 => 145 | 210 => 165 | 127 => 105 | 145 => 172 | 143 => 170 | 21 => 21 | 171 => 131 | 173 => 135 | 212 => 142 | 51 => 143 | 20 => 20 | 213 => 144 | 232 => 167 | 233 => 168 | 80 => 53 | n => n, fun | 15 => 4 | 16 => 5 | 17 => 1 | 18 => 6 | 19 => 7 | n => n⟩
theorem Tryz.lays172 : Go.Proofs.LaysC.n172 Tryz.prog Tryz.lays172_ren := {
 mixed := by kernel_rfl
 f129 := Tryz.func104.trans (congrArg some (by kernel_rfl))
 f171 := Tryz.func34.trans (congrArg some (by kernel_rfl))
 f172 := Tryz.func84.trans (congrArg some (by kernel_rfl))
 f205 := Tryz.func122.trans (congrArg some (by kernel_rfl))
 f243 := Tryz.func58.trans (congrArg some (by kernel_rfl))
 f244 := Tryz.func98.trans (congrArg some (by kernel_rfl))
 f245 := Tryz.func99.trans (congrArg some (by kernel_rfl))
 f246 := Tryz.func78.trans (congrArg some (by kernel_rfl))
 f247 := Tryz.func111.trans (congrArg some (by kernel_rfl))
 f279 := Tryz.func112.trans (congrArg some (by kernel_rfl))
 f280 := Tryz.func113.trans (congrArg some (by kernel_rfl))
 f281 := Tryz.func114.trans (congrArg some (by kernel_rfl))
 f282 := Tryz.func115.trans (congrArg some (by kernel_rfl))
 f283 := Tryz.func90.trans (congrArg some (by kernel_rfl))
 f284 := Tryz.func91.trans (congrArg some (by kernel_rfl))
 f285 := Tryz.func92.trans (congrArg some (by kernel_rfl))
 f286 := Tryz.func93.trans (congrArg some (by kernel_rfl))
 f287 := Tryz.func120.trans (congrArg some (by kernel_rfl))
 f316 := Tryz.func121.trans (congrArg some (by kernel_rfl))
 f317 := Tryz.func103.trans (congrArg some (by kernel_rfl))
 f318 := Tryz.func105.trans (congrArg some (by kernel_rfl))
 f319 := Tryz.func106.trans (congrArg some (by kernel_rfl))
 f320 := Tryz.func107.trans (congrArg some (by kernel_rfl))
 f321 := Tryz.func123.trans (congrArg some (by kernel_rfl))
 f322 := Tryz.func124.trans (congrArg some (by kernel_rfl))
 f337 := Tryz.func117.trans (congrArg some (by kernel_rfl))
 f338 := Tryz.func118.trans (congrArg some (by kernel_rfl))
 t0 := Tryz.underlying0
 a0 := Tryz.isAgg0
 z0 := Tryz.sizeOf0
 v0 := Tryz.zeroValue0
 t2 := Tryz.underlying2
 a2 := Tryz.isAgg2
 z2 := Tryz.sizeOf2
 v2 := Tryz.zeroValue2
 t3 := Tryz.underlying3
 a3 := Tryz.isAgg3
 z3 := Tryz.sizeOf3
 v3 := Tryz.zeroValue3
 t4 := Tryz.underlying4
 a4 := Tryz.isAgg4
 z4 := Tryz.sizeOf4
 v4 := Tryz.zeroValue4
 t5 := Tryz.underlying5
 a5 := Tryz.isAgg5
 z5 := Tryz.sizeOf5
 v5 := Tryz.zeroValue5
 t9 := Tryz.underlying9
 a9 := Tryz.isAgg9
 z9 := Tryz.sizeOf9
 v9 := Tryz.zeroValue9
 t20 := Tryz.underlying20
 a20 := Tryz.isAgg20
 z20 := Tryz.sizeOf20
 v20 := Tryz.zeroValue20
 t21 := Tryz.underlying21
 a21 := Tryz.isAgg21
 z21 := Tryz.sizeOf21
 v21 := Tryz.zeroValue21
 t37 := Tryz.underlying47
 a37 := Tryz.isAgg47
 z37 := Tryz.sizeOf47
 v37 := Tryz.zeroValue47
 t46 := Tryz.underlying145
 a46 := Tryz.isAgg145
 z46 := Tryz.sizeOf145
 v46 := Tryz.zeroValue145
 t51 := Tryz.underlying143
 a51 := Tryz.isAgg143
 z51 := Tryz.sizeOf143
 v51 := Tryz.zeroValue143
 t53 := Tryz.underlying132
 a53 := Tryz.isAgg132
 z53 := Tryz.sizeOf132
 v53 := Tryz.zeroValue132
 t75 := Tryz.underlying72
 a75 := Tryz.isAgg72
 z75 := Tryz.sizeOf72
 v75 := Tryz.zeroValue72
 t76 := Tryz.underlying73
 a76 := Tryz.isAgg73
 z76 := Tryz.sizeOf73
 v76 := Tryz.zeroValue73
 t85 := Tryz.underlying148
 a85 := Tryz.isAgg148
 z85 := Tryz.sizeOf148
 v85 := Tryz.zeroValue148
 t127 := Tryz.underlying105
 a127 := Tryz.isAgg105
 z127 := Tryz.sizeOf105
 v127 := Tryz.zeroValue105
 t143 := Tryz.underlying170
 a143 := Tryz.isAgg170
 z143 := Tryz.sizeOf170
 v143 := Tryz.zeroValue170
 t145 := Tryz.underlying172
 a145 := Tryz.isAgg172
 z145 := Tryz.sizeOf172
 v145 := Tryz.zeroValue172
 t167 := Tryz.underlying147
 a167 := Tryz.isAgg147
 z167 := Tryz.sizeOf147
 v167 := Tryz.zeroValue147
 t168 := Tryz.underlying150
 a168 := Tryz.isAgg150
 z168 := Tryz.sizeOf150
 v168 := Tryz.zeroValue150
 t171 := Tryz.underlying131
 a171 := Tryz.isAgg131
 z171 := Tryz.sizeOf131
 v171 := Tryz.zeroValue131
 t173 := Tryz.underlying135
 a173 := Tryz.isAgg135
 z173 := Tryz.sizeOf135
 v173 := Tryz.zeroValue135
 t175 := Tryz.underlying161
 a175 := Tryz.isAgg161
 z175 := Tryz.sizeOf161
 v175 := Tryz.zeroValue161
 t210 := Tryz.underlying165
 a210 := Tryz.isAgg165
 z210 := Tryz.sizeOf165
 v210 := Tryz.zeroValue165
 t212 := Tryz.underlying142
 a212 := Tryz.isAgg142
 z212 := Tryz.sizeOf142
 v212 := Tryz.zeroValue142
 t213 := Tryz.underlying144
 a213 := Tryz.isAgg144
 z213 := Tryz.sizeOf144
 t232 := Tryz.underlying167
 a232 := Tryz.isAgg167
 z232 := Tryz.sizeOf167
 v232 := Tryz.zeroValue167
 t233 := Tryz.underlying168
 a233 := Tryz.isAgg168
 z233 := Tryz.sizeOf168
 v233 := Tryz.zeroValue168
 g15 := by kernel_rfl
 g16 := by kernel_rfl
 g17 := by kernel_rfl
 g18 := by kernel_rfl
 g19 := by kernel_rfl
 t80 := Tryz.underlying53
 a80 := Tryz.isAgg53
 z80 := Tryz.sizeOf53
 v80 := Tryz.zeroValue53
 i0 := by kernel_rfl
 i2 := by kernel_rfl
 i3 := by kernel_rfl
 i4 := by kernel_rfl
 i5 := by kernel_rfl
 i9 := by kernel_rfl
 i20 := by kernel_rfl
 i21 := by kernel_rfl
 i37 := by kernel_rfl
 i46 := by kernel_rfl
 i51 := by kernel_rfl
 i53 := by kernel_rfl
 i75 := by kernel_rfl
 i76 := by kernel_rfl
 i80 := by kernel_rfl
 i85 := by kernel_rfl
 i127 := by kernel_rfl
 i143 := by kernel_rfl
 i145 := by kernel_rfl
 i167 := by kernel_rfl
 i168 := by kernel_rfl
 i171 := by kernel_rfl
 i173 := by kernel_rfl
 i175 := by kernel_rfl
 i210 := by kernel_rfl
 i212 := by kernel_rfl
 i232 := by kernel_rfl
 i233 := by kernel_rfl
 m15 := by kernel_rfl
 m16 := by kernel_rfl
 m17 := by kernel_rfl
 m18 := by kernel_rfl
 m19 := by kernel_rfl
 c0 := by kernel_rfl
 c2 := by kernel_rfl
 c3 := by kernel_rfl
 c4 := by kernel_rfl
 c5 := by kernel_rfl
 c9 := by kernel_rfl
 c20 := by kernel_rfl
 c21 := by kernel_rfl
 c37 := by kernel_rfl
 c46 := by kernel_rfl
 c51 := by kernel_rfl
 c53 := by kernel_rfl
 c75 := by kernel_rfl
 c76 := by kernel_rfl
 c80 := by kernel_rfl
 c85 := by kernel_rfl
 c127 := by kernel_rfl
 c143 := by kernel_rfl
 c145 := by kernel_rfl
 c167 := by kernel_rfl
 c168 := by kernel_rfl
 c171 := by kernel_rfl
 c173 := by kernel_rfl
 c175 := by kernel_rfl
 c210 := by kernel_rfl
 c212 := by kernel_rfl
 c213 := by kernel_rfl
 c232 := by kernel_rfl
 c233 := by kernel_rfl }
def Tryz.lays171_ren : Go.Shelf.Ren := ⟨fun | 171 => 34 | 243 => 58 | 246 => 78 | 283 => 90 | 284 => 91 | 285 => 92 | 286 => 93 | 129 => 104 | 317 => 103 | 318 => 105 | 319 => 106 | 320 => 107 | 337 => 117 | 338 => 118 | n => n, fun | 3 => 3 | 9 => 9 | 2 => 2 | 4 => 4 | 171 => 131 | 0 => 0 | 53 => 132 | 37 => 47 | 5 => 5 | 173 => 135 | 212 => 142 | 51 => 143 | 20 => 20 | 213 => 144 | 46 => 145 | 232 => 167 | 233 => 168 | n => n, fun | 17 => 1 | 18 => 6 | 19 => 7 | n => n⟩
theorem Tryz.lays171 : Go.Proofs.LaysM.n171 Tryz.prog Tryz.lays171_ren := {
 mixed := by kernel_rfl
 f129 := Tryz.func104.trans (congrArg some (by kernel_rfl))
 f171 := Tryz.func34.trans (congrArg some (by kernel_rfl))
 f243 := Tryz.func58.trans (congrArg some (by kernel_rfl))
 f246 := Tryz.func78.trans (congrArg some (by kernel_rfl))
 f283 := Tryz.func90.trans (congrArg some (by kernel_rfl))
 f284 := Tryz.func91.trans (congrArg some (by kernel_rfl))
 f285 := Tryz.func92.trans (congrArg some (by kernel_rfl))
 f286 := Tryz.func93.trans (congrArg some (by kernel_rfl))
 f317 := Tryz.func103.trans (congrArg some (by kernel_rfl))
 f318 := Tryz.func105.trans (congrArg some (by kernel_rfl))
 f319 := Tryz.func106.trans (congrArg some (by kernel_rfl))
 f320 := Tryz.func107.trans (congrArg some (by kernel_rfl))
 f337 := Tryz.func117.trans (congrArg some (by kernel_rfl))
 f338 := Tryz.func118.trans (congrArg some (by kernel_rfl))
 t0 := Tryz.underlying0
 a0 := Tryz.isAgg0
 z0 := Tryz.sizeOf0
 v0 := Tryz.zeroValue0
 t2 := Tryz.underlying2
 a2 := Tryz.isAgg2
 z2 := Tryz.sizeOf2
 v2 := Tryz.zeroValue2
 t3 := Tryz.underlying3
 a3 := Tryz.isAgg3
 z3 := Tryz.sizeOf3
 v3 := Tryz.zeroValue3
 t4 := Tryz.underlying4
 a4 := Tryz.isAgg4
 z4 := Tryz.sizeOf4
 v4 := Tryz.zeroValue4
 t5 := Tryz.underlying5
 a5 := Tryz.isAgg5
 z5 := Tryz.sizeOf5
 v5 := Tryz.zeroValue5
 t9 := Tryz.underlying9
 a9 := Tryz.isAgg9
 z9 := Tryz.sizeOf9
 v9 := Tryz.zeroValue9
 t20 := Tryz.underlying20
 a20 := Tryz.isAgg20
 z20 := Tryz.sizeOf20
 v20 := Tryz.zeroValue20
 t37 := Tryz.underlying47
 a37 := Tryz.isAgg47
 z37 := Tryz.sizeOf47
 v37 := Tryz.zeroValue47
 t46 := Tryz.underlying145
 a46 := Tryz.isAgg145
 z46 := Tryz.sizeOf145
 v46 := Tryz.zeroValue145
 t51 := Tryz.underlying143
 a51 := Tryz.isAgg143
 z51 := Tryz.sizeOf143
 v51 := Tryz.zeroValue143
 t53 := Tryz.underlying132
 a53 := Tryz.isAgg132
 z53 := Tryz.sizeOf132
 v53 := Tryz.zeroValue132
 t171 := Tryz.underlying131
 a171 := Tryz.isAgg131
 z171 := Tryz.sizeOf131
 v171 := Tryz.zeroValue131
 t173 := Tryz.underlying135
 a173 := Tryz.isAgg135
 z173 := Tryz.sizeOf135
 v173 := Tryz.zeroValue135
 t212 := Tryz.underlying142
 a212 := Tryz.isAgg142
 z212 := Tryz.sizeOf142
 v212 := Tryz.zeroValue142
 t213 := Tryz.underlying144
 a213 := Tryz.isAgg144
 z213 := Tryz.sizeOf144
 t232 := Tryz.underlying167
 a232 := Tryz.isAgg167
 z232 := Tryz.sizeOf167
 v232 := Tryz.zeroValue167
 t233 := Tryz.underlying168
 a233 := Tryz.isAgg168
 z233 := Tryz.sizeOf168
 v233 := Tryz.zeroValue168
 g17 := by kernel_rfl
 g18 := by kernel_rfl
 g19 := by kernel_rfl
 i0 := by kernel_rfl
 i2 := by kernel_rfl
 i3 := by kernel_rfl
 i4 := by kernel_rfl
 i5 := by kernel_rfl
 i9 := by kernel_rfl
 i20 := by kernel_rfl
 i37 := by kernel_rfl
 i46 := by kernel_rfl
 i51 := by kernel_rfl
 i53 := by kernel_rfl
 i171 := by kernel_rfl
 i173 := by kernel_rfl
 i212 := by kernel_rfl
 i232 := by kernel_rfl
 i233 := by kernel_rfl
 m17 := by kernel_rfl
 m18 := by kernel_rfl
 m19 := by kernel_rfl }
end Go.Proofs
namespace Go.Proofs.YtniknpjeknmpjaaGreatDoor.Q
open Go.RowKit Go.Shelf Go.Proofs.YtniknpjeknmpjaaGreatDoorW.PrintWords Go.Proofs.YtniknpjeknmpjaaGreatDoorW.PrintLast Go.Proofs.YtniknpjeknmpjaaGreatDoorW.PrintMore
set_option linter.unusedVariables false
theorem var_below {P : Program} {w w1 : World} {n : String} {cs : Array Value} (h : w.var? P n = some cs) (hb : Below w.heap.size w w1) : w1.var? P n = some cs := by
 unfold World.var? at *
 cases hg : P.globalNamed n with
 | none => rw [hg] at h; simp at h
 | some g =>
  rw [hg] at h
  simp only [zJ] at h ⊢
  cases hk : w.heap[g]? with
  | none => rw [hk] at h; simp at h
  | some o => rw [hb.block g (Array.getElem?_eq_some_iff.1 hk).1]; exact h
structure LaidW (w : World) : Prop where
 tab : Lib.TabIs Tryz.prog w "internal/strconv.uint64pow10" .u64 Lib.pow10Tab
 syn : ∃ tp p, w.var? Tryz.prog "strconv.ErrSyntax" = some #[.iface tp p]
 rng : ∃ tp p, w.var? Tryz.prog "strconv.ErrRange" = some #[.iface tp p]
theorem LaidW.below {w w1 : World} (h : LaidW w) (hb : Below w.heap.size w w1) : LaidW w1 := by
 obtain ⟨h1, ⟨t1, p1, h2⟩, t2, p2, h3⟩ := h
 exact ⟨var_below h1 hb, ⟨t1, p1, var_below h2 hb⟩, t2, p2, var_below h3 hb⟩
theorem LaidW.alloc {w : World} (h : LaidW w) (o : Obj) : LaidW (w.alloc o) := h.below (below_alloc (Below.refl _ _) o)
theorem LaidW.drewN {w : World} (h : LaidW w) (n : Nat) : LaidW (w.drewN n) := h.below (pw_below_drewN (Below.refl _ _) n)
theorem LaidW.drew {w : World} (h : LaidW w) : LaidW w.drew := h.below (below_drew (Below.refl _ _))
theorem star_name : "*" ++ "errors.errorString" = "*errors.errorString" := by decide
theorem row_err (u : TypeId) (h : Tryz.prog.typeName? 3 u = some "*errors.errorString") : u = 170 :=
 typeName_ptr_named (nm := "errors.errorString") (by rw [star_name]; kernel_rfl) (by kernel_rfl) (by decide) u (by rw [star_name]; exact h)
theorem err_of {n : String} {text : List UInt8} {r : List (String × DataW Unit)} {W : World} {g : Nat}
 (h : laidMet Tryz.prog ((n, .iface "*errors.errorString" (.ptr (.agg [.lit (.string text)]))) :: r) W) (hg : Tryz.prog.globalNamed n = some g) (ht : (Tryz.prog.globals[g]?).map (·.type) = some 72) :
 ∃ tp p, W.var? Tryz.prog n = some #[.iface tp p] := by
 obtain ⟨a0, s0, hv0, -, -, -⟩ := laid_sentinel h hg ht Tryz.underlying72 row_err Tryz.underlying170 Tryz.underlying172 rfl rfl Tryz.underlying9 (by kernel_rfl) (by kernel_rfl)
 exact ⟨_, _, hv0⟩
def laidList : List (String × DataW Unit) := [("math/bits.deBruijn32tab", Rows.laid_math_bits_deBruijn32tab), ("math/bits.deBruijn64tab", Rows.laid_math_bits_deBruijn64tab), ("internal/strconv.uint64pow10", Rows.laid_internal_strconv_uint64pow10), ("unicode/utf8.acceptRanges", Rows.laid_unicode_utf8_acceptRanges), ("strconv.ErrRange", Rows.laid_strconv_ErrRange), ("strconv.ErrSyntax", Rows.laid_strconv_ErrSyntax), ("unicode/utf8.first", Rows.laid_unicode_utf8_first)]
theorem LaidW.of_met {W : World} (h : laidMet Tryz.prog laidList W) : LaidW W := by
 have h2 := laidMet.tail (laidMet.tail h)
 have h4 := laidMet.tail (laidMet.tail h2)
 have h5 := laidMet.tail h4
 exact ⟨Lib.tabIs_of_head (g := 1) (by kernel_rfl) (by kernel_rfl) Tryz.underlying142 Tryz.underlying132 (by kernel_rfl) (by kernel_rfl) h2,
  err_of h5 (g := 4) (by kernel_rfl) (by kernel_rfl), err_of h4 (g := 5) (by kernel_rfl) (by kernel_rfl)⟩
def strconv_Itoa_34.f (a0 : Int) : Option ByteArray := if -9223372036854775808 ≤ a0 ∧ a0 ≤ 9223372036854775807 then some ⟨(Lib.itoa a0).toArray⟩ else none
theorem strconv_Itoa_34.calls (a0 : Int) (r : ByteArray) (w : World) (hL : LaidW w) (h : strconv_Itoa_34.f a0 = some r) :
 Calls Tryz.prog 34 #[.int .i64 a0] w fun e w' => e = .returned (.string r) ∧ Below w.heap.size w w' := by
 unfold strconv_Itoa_34.f at h
 split at h
 ·next c =>
  obtain rfl := zI h
  refine (Any.strconv_Itoa Tryz.lays171 a0 c.1 c.2 w hL.tab).mono ?_
  rintro e w' ⟨rfl, k, os, rfl⟩
  exact ⟨rfl, below_regrown w (w.drawn + k) os⟩
 ·cases h
end Go.Proofs.YtniknpjeknmpjaaGreatDoor.Q
namespace Go.Proofs.YtniknpjeknmpjaaGreatDoor.Q
open Go.RowKit Go.Proofs.YtniknpjeknmpjaaGreatDoorW.PrintWords Go.Proofs.YtniknpjeknmpjaaGreatDoorW.PrintLast Go.Proofs.YtniknpjeknmpjaaGreatDoorW.PrintMore
attribute [local go_sem] max2_int min2_int max_two min_two max_three min_three max_four min_four
set_option linter.unusedVariables false
set_option linter.unusedSimpArgs false

mutual
def cubbylaw08_heavy.l0 : Nat → List (List (SIns)) → Int → Int → Option (Bool)
 | 0, _, _, _ => none
 | k + 1, x0, x3, x4 => if x4 < (x0.length : Int) then (cubbylaw08_heavy.j1 k x0 x3 x4 (decide (x3 ≤ 300))) else (cubbylaw08_heavy.j1 k x0 x3 x4 false)
def cubbylaw08_heavy.j1 : Nat → List (List (SIns)) → Int → Int → Bool → Option (Bool)
 | 0, _, _, _, _ => none
 | k + 1, x0, x3, x4, x16 => if x16 = true then (if 0 ≤ x4 then (if x4 < (x0.length : Int) then (cubbylaw08_heavy.l1 k x0 (wrap64 (x3 + (mn ((rd_LIns x0 x4).length : Int) 1048576))) x4 0) else (none)) else (none)) else (some (decide (x3 > 300)))
def cubbylaw08_heavy.l1 : Nat → List (List (SIns)) → Int → Int → Int → Option (Bool)
 | 0, _, _, _, _ => none
 | k + 1, x0, x3, x4, x5 => if 0 ≤ x4 then (if x4 < (x0.length : Int) then (if x5 < ((rd_LIns x0 x4).length : Int) then (cubbylaw08_heavy.j3 k x0 x3 x4 x5 (decide (x5 ≤ 300))) else (cubbylaw08_heavy.j3 k x0 x3 x4 x5 false)) else (none)) else (none)
def cubbylaw08_heavy.j3 : Nat → List (List (SIns)) → Int → Int → Int → Bool → Option (Bool)
 | 0, _, _, _, _, _ => none
 | k + 1, x0, x3, x4, x5, x37 => if x37 = true then (if 0 ≤ x4 then (if x4 < (x0.length : Int) then (if 0 ≤ x5 then (if x5 < ((rd_LIns x0 x4).length : Int) then (if (((rd_TIns (rd_LIns x0 x4) x5).f5).length : Int) > 20 then (some true) else (if (((rd_TIns (rd_LIns x0 x4) x5).f4).size : Int) > 256 then (some true) else (cubbylaw08_heavy.l1 k x0 x3 x4 (wrap64 (x5 + 1))))) else (none)) else (none)) else (none)) else (none)) else (cubbylaw08_heavy.l0 k x0 x3 (wrap64 (x4 + 1)))
end
def cubbylaw08_heavy.f (k : Nat) (l0 : List (List (SIns))) : Option (Bool) := if (l0.length : Int) > 50 then (some true) else (cubbylaw08_heavy.l0 k l0 0 0)
set_option maxHeartbeats 8000000 in
set_option maxRecDepth 100000 in
theorem cubbylaw08_heavy.calls (k : Nat) (A0 : Option Addr) (c0 : Nat) (l0 : List (List (SIns))) (r : Bool) (w : World) (hr0 : Kd.C (Kd.slice 44 kIns) w A0 l0.length l0) (hc0 : l0.length ≤ c0) (h : cubbylaw08_heavy.f k l0 = some r) :
 Calls Tryz.prog 6 #[.slice A0 l0.length c0] w fun e w' => e = .returned (.bool r) ∧ Below w.heap.size w w' := by
 have HR0 := zA hr0
 have HC0 := zA hc0
 clear hr0 hc0
 have HB := zA (Below.refl w.heap.size w)
 have H := h; clear h; unfold cubbylaw08_heavy.f at H
 by_cases c2 : (l0.length : Int) > 50
 ·rw [zC c2] at H
  have c2b0 : decide (50 < (l0.length : Int)) = true := zF c2
  have c2b1 : decide (50 < l0.length) = true := zF (by omega)
  clear c2
  obtain rfl := zI H
  go_enter Tryz.func6, Tryz.ntmps6
  go_wp2
  go_ret
  exact ⟨qE, qB⟩
 ·rw [zD c2] at H
  have c2b0 : decide (50 < (l0.length : Int)) = false := zG c2
  have c2b1 : decide (50 < l0.length) = false := zG (by omega)
  clear c2
  have H' := zA H
  clear H
  go_enter Tryz.func6, Tryz.ntmps6
  go_wp2
  go_loopg [3, 4] k (fun kq v3 v4 w' => ∃ (x3_1 : Int) (x4_1 : Int), v3 = .int .i64 x3_1 ∧ v4 = .int .i64 x4_1 ∧ Aside0 (cubbylaw08_heavy.l0 kq l0 x3_1 x4_1 = some r) ∧ Aside0 (kq ≤ k) ∧ Aside0 (Below w.heap.size w w'))
  case atStart => exact ⟨(0), (0), qT, qT, H', ⟨Nat.le_refl _⟩, ⟨qB⟩⟩
  case round =>
   clear H'
   try clear c2b0 c2b1; try clear p2
   obtain ⟨x3_1, x4_1, rfl, rfl, HA, HK1, HB⟩ := hrel
   cases gk with
   | zero => exact absurd HA.out (by simp [cubbylaw08_heavy.l0])
   | succ k1 =>
    have H := HA.out
    clear HA
    simp only [cubbylaw08_heavy.l0] at H
    have HC3 := zA H
    clear H
    go_upto_region 5 with (fail)
    go_cut [16] (fun v16 wc => ∃ (kq : Nat) (x16_2 : Bool), v16 = .bool x16_2 ∧ Aside0 (cubbylaw08_heavy.j1 kq l0 x3_1 x4_1 x16_2 = some r) ∧ Aside0 (kq ≤ k1) ∧ Aside0 (Below w.heap.size w wc))
    case first =>
     have H := HC3.out
     clear HC3
     by_cases c4 : x4_1 < (l0.length : Int)
     ·rw [zC c4] at H
      have c4b0 := zF c4
      clear c4
      (first | rw [c4b0] | (simp only [i64_w, i32_w]; rw [c4b0]) | skip)
      have H' := zA H
      clear H
      go_wp2
      go_meet
      case rel => exact ⟨_, (decide (x3_1 ≤ 300)), qT, H', ⟨by have := HK1.out; first | omega | exact Nat.le_refl _⟩, ⟨qB⟩⟩
     ·rw [zD c4] at H
      have c4b0 := zG c4
      clear c4
      (first | rw [c4b0] | (simp only [i64_w, i32_w]; rw [c4b0]) | skip)
      have H' := zA H
      clear H
      go_wp2
      go_meet
      case rel => exact ⟨_, (false), qT, H', ⟨by have := HK1.out; first | omega | exact Nat.le_refl _⟩, ⟨qB⟩⟩
    case rest =>
     clear HC3
     try clear c2b0 c2b1; try clear p2; try clear c4; try clear c4b0
     obtain ⟨kq, x16_2, rfl, HA, HJ2, HB⟩ := hcut
     cases kq with
     | zero => exact absurd HA.out (by simp [cubbylaw08_heavy.j1])
     | succ kj2 =>
      have H := HA.out
      clear HA
      simp only [cubbylaw08_heavy.j1] at H
      by_cases c5 : x16_2 = true
      ·subst c5
       have H1 : (if 0 ≤ x4_1 then (if x4_1 < (l0.length : Int) then (cubbylaw08_heavy.l1 kj2 l0 (wrap64 (x3_1 + (mn ((rd_LIns l0 x4_1).length : Int) 1048576))) x4_1 0) else (none)) else (none)) = some r := by rw [zC rfl] at H; exact H
       clear H
       have H := H1
       clear H1
       by_cases c6 : 0 ≤ x4_1
       ·rw [zC c6] at H
        have c6b0 := zF c6
        clear c6
        by_cases c7 : x4_1 < (l0.length : Int)
        ·rw [zC c7] at H
         have c7b0 := zF c7
         clear c7
         obtain ⟨ji8, hji8⟩ : ∃ j_ : Int, (mn ((rd_LIns l0 x4_1).length : Int) 1048576) = j_ := ⟨_, rfl⟩
         replace H : (cubbylaw08_heavy.l1 kj2 l0 (wrap64 (x3_1 + (ji8))) x4_1 0) = some r := by first | (rw [hji8] at H; exact H) | (simp only [hji8] at H ⊢; exact H)
         have hji8_ : (if 1048576 < ((rd_LIns l0 x4_1).length : Int) then 1048576 else ((rd_LIns l0 x4_1).length : Int)) = ji8 := hji8
         have H' := zA H
         clear H
         have p101 : 0 ≤ (x4_1 : Int) := zB qA
         have q101 : x4_1 < (l0.length : Int) := zB qA
         obtain ⟨ad101, A101_0, c101_0, e101, hx101_0, hl101_0, hi101_0⟩ := at_LIns HR0.out x4_1 p101 q101
         cases e101
         replace hx101_0 := (HB.out.cell (zE w _ hx101_0)).trans hx101_0
         have HR101_0 := zA hi101_0
         have HC101_0 := zA hl101_0
         clear hi101_0 hl101_0
         replace p101 := eq_true p101
         replace q101 := eq_true q101
         go_wp2
         go_loopg [5] kj2 (fun kq v5 w' => ∃ (x5_3 : Int), v5 = .int .i64 x5_3 ∧ Aside0 (cubbylaw08_heavy.l1 kq l0 (wrap64 (x3_1 + (ji8))) x4_1 x5_3 = some r) ∧ Aside0 (kq ≤ kj2) ∧ Aside0 (Below w.heap.size w w'))
         case atStart => exact ⟨(0), qT, H', ⟨Nat.le_refl _⟩, ⟨qB⟩⟩
         case round =>
          clear H'
          try clear c1; try clear p1; try clear q1; try clear hx1; try clear c2b0 c2b1; try clear p2; try clear c4; try clear c4b0; try clear c5; try clear c6b0; try clear p6; try clear c7b0; try clear hx101_0; try clear p101; try clear q101
          obtain ⟨x5_3, rfl, HA, HK3, HB⟩ := hrel
          cases gk with
          | zero => exact absurd HA.out (by simp [cubbylaw08_heavy.l1])
          | succ k3 =>
           have H := HA.out
           clear HA
           simp only [cubbylaw08_heavy.l1] at H
           have HC9 := zA H
           clear H
           go_upto_region 9 with (fail)
           go_cut [37] (fun v37 wc => ∃ (kq : Nat) (x37_8 : Bool), v37 = .bool x37_8 ∧ Aside0 (cubbylaw08_heavy.j3 kq l0 (wrap64 (x3_1 + (ji8))) x4_1 x5_3 x37_8 = some r) ∧ Aside0 (kq ≤ k3) ∧ Aside0 (Below w.heap.size w wc))
           case first =>
            have H := HC9.out
            clear HC9
            by_cases c10 : 0 ≤ x4_1
            ·rw [zC c10] at H
             have c10b0 := zF c10
             clear c10
             (first | rw [c10b0] | (simp only [i64_w, i32_w]; rw [c10b0]) | skip)
             by_cases c11 : x4_1 < (l0.length : Int)
             ·rw [zC c11] at H
              have c11b0 := zF c11
              clear c11
              by_cases c12 : x5_3 < ((rd_LIns l0 x4_1).length : Int)
              ·rw [zC c12] at H
               have c12b0 := zF c12
               clear c12
               have H' := zA H
               clear H
               have p102 : 0 ≤ (x4_1 : Int) := zB qA
               have q102 : x4_1 < (l0.length : Int) := zB qA
               obtain ⟨ad102, A102_0, c102_0, e102, hx102_0, hl102_0, hi102_0⟩ := at_LIns HR0.out x4_1 p102 q102
               obtain rfl : ad101 = ad102 := (by injection e102)
               replace hx102_0 := (HB.out.cell (zE w _ hx102_0)).trans hx102_0
               have HR102_0 := zA hi102_0
               have HC102_0 := zA hl102_0
               clear hi102_0 hl102_0
               replace p102 := eq_true p102
               replace q102 := eq_true q102
               go_wp2
               go_meet
               case rel => exact ⟨_, (decide (x5_3 ≤ 300)), qT, H', ⟨by have := HK1.out; have := HJ2.out; have := HK3.out; first | omega | exact Nat.le_refl _⟩, ⟨qB⟩⟩
              ·rw [zD c12] at H
               have c12b0 := zG c12
               clear c12
               have H' := zA H
               clear H
               have p102 : 0 ≤ (x4_1 : Int) := zB qA
               have q102 : x4_1 < (l0.length : Int) := zB qA
               obtain ⟨ad102, A102_0, c102_0, e102, hx102_0, hl102_0, hi102_0⟩ := at_LIns HR0.out x4_1 p102 q102
               obtain rfl : ad101 = ad102 := (by injection e102)
               replace hx102_0 := (HB.out.cell (zE w _ hx102_0)).trans hx102_0
               have HR102_0 := zA hi102_0
               have HC102_0 := zA hl102_0
               clear hi102_0 hl102_0
               replace p102 := eq_true p102
               replace q102 := eq_true q102
               go_wp2
               go_meet
               case rel => exact ⟨_, (false), qT, H', ⟨by have := HK1.out; have := HJ2.out; have := HK3.out; first | omega | exact Nat.le_refl _⟩, ⟨qB⟩⟩
             ·rw [zD c11] at H
              exact absurd H (by simp)
            ·rw [zD c10] at H
             exact absurd H (by simp)
           case rest =>
            clear HC9
            try clear c1; try clear p1; try clear q1; try clear hx1; try clear c2b0 c2b1; try clear p2; try clear c4; try clear c4b0; try clear c5; try clear c6b0; try clear p6; try clear c7b0; try clear c10; try clear c10b0; try clear p10; try clear q10; try clear hx10; try clear c11; try clear c11b0; try clear c12; try clear c12b0; try clear hx101_0; try clear hx102_0; try clear p101; try clear p102; try clear q101; try clear q102
            obtain ⟨kq, x37_8, rfl, HA, HJ8, HB⟩ := hcut
            cases kq with
            | zero => exact absurd HA.out (by simp [cubbylaw08_heavy.j3])
            | succ kj8 =>
             have H := HA.out
             clear HA
             simp only [cubbylaw08_heavy.j3] at H
             by_cases c13 : x37_8 = true
             ·subst c13
              have H1 : (if 0 ≤ x4_1 then (if x4_1 < (l0.length : Int) then (if 0 ≤ x5_3 then (if x5_3 < ((rd_LIns l0 x4_1).length : Int) then (if (((rd_TIns (rd_LIns l0 x4_1) x5_3).f5).length : Int) > 20 then (some true) else (if (((rd_TIns (rd_LIns l0 x4_1) x5_3).f4).size : Int) > 256 then (some true) else (cubbylaw08_heavy.l1 kj8 l0 (wrap64 (x3_1 + (ji8))) x4_1 (wrap64 (x5_3 + 1))))) else (none)) else (none)) else (none)) else (none)) = some r := by rw [zC rfl] at H; exact H
              clear H
              have H := H1
              clear H1
              by_cases c14 : 0 ≤ x4_1
              ·rw [zC c14] at H
               have c14b0 := zF c14
               clear c14
               by_cases c15 : x4_1 < (l0.length : Int)
               ·rw [zC c15] at H
                have c15b0 := zF c15
                clear c15
                by_cases c16 : 0 ≤ x5_3
                ·rw [zC c16] at H
                 have c16b0 := zF c16
                 clear c16
                 by_cases c17 : x5_3 < ((rd_LIns l0 x4_1).length : Int)
                 ·rw [zC c17] at H
                  have c17b0 := zF c17
                  clear c17
                  by_cases c18 : (((rd_TIns (rd_LIns l0 x4_1) x5_3).f5).length : Int) > 20
                  ·rw [zC c18] at H
                   have c18b0 : decide (20 < (((rd_TIns (rd_LIns l0 x4_1) x5_3).f5).length : Int)) = true := zF c18
                   have c18b1 : decide (20 < ((rd_TIns (rd_LIns l0 x4_1) x5_3).f5).length) = true := zF (by omega)
                   clear c18
                   obtain rfl := zI H
                   have p103 : 0 ≤ (x4_1 : Int) := zB qA
                   have q103 : x4_1 < (l0.length : Int) := zB qA
                   obtain ⟨ad103, A103_0, c103_0, e103, hx103_0, hl103_0, hi103_0⟩ := at_LIns HR0.out x4_1 p103 q103
                   obtain rfl : ad101 = ad103 := (by injection e103)
                   replace hx103_0 := (HB.out.cell (zE w _ hx103_0)).trans hx103_0
                   have HR103_0 := zA hi103_0
                   have HC103_0 := zA hl103_0
                   clear hi103_0 hl103_0
                   replace p103 := eq_true p103
                   replace q103 := eq_true q103
                   have p104 : 0 ≤ (x5_3 : Int) := zB qA
                   have q104 : x5_3 < ((rd_LIns l0 x4_1).length : Int) := zB qA
                   obtain ⟨ad104, A104_5, c104_5, e104, hx104_0, hx104_1, hx104_2, hx104_3, hx104_4, hx104_5, hl104_5, hi104_5⟩ := at_TIns HR103_0.out x5_3 p104 q104
                   cases e104
                   replace hx104_0 := (HB.out.cell (zE w _ hx104_0)).trans hx104_0
                   replace hx104_1 := (HB.out.cell (zE w _ hx104_1)).trans hx104_1
                   replace hx104_2 := (HB.out.cell (zE w _ hx104_2)).trans hx104_2
                   replace hx104_3 := (HB.out.cell (zE w _ hx104_3)).trans hx104_3
                   replace hx104_4 := (HB.out.cell (zE w _ hx104_4)).trans hx104_4
                   replace hx104_5 := (HB.out.cell (zE w _ hx104_5)).trans hx104_5
                   have HR104_5 := zA hi104_5
                   have HC104_5 := zA hl104_5
                   clear hi104_5 hl104_5
                   replace p104 := eq_true p104
                   replace q104 := eq_true q104
                   go_wp2
                   go_ret
                   exact ⟨by first | rfl | (simp [errW_none, errW_some] <;> rfl) | (simp only [← hji8]; first | rfl | (simp [errW_none, errW_some] <;> rfl)) | (simp [*, errW_none, errW_some] <;> rfl), qB⟩
                  ·rw [zD c18] at H
                   have c18b0 : decide (20 < (((rd_TIns (rd_LIns l0 x4_1) x5_3).f5).length : Int)) = false := zG c18
                   have c18b1 : decide (20 < ((rd_TIns (rd_LIns l0 x4_1) x5_3).f5).length) = false := zG (by omega)
                   clear c18
                   by_cases c19 : (((rd_TIns (rd_LIns l0 x4_1) x5_3).f4).size : Int) > 256
                   ·rw [zC c19] at H
                    have c19b0 : decide (256 < (((rd_TIns (rd_LIns l0 x4_1) x5_3).f4).size : Int)) = true := zF c19
                    have c19b1 : decide (256 < ((rd_TIns (rd_LIns l0 x4_1) x5_3).f4).size) = true := zF (by omega)
                    clear c19
                    obtain rfl := zI H
                    have p103 : 0 ≤ (x4_1 : Int) := zB qA
                    have q103 : x4_1 < (l0.length : Int) := zB qA
                    obtain ⟨ad103, A103_0, c103_0, e103, hx103_0, hl103_0, hi103_0⟩ := at_LIns HR0.out x4_1 p103 q103
                    obtain rfl : ad101 = ad103 := (by injection e103)
                    replace hx103_0 := (HB.out.cell (zE w _ hx103_0)).trans hx103_0
                    have HR103_0 := zA hi103_0
                    have HC103_0 := zA hl103_0
                    clear hi103_0 hl103_0
                    replace p103 := eq_true p103
                    replace q103 := eq_true q103
                    have p104 : 0 ≤ (x5_3 : Int) := zB qA
                    have q104 : x5_3 < ((rd_LIns l0 x4_1).length : Int) := zB qA
                    obtain ⟨ad104, A104_5, c104_5, e104, hx104_0, hx104_1, hx104_2, hx104_3, hx104_4, hx104_5, hl104_5, hi104_5⟩ := at_TIns HR103_0.out x5_3 p104 q104
                    cases e104
                    replace hx104_0 := (HB.out.cell (zE w _ hx104_0)).trans hx104_0
                    replace hx104_1 := (HB.out.cell (zE w _ hx104_1)).trans hx104_1
                    replace hx104_2 := (HB.out.cell (zE w _ hx104_2)).trans hx104_2
                    replace hx104_3 := (HB.out.cell (zE w _ hx104_3)).trans hx104_3
                    replace hx104_4 := (HB.out.cell (zE w _ hx104_4)).trans hx104_4
                    replace hx104_5 := (HB.out.cell (zE w _ hx104_5)).trans hx104_5
                    have HR104_5 := zA hi104_5
                    have HC104_5 := zA hl104_5
                    clear hi104_5 hl104_5
                    replace p104 := eq_true p104
                    replace q104 := eq_true q104
                    have p105 : 0 ≤ (x4_1 : Int) := zB qA
                    have q105 : x4_1 < (l0.length : Int) := zB qA
                    obtain ⟨ad105, A105_0, c105_0, e105, hx105_0, hl105_0, hi105_0⟩ := at_LIns HR0.out x4_1 p105 q105
                    obtain rfl : ad101 = ad105 := (by injection e105)
                    replace hx105_0 := (HB.out.cell (zE w _ hx105_0)).trans hx105_0
                    have HR105_0 := zA hi105_0
                    have HC105_0 := zA hl105_0
                    clear hi105_0 hl105_0
                    replace p105 := eq_true p105
                    replace q105 := eq_true q105
                    have ea_ := zI (hx103_0.symm.trans hx105_0)
                    injection ea_ with ea_ en_ ec_
                    subst ea_
                    subst ec_
                    clear en_
                    have p106 : 0 ≤ (x5_3 : Int) := zB qA
                    have q106 : x5_3 < ((rd_LIns l0 x4_1).length : Int) := zB qA
                    obtain ⟨ad106, A106_5, c106_5, e106, hx106_0, hx106_1, hx106_2, hx106_3, hx106_4, hx106_5, hl106_5, hi106_5⟩ := at_TIns HR105_0.out x5_3 p106 q106
                    cases e106
                    replace hx106_0 := (HB.out.cell (zE w _ hx106_0)).trans hx106_0
                    replace hx106_1 := (HB.out.cell (zE w _ hx106_1)).trans hx106_1
                    replace hx106_2 := (HB.out.cell (zE w _ hx106_2)).trans hx106_2
                    replace hx106_3 := (HB.out.cell (zE w _ hx106_3)).trans hx106_3
                    replace hx106_4 := (HB.out.cell (zE w _ hx106_4)).trans hx106_4
                    replace hx106_5 := (HB.out.cell (zE w _ hx106_5)).trans hx106_5
                    have HR106_5 := zA hi106_5
                    have HC106_5 := zA hl106_5
                    clear hi106_5 hl106_5
                    replace p106 := eq_true p106
                    replace q106 := eq_true q106
                    go_wp2
                    go_ret
                    exact ⟨by first | rfl | (simp [errW_none, errW_some] <;> rfl) | (simp only [← hji8]; first | rfl | (simp [errW_none, errW_some] <;> rfl)) | (simp [*, errW_none, errW_some] <;> rfl), qB⟩
                   ·rw [zD c19] at H
                    have c19b0 : decide (256 < (((rd_TIns (rd_LIns l0 x4_1) x5_3).f4).size : Int)) = false := zG c19
                    have c19b1 : decide (256 < ((rd_TIns (rd_LIns l0 x4_1) x5_3).f4).size) = false := zG (by omega)
                    clear c19
                    have H' := zA H
                    clear H
                    have p103 : 0 ≤ (x4_1 : Int) := zB qA
                    have q103 : x4_1 < (l0.length : Int) := zB qA
                    obtain ⟨ad103, A103_0, c103_0, e103, hx103_0, hl103_0, hi103_0⟩ := at_LIns HR0.out x4_1 p103 q103
                    obtain rfl : ad101 = ad103 := (by injection e103)
                    replace hx103_0 := (HB.out.cell (zE w _ hx103_0)).trans hx103_0
                    have HR103_0 := zA hi103_0
                    have HC103_0 := zA hl103_0
                    clear hi103_0 hl103_0
                    replace p103 := eq_true p103
                    replace q103 := eq_true q103
                    have p104 : 0 ≤ (x5_3 : Int) := zB qA
                    have q104 : x5_3 < ((rd_LIns l0 x4_1).length : Int) := zB qA
                    obtain ⟨ad104, A104_5, c104_5, e104, hx104_0, hx104_1, hx104_2, hx104_3, hx104_4, hx104_5, hl104_5, hi104_5⟩ := at_TIns HR103_0.out x5_3 p104 q104
                    cases e104
                    replace hx104_0 := (HB.out.cell (zE w _ hx104_0)).trans hx104_0
                    replace hx104_1 := (HB.out.cell (zE w _ hx104_1)).trans hx104_1
                    replace hx104_2 := (HB.out.cell (zE w _ hx104_2)).trans hx104_2
                    replace hx104_3 := (HB.out.cell (zE w _ hx104_3)).trans hx104_3
                    replace hx104_4 := (HB.out.cell (zE w _ hx104_4)).trans hx104_4
                    replace hx104_5 := (HB.out.cell (zE w _ hx104_5)).trans hx104_5
                    have HR104_5 := zA hi104_5
                    have HC104_5 := zA hl104_5
                    clear hi104_5 hl104_5
                    replace p104 := eq_true p104
                    replace q104 := eq_true q104
                    have p105 : 0 ≤ (x4_1 : Int) := zB qA
                    have q105 : x4_1 < (l0.length : Int) := zB qA
                    obtain ⟨ad105, A105_0, c105_0, e105, hx105_0, hl105_0, hi105_0⟩ := at_LIns HR0.out x4_1 p105 q105
                    obtain rfl : ad101 = ad105 := (by injection e105)
                    replace hx105_0 := (HB.out.cell (zE w _ hx105_0)).trans hx105_0
                    have HR105_0 := zA hi105_0
                    have HC105_0 := zA hl105_0
                    clear hi105_0 hl105_0
                    replace p105 := eq_true p105
                    replace q105 := eq_true q105
                    have ea_ := zI (hx103_0.symm.trans hx105_0)
                    injection ea_ with ea_ en_ ec_
                    subst ea_
                    subst ec_
                    clear en_
                    have p106 : 0 ≤ (x5_3 : Int) := zB qA
                    have q106 : x5_3 < ((rd_LIns l0 x4_1).length : Int) := zB qA
                    obtain ⟨ad106, A106_5, c106_5, e106, hx106_0, hx106_1, hx106_2, hx106_3, hx106_4, hx106_5, hl106_5, hi106_5⟩ := at_TIns HR105_0.out x5_3 p106 q106
                    cases e106
                    replace hx106_0 := (HB.out.cell (zE w _ hx106_0)).trans hx106_0
                    replace hx106_1 := (HB.out.cell (zE w _ hx106_1)).trans hx106_1
                    replace hx106_2 := (HB.out.cell (zE w _ hx106_2)).trans hx106_2
                    replace hx106_3 := (HB.out.cell (zE w _ hx106_3)).trans hx106_3
                    replace hx106_4 := (HB.out.cell (zE w _ hx106_4)).trans hx106_4
                    replace hx106_5 := (HB.out.cell (zE w _ hx106_5)).trans hx106_5
                    have HR106_5 := zA hi106_5
                    have HC106_5 := zA hl106_5
                    clear hi106_5 hl106_5
                    replace p106 := eq_true p106
                    replace q106 := eq_true q106
                    go_wp2
                    go_roundg kj8
                    case measure => have := HK1.out; have := HJ2.out; have := HK3.out; have := HJ8.out; omega
                    case rel => exact ⟨(wrap64 (x5_3 + 1)), qT, H', ⟨by have := HK1.out; have := HJ2.out; have := HK3.out; have := HJ8.out; omega⟩, ⟨qB⟩⟩
                 ·rw [zD c17] at H
                  exact absurd H (by simp)
                ·rw [zD c16] at H
                 exact absurd H (by simp)
               ·rw [zD c15] at H
                exact absurd H (by simp)
              ·rw [zD c14] at H
               exact absurd H (by simp)
             ·replace c13 := Bool.eq_false_iff.mpr c13
              subst c13
              have H1 : (cubbylaw08_heavy.l0 kj8 l0 (wrap64 (x3_1 + (ji8))) (wrap64 (x4_1 + 1))) = some r := by rw [zD (show ¬ (false = true) by decide)] at H; exact H
              clear H
              have H := H1
              clear H1
              have H' := zA H
              clear H
              go_wp2
              go_roundg kj8
              case measure => have := HK1.out; have := HJ2.out; have := HK3.out; have := HJ8.out; omega
              case rel => exact ⟨((wrap64 (x3_1 + (ji8)))), (wrap64 (x4_1 + 1)), (by first | rfl | (simp; done) | (simp only [← hji8] <;> (first | rfl | simp)) | (simp [*]; done)), qT, H', ⟨by have := HK1.out; have := HJ2.out; have := HK3.out; have := HJ8.out; omega⟩, ⟨qB⟩⟩
        ·rw [zD c7] at H
         exact absurd H (by simp)
       ·rw [zD c6] at H
        exact absurd H (by simp)
      ·replace c5 := Bool.eq_false_iff.mpr c5
       subst c5
       have H1 : (some (decide (x3_1 > 300))) = some r := by rw [zD (show ¬ (false = true) by decide)] at H; exact H
       clear H
       have H := H1
       clear H1
       obtain rfl := zI H
       go_wp2
       go_ret
       exact ⟨qE, qB⟩

mutual
def cubbyref07_Name.j0 : Nat → ByteArray → Bool → Option (Bool)
 | 0, _, _ => none
 | k + 1, x0, x13 => if x13 = true then (some false) else (cubbyref07_Name.l0 k x0 0)
def cubbyref07_Name.l0 : Nat → ByteArray → Int → Option (Bool)
 | 0, _, _ => none
 | k + 1, x0, x3 => if x3 < (x0.size : Int) then (if 0 ≤ x3 then (if (bt x0 x3) ≥ 97 then (if (bt x0 x3) ≥ 48 then (if ((bt x0 x3) ≤ 122) then (cubbyref07_Name.l0 k x0 (wrap64 (x3 + 1))) else (if ((bt x0 x3) ≤ 57) then (if x3 = 0 then (some false) else (cubbyref07_Name.l0 k x0 (wrap64 (x3 + 1)))) else (some false))) else (if ((bt x0 x3) ≤ 122) then (cubbyref07_Name.l0 k x0 (wrap64 (x3 + 1))) else (some false))) else (if (bt x0 x3) ≥ 48 then (if ((bt x0 x3) ≤ 57) then (if x3 = 0 then (some false) else (cubbyref07_Name.l0 k x0 (wrap64 (x3 + 1)))) else (some false)) else (some false))) else (none)) else (some true)
end
def cubbyref07_Name.f (k : Nat) (a0 : ByteArray) : Option (Bool) := if (a0.size : Int) < 1 then (cubbyref07_Name.j0 k a0 true) else (cubbyref07_Name.j0 k a0 (decide ((a0.size : Int) > 12)))
set_option maxHeartbeats 8000000 in
set_option maxRecDepth 100000 in
theorem cubbyref07_Name.calls (k : Nat) (a0 : ByteArray) (r : Bool) (w : World) (h : cubbyref07_Name.f k a0 = some r) :
 Calls Tryz.prog 22 #[.string a0] w fun e w' => e = .returned (.bool r) ∧ Drawn0 w w' := by
 have H := h; clear h; unfold cubbyref07_Name.f at H
 have HC2 := zA H
 clear H
 go_enter Tryz.func22, Tryz.ntmps22
 go_upto_region 1 with (fail)
 go_cut [13] (fun v13 wc => ∃ (kq : Nat) (x13_1 : Bool), v13 = .bool x13_1 ∧ Aside0 (cubbyref07_Name.j0 kq a0 x13_1 = some r) ∧ Aside0 (kq ≤ k) ∧ Drawn0 w wc)
 case first =>
  have H := HC2.out
  clear HC2
  by_cases c3 : (a0.size : Int) < 1
  ·rw [zC c3] at H
   have c3b0 := zF c3
   have c3b1 : decide (a0.size < 1) = true := zF (by omega)
   clear c3
   (first | rw [c3b0] | (simp only [i64_w, i32_w]; rw [c3b0]) | skip)
   have H' := zA H
   clear H
   go_wp2
   go_meet
   case rel => exact ⟨_, (true), qT, H', ⟨qO⟩, qD⟩
  ·rw [zD c3] at H
   have c3b0 := zG c3
   have c3b1 : decide (a0.size < 1) = false := zG (by omega)
   clear c3
   (first | rw [c3b0] | (simp only [i64_w, i32_w]; rw [c3b0]) | skip)
   have H' := zA H
   clear H
   go_wp2
   go_meet
   case rel => exact ⟨_, (decide ((a0.size : Int) > 12)), qT, H', ⟨qO⟩, qD⟩
 case rest =>
  clear HC2
  obtain ⟨kq, x13_1, rfl, HA, HJ1, ⟨mc1, rfl⟩⟩ := hcut
  cases kq with
  | zero => exact absurd HA.out (by simp [cubbyref07_Name.j0])
  | succ kj1 =>
   have H := HA.out
   clear HA
   simp only [cubbyref07_Name.j0] at H
   by_cases c4 : x13_1 = true
   ·subst c4
    have H1 : (some false) = some r := by rw [zC rfl] at H; exact H
    clear H
    have H := H1
    clear H1
    obtain rfl := zI H
    go_wp2
    go_ret
    exact ⟨by first | rfl | (simp; done) | (simp [*]; done), qD⟩
   ·replace c4 := Bool.eq_false_iff.mpr c4
    subst c4
    have H1 : (cubbyref07_Name.l0 kj1 a0 0) = some r := by rw [zD (show ¬ (false = true) by decide)] at H; exact H
    clear H
    have H := H1
    clear H1
    have H' := zA H
    clear H
    go_wp2
    go_loopg [3] kj1 (fun kq v3 w' => ∃ (x3_2 : Int), v3 = .int .i64 x3_2 ∧ Aside0 (cubbyref07_Name.l0 kq a0 x3_2 = some r) ∧ Aside0 (kq ≤ kj1) ∧ Drawn0 w w')
    case atStart => exact ⟨(0), qT, H', ⟨Nat.le_refl _⟩, qD⟩
    case round =>
     clear H'
     obtain ⟨x3_2, rfl, HA, HK2, ⟨m2, rfl⟩⟩ := hrel
     cases gk with
     | zero => exact absurd HA.out (by simp [cubbyref07_Name.l0])
     | succ k2 =>
      have H := HA.out
      clear HA
      simp only [cubbyref07_Name.l0] at H
      by_cases c5 : x3_2 < (a0.size : Int)
      ·rw [zC c5] at H
       have c5b0 := zF c5
       clear c5
       by_cases c6 : 0 ≤ x3_2
       ·rw [zC c6] at H
        have c6b0 := zF c6
        clear c6
        by_cases c8 : (bt a0 x3_2) ≥ 97
        ·rw [zC c8] at H
         have c8b0 : decide (97 ≤ (bt a0 x3_2)) = true := zF c8
         clear c8
         by_cases c11 : (bt a0 x3_2) ≥ 48
         ·rw [zC c11] at H
          have c11b0 : decide (48 ≤ (bt a0 x3_2)) = true := zF c11
          clear c11
          by_cases c13 : ((bt a0 x3_2) ≤ 122)
          ·rw [zC c13] at H
           have c13b0 : decide ((bt a0 x3_2) ≤ 122) = true := zF c13
           clear c13
           have H' := zA H
           clear H
           have p7 : 0 ≤ (x3_2 : Int) := zB qA
           have q7 : x3_2 < (a0.size : Int) := zB qA
           have hx7 := bt_at a0 x3_2
           replace p7 := eq_true p7
           replace q7 := eq_true q7
           have p9 : 0 ≤ (x3_2 : Int) := zB qA
           have q9 : x3_2 < (a0.size : Int) := zB qA
           have hx9 := bt_at a0 x3_2
           replace p9 := eq_true p9
           replace q9 := eq_true q9
           have p10 : 0 ≤ (x3_2 : Int) := zB qA
           have q10 : x3_2 < (a0.size : Int) := zB qA
           have hx10 := bt_at a0 x3_2
           replace p10 := eq_true p10
           replace q10 := eq_true q10
           have p12 : 0 ≤ (x3_2 : Int) := zB qA
           have q12 : x3_2 < (a0.size : Int) := zB qA
           have hx12 := bt_at a0 x3_2
           replace p12 := eq_true p12
           replace q12 := eq_true q12
           go_wp2
           go_roundg k2
           case measure => have := HJ1.out; have := HK2.out; omega
           case rel => exact ⟨(wrap64 (x3_2 + 1)), qT, H', ⟨by have := HJ1.out; have := HK2.out; omega⟩, qD⟩
          ·rw [zD c13] at H
           have c13b0 : decide ((bt a0 x3_2) ≤ 122) = false := zG c13
           clear c13
           by_cases c14 : ((bt a0 x3_2) ≤ 57)
           ·rw [zC c14] at H
            have c14b0 : decide ((bt a0 x3_2) ≤ 57) = true := zF c14
            clear c14
            by_cases c15 : x3_2 = 0
            ·rw [zC c15] at H
             obtain ⟨c15b0, c15b1⟩ := qe c15; clear c15
             obtain rfl := zI H
             have p7 : 0 ≤ (x3_2 : Int) := zB qA
             have q7 : x3_2 < (a0.size : Int) := zB qA
             have hx7 := bt_at a0 x3_2
             replace p7 := eq_true p7
             replace q7 := eq_true q7
             have p9 : 0 ≤ (x3_2 : Int) := zB qA
             have q9 : x3_2 < (a0.size : Int) := zB qA
             have hx9 := bt_at a0 x3_2
             replace p9 := eq_true p9
             replace q9 := eq_true q9
             have p10 : 0 ≤ (x3_2 : Int) := zB qA
             have q10 : x3_2 < (a0.size : Int) := zB qA
             have hx10 := bt_at a0 x3_2
             replace p10 := eq_true p10
             replace q10 := eq_true q10
             have p12 : 0 ≤ (x3_2 : Int) := zB qA
             have q12 : x3_2 < (a0.size : Int) := zB qA
             have hx12 := bt_at a0 x3_2
             replace p12 := eq_true p12
             replace q12 := eq_true q12
             go_wp2
             go_ret
             exact ⟨by first | rfl | (simp; done) | (simp [*]; done), qD⟩
            ·rw [zD c15] at H
             obtain ⟨c15b0, c15b1⟩ := qn c15
             have H' := zA H
             clear H
             have p7 : 0 ≤ (x3_2 : Int) := zB qA
             have q7 : x3_2 < (a0.size : Int) := zB qA
             have hx7 := bt_at a0 x3_2
             replace p7 := eq_true p7
             replace q7 := eq_true q7
             have p9 : 0 ≤ (x3_2 : Int) := zB qA
             have q9 : x3_2 < (a0.size : Int) := zB qA
             have hx9 := bt_at a0 x3_2
             replace p9 := eq_true p9
             replace q9 := eq_true q9
             have p10 : 0 ≤ (x3_2 : Int) := zB qA
             have q10 : x3_2 < (a0.size : Int) := zB qA
             have hx10 := bt_at a0 x3_2
             replace p10 := eq_true p10
             replace q10 := eq_true q10
             have p12 : 0 ≤ (x3_2 : Int) := zB qA
             have q12 : x3_2 < (a0.size : Int) := zB qA
             have hx12 := bt_at a0 x3_2
             replace p12 := eq_true p12
             replace q12 := eq_true q12
             go_wp2
             go_roundg k2
             case measure => have := HJ1.out; have := HK2.out; omega
             case rel => exact ⟨(wrap64 (x3_2 + 1)), qT, H', ⟨by have := HJ1.out; have := HK2.out; omega⟩, qD⟩
           ·rw [zD c14] at H
            have c14b0 : decide ((bt a0 x3_2) ≤ 57) = false := zG c14
            clear c14
            obtain rfl := zI H
            have p7 : 0 ≤ (x3_2 : Int) := zB qA
            have q7 : x3_2 < (a0.size : Int) := zB qA
            have hx7 := bt_at a0 x3_2
            replace p7 := eq_true p7
            replace q7 := eq_true q7
            have p9 : 0 ≤ (x3_2 : Int) := zB qA
            have q9 : x3_2 < (a0.size : Int) := zB qA
            have hx9 := bt_at a0 x3_2
            replace p9 := eq_true p9
            replace q9 := eq_true q9
            have p10 : 0 ≤ (x3_2 : Int) := zB qA
            have q10 : x3_2 < (a0.size : Int) := zB qA
            have hx10 := bt_at a0 x3_2
            replace p10 := eq_true p10
            replace q10 := eq_true q10
            have p12 : 0 ≤ (x3_2 : Int) := zB qA
            have q12 : x3_2 < (a0.size : Int) := zB qA
            have hx12 := bt_at a0 x3_2
            replace p12 := eq_true p12
            replace q12 := eq_true q12
            go_wp2
            go_ret
            exact ⟨by first | rfl | (simp; done) | (simp [*]; done), qD⟩
         ·rw [zD c11] at H
          have c11b0 : decide (48 ≤ (bt a0 x3_2)) = false := zG c11
          clear c11
          by_cases c16 : ((bt a0 x3_2) ≤ 122)
          ·rw [zC c16] at H
           have c16b0 : decide ((bt a0 x3_2) ≤ 122) = true := zF c16
           clear c16
           have H' := zA H
           clear H
           have p7 : 0 ≤ (x3_2 : Int) := zB qA
           have q7 : x3_2 < (a0.size : Int) := zB qA
           have hx7 := bt_at a0 x3_2
           replace p7 := eq_true p7
           replace q7 := eq_true q7
           have p9 : 0 ≤ (x3_2 : Int) := zB qA
           have q9 : x3_2 < (a0.size : Int) := zB qA
           have hx9 := bt_at a0 x3_2
           replace p9 := eq_true p9
           replace q9 := eq_true q9
           have p10 : 0 ≤ (x3_2 : Int) := zB qA
           have q10 : x3_2 < (a0.size : Int) := zB qA
           have hx10 := bt_at a0 x3_2
           replace p10 := eq_true p10
           replace q10 := eq_true q10
           go_wp2
           go_roundg k2
           case measure => have := HJ1.out; have := HK2.out; omega
           case rel => exact ⟨(wrap64 (x3_2 + 1)), qT, H', ⟨by have := HJ1.out; have := HK2.out; omega⟩, qD⟩
          ·rw [zD c16] at H
           have c16b0 : decide ((bt a0 x3_2) ≤ 122) = false := zG c16
           clear c16
           obtain rfl := zI H
           have p7 : 0 ≤ (x3_2 : Int) := zB qA
           have q7 : x3_2 < (a0.size : Int) := zB qA
           have hx7 := bt_at a0 x3_2
           replace p7 := eq_true p7
           replace q7 := eq_true q7
           have p9 : 0 ≤ (x3_2 : Int) := zB qA
           have q9 : x3_2 < (a0.size : Int) := zB qA
           have hx9 := bt_at a0 x3_2
           replace p9 := eq_true p9
           replace q9 := eq_true q9
           have p10 : 0 ≤ (x3_2 : Int) := zB qA
           have q10 : x3_2 < (a0.size : Int) := zB qA
           have hx10 := bt_at a0 x3_2
           replace p10 := eq_true p10
           replace q10 := eq_true q10
           go_wp2
           go_ret
           exact ⟨by first | rfl | (simp; done) | (simp [*]; done), qD⟩
        ·rw [zD c8] at H
         have c8b0 : decide (97 ≤ (bt a0 x3_2)) = false := zG c8
         clear c8
         by_cases c18 : (bt a0 x3_2) ≥ 48
         ·rw [zC c18] at H
          have c18b0 : decide (48 ≤ (bt a0 x3_2)) = true := zF c18
          clear c18
          by_cases c20 : ((bt a0 x3_2) ≤ 57)
          ·rw [zC c20] at H
           have c20b0 : decide ((bt a0 x3_2) ≤ 57) = true := zF c20
           clear c20
           by_cases c21 : x3_2 = 0
           ·rw [zC c21] at H
            obtain ⟨c21b0, c21b1⟩ := qe c21; clear c21
            obtain rfl := zI H
            have p7 : 0 ≤ (x3_2 : Int) := zB qA
            have q7 : x3_2 < (a0.size : Int) := zB qA
            have hx7 := bt_at a0 x3_2
            replace p7 := eq_true p7
            replace q7 := eq_true q7
            have p17 : 0 ≤ (x3_2 : Int) := zB qA
            have q17 : x3_2 < (a0.size : Int) := zB qA
            have hx17 := bt_at a0 x3_2
            replace p17 := eq_true p17
            replace q17 := eq_true q17
            have p19 : 0 ≤ (x3_2 : Int) := zB qA
            have q19 : x3_2 < (a0.size : Int) := zB qA
            have hx19 := bt_at a0 x3_2
            replace p19 := eq_true p19
            replace q19 := eq_true q19
            go_wp2
            go_ret
            exact ⟨by first | rfl | (simp; done) | (simp [*]; done), qD⟩
           ·rw [zD c21] at H
            obtain ⟨c21b0, c21b1⟩ := qn c21
            have H' := zA H
            clear H
            have p7 : 0 ≤ (x3_2 : Int) := zB qA
            have q7 : x3_2 < (a0.size : Int) := zB qA
            have hx7 := bt_at a0 x3_2
            replace p7 := eq_true p7
            replace q7 := eq_true q7
            have p17 : 0 ≤ (x3_2 : Int) := zB qA
            have q17 : x3_2 < (a0.size : Int) := zB qA
            have hx17 := bt_at a0 x3_2
            replace p17 := eq_true p17
            replace q17 := eq_true q17
            have p19 : 0 ≤ (x3_2 : Int) := zB qA
            have q19 : x3_2 < (a0.size : Int) := zB qA
            have hx19 := bt_at a0 x3_2
            replace p19 := eq_true p19
            replace q19 := eq_true q19
            go_wp2
            go_roundg k2
            case measure => have := HJ1.out; have := HK2.out; omega
            case rel => exact ⟨(wrap64 (x3_2 + 1)), qT, H', ⟨by have := HJ1.out; have := HK2.out; omega⟩, qD⟩
          ·rw [zD c20] at H
           have c20b0 : decide ((bt a0 x3_2) ≤ 57) = false := zG c20
           clear c20
           obtain rfl := zI H
           have p7 : 0 ≤ (x3_2 : Int) := zB qA
           have q7 : x3_2 < (a0.size : Int) := zB qA
           have hx7 := bt_at a0 x3_2
           replace p7 := eq_true p7
           replace q7 := eq_true q7
           have p17 : 0 ≤ (x3_2 : Int) := zB qA
           have q17 : x3_2 < (a0.size : Int) := zB qA
           have hx17 := bt_at a0 x3_2
           replace p17 := eq_true p17
           replace q17 := eq_true q17
           have p19 : 0 ≤ (x3_2 : Int) := zB qA
           have q19 : x3_2 < (a0.size : Int) := zB qA
           have hx19 := bt_at a0 x3_2
           replace p19 := eq_true p19
           replace q19 := eq_true q19
           go_wp2
           go_ret
           exact ⟨by first | rfl | (simp; done) | (simp [*]; done), qD⟩
         ·rw [zD c18] at H
          have c18b0 : decide (48 ≤ (bt a0 x3_2)) = false := zG c18
          clear c18
          obtain rfl := zI H
          have p7 : 0 ≤ (x3_2 : Int) := zB qA
          have q7 : x3_2 < (a0.size : Int) := zB qA
          have hx7 := bt_at a0 x3_2
          replace p7 := eq_true p7
          replace q7 := eq_true q7
          have p17 : 0 ≤ (x3_2 : Int) := zB qA
          have q17 : x3_2 < (a0.size : Int) := zB qA
          have hx17 := bt_at a0 x3_2
          replace p17 := eq_true p17
          replace q17 := eq_true q17
          go_wp2
          go_ret
          exact ⟨by first | rfl | (simp; done) | (simp [*]; done), qD⟩
       ·rw [zD c6] at H
        exact absurd H (by simp)
      ·rw [zD c5] at H
       have c5b0 := zG c5
       clear c5
       obtain rfl := zI H
       go_wp2
       go_ret
       exact ⟨by first | rfl | (simp; done) | (simp [*]; done), qD⟩

def cubbyref08_Digits.l0 : Nat → Int → ByteArray → Option (ByteArray)
 | 0, _, _ => none
 | k + 1, x0, x3 => if x0 > 9 then (if 0 ≤ (Int.tmod x0 10) then (if (Int.tmod x0 10) ≤ (wrap64 ((Int.tmod x0 10) + 1)) then (if (wrap64 ((Int.tmod x0 10) + 1)) ≤ 10 then (if ((⟨#[48, 49, 50, 51, 52, 53, 54, 55, 56, 57]⟩ : ByteArray).extract ((Int.tmod x0 10) : Int).toNat ((wrap64 ((Int.tmod x0 10) + 1)) : Int).toNat).size + x3.size ≤ 9223372036854775807 then (cubbyref08_Digits.l0 k (wrap64 (Int.tdiv x0 10)) (((⟨#[48, 49, 50, 51, 52, 53, 54, 55, 56, 57]⟩ : ByteArray).extract ((Int.tmod x0 10) : Int).toNat ((wrap64 ((Int.tmod x0 10) + 1)) : Int).toNat) ++ x3)) else (none)) else (none)) else (none)) else (none)) else (if 0 ≤ x0 then (if x0 ≤ (wrap64 (x0 + 1)) then (if (wrap64 (x0 + 1)) ≤ 10 then (if ((⟨#[48, 49, 50, 51, 52, 53, 54, 55, 56, 57]⟩ : ByteArray).extract (x0 : Int).toNat ((wrap64 (x0 + 1)) : Int).toNat).size + x3.size ≤ 9223372036854775807 then (some (((⟨#[48, 49, 50, 51, 52, 53, 54, 55, 56, 57]⟩ : ByteArray).extract (x0 : Int).toNat ((wrap64 (x0 + 1)) : Int).toNat) ++ x3)) else (none)) else (none)) else (none)) else (none))
def cubbyref08_Digits.f (k : Nat) (a0 : Int) : Option (ByteArray) := cubbyref08_Digits.l0 k a0 (⟨#[]⟩ : ByteArray)
set_option maxHeartbeats 8000000 in
set_option maxRecDepth 100000 in
theorem cubbyref08_Digits.calls (k : Nat) (a0 : Int) (r : ByteArray) (w : World) (h : cubbyref08_Digits.f k a0 = some r) :
 Calls Tryz.prog 37 #[.int .i64 a0] w fun e w' => e = .returned (.string r) ∧ Drawn0 w w' := by
 have H := h; clear h; unfold cubbyref08_Digits.f at H
 have H' := zA H
 clear H
 go_enter Tryz.func37, Tryz.ntmps37
 go_wp2
 go_loopg [0, 3] k (fun kq v0 v3 w' => ∃ (x0_1 : Int) (x3_1 : ByteArray), v0 = .int .i64 x0_1 ∧ v3 = .string x3_1 ∧ Aside0 (cubbyref08_Digits.l0 kq x0_1 x3_1 = some r) ∧ Aside0 (kq ≤ k) ∧ Drawn0 w w')
 case atStart => exact ⟨(a0), ((⟨#[]⟩ : ByteArray)), qT, qT, H', ⟨Nat.le_refl _⟩, qD⟩
 case round =>
  clear H'
  obtain ⟨x0_1, x3_1, rfl, rfl, HA, HK1, ⟨m1, rfl⟩⟩ := hrel
  cases gk with
  | zero => exact absurd HA.out (by simp [cubbyref08_Digits.l0])
  | succ k1 =>
   have H := HA.out
   clear HA
   simp only [cubbyref08_Digits.l0] at H
   by_cases c2 : x0_1 > 9
   ·rw [zC c2] at H
    have c2b0 : decide (9 < x0_1) = true := zF c2
    clear c2
    obtain ⟨ji3, hji3⟩ : ∃ j_ : Int, (Int.tmod x0_1 10) = j_ := ⟨_, rfl⟩
    replace H : (if 0 ≤ (ji3) then (if (ji3) ≤ (wrap64 ((ji3) + 1)) then (if (wrap64 ((ji3) + 1)) ≤ 10 then (if ((⟨#[48, 49, 50, 51, 52, 53, 54, 55, 56, 57]⟩ : ByteArray).extract ((ji3) : Int).toNat ((wrap64 ((ji3) + 1)) : Int).toNat).size + x3_1.size ≤ 9223372036854775807 then (cubbyref08_Digits.l0 k1 (wrap64 (Int.tdiv x0_1 10)) (((⟨#[48, 49, 50, 51, 52, 53, 54, 55, 56, 57]⟩ : ByteArray).extract ((ji3) : Int).toNat ((wrap64 ((ji3) + 1)) : Int).toNat) ++ x3_1)) else (none)) else (none)) else (none)) else (none)) = some r := by first | (rw [hji3] at H; exact H) | (simp only [hji3] at H ⊢; exact H)
    by_cases c4 : 0 ≤ (ji3)
    ·rw [zC c4] at H
     have c4b0 := eq_true c4
     have c4b1 := zF c4
     clear c4
     by_cases c5 : (ji3) ≤ (wrap64 ((ji3) + 1))
     ·rw [zC c5] at H
      have c5b0 := eq_true c5
      have c5b1 := zF c5
      by_cases c6 : (wrap64 ((ji3) + 1)) ≤ 10
      ·rw [zC c6] at H
       have c6b0 := eq_true c6
       have c6b1 := zF c6
       by_cases c7 : ((⟨#[48, 49, 50, 51, 52, 53, 54, 55, 56, 57]⟩ : ByteArray).extract ((ji3) : Int).toNat ((wrap64 ((ji3) + 1)) : Int).toNat).size + x3_1.size ≤ 9223372036854775807
       ·rw [zC c7] at H
        have c7b0 := eq_true c7
        have c7b1 := zF c7
        try have c7b2 : (9223372036854775807 < ((⟨#[48, 49, 50, 51, 52, 53, 54, 55, 56, 57]⟩ : ByteArray).extract ((ji3) : Int).toNat ((wrap64 ((ji3) + 1)) : Int).toNat).size + x3_1.size) = False := eq_false (Nat.not_lt.2 c7)
        have H' := zA H
        clear H
        go_wp2
        go_roundg k1
        case measure => have := HK1.out; omega
        case rel => exact ⟨(wrap64 (Int.tdiv x0_1 10)), (((⟨#[48, 49, 50, 51, 52, 53, 54, 55, 56, 57]⟩ : ByteArray).extract ((ji3) : Int).toNat ((wrap64 ((ji3) + 1)) : Int).toNat) ++ x3_1), qT, (by first | rfl | (simp; done) | (simp only [← hji3] <;> (first | rfl | simp)) | (simp [*]; done)), H', ⟨by have := HK1.out; omega⟩, qD⟩
       ·rw [zD c7] at H
        exact absurd H (by simp)
      ·rw [zD c6] at H
       exact absurd H (by simp)
     ·rw [zD c5] at H
      exact absurd H (by simp)
    ·rw [zD c4] at H
     exact absurd H (by simp)
   ·rw [zD c2] at H
    have c2b0 : decide (9 < x0_1) = false := zG c2
    clear c2
    by_cases c8 : 0 ≤ x0_1
    ·rw [zC c8] at H
     have c8b0 := eq_true c8
     have c8b1 := zF c8
     clear c8
     by_cases c9 : x0_1 ≤ (wrap64 (x0_1 + 1))
     ·rw [zC c9] at H
      have c9b0 := eq_true c9
      have c9b1 := zF c9
      by_cases c10 : (wrap64 (x0_1 + 1)) ≤ 10
      ·rw [zC c10] at H
       have c10b0 := eq_true c10
       have c10b1 := zF c10
       by_cases c11 : ((⟨#[48, 49, 50, 51, 52, 53, 54, 55, 56, 57]⟩ : ByteArray).extract (x0_1 : Int).toNat ((wrap64 (x0_1 + 1)) : Int).toNat).size + x3_1.size ≤ 9223372036854775807
       ·rw [zC c11] at H
        have c11b0 := eq_true c11
        have c11b1 := zF c11
        try have c11b2 : (9223372036854775807 < ((⟨#[48, 49, 50, 51, 52, 53, 54, 55, 56, 57]⟩ : ByteArray).extract (x0_1 : Int).toNat ((wrap64 (x0_1 + 1)) : Int).toNat).size + x3_1.size) = False := eq_false (Nat.not_lt.2 c11)
        obtain rfl := zI H
        go_wp2
        go_ret
        exact ⟨by first | rfl | (simp; done) | (simp [*]; done), qD⟩
       ·rw [zD c11] at H
        exact absurd H (by simp)
      ·rw [zD c10] at H
       exact absurd H (by simp)
     ·rw [zD c9] at H
      exact absurd H (by simp)
    ·rw [zD c8] at H
     exact absurd H (by simp)

mutual
def cubbyref08_line.j0 : Nat → ByteArray → ByteArray → Bool → Int → List Int → Bool → Option (ByteArray × Int)
 | 0, _, _, _, _, _, _ => none
 | k + 1, x0, x1, x2, x3, x4, x23 => if x23 = true then (some ((⟨#[]⟩ : ByteArray), 80)) else (cubbyref08_line.l0 k x1 x2 x3 x4 x0 0)
def cubbyref08_line.l0 : Nat → ByteArray → Bool → Int → List Int → ByteArray → Int → Option (ByteArray × Int)
 | 0, _, _, _, _, _, _ => none
 | k + 1, x1, x2, x3, x4, x12, x13 => if x13 ≤ (x4.length : Int) then (if x2 = true then (cubbyref08_line.j2 k x1 x2 x3 x4 x12 x13 (x13 == x3)) else (cubbyref08_line.j2 k x1 x2 x3 x4 x12 x13 false)) else (if x12.size + 1 ≤ 9223372036854775807 then (some (x12 ++ (⟨#[10]⟩ : ByteArray), 0)) else (none))
def cubbyref08_line.j2 : Nat → ByteArray → Bool → Int → List Int → ByteArray → Int → Bool → Option (ByteArray × Int)
 | 0, _, _, _, _, _, _, _ => none
 | k + 1, x1, x2, x3, x4, x12, x13, x36 => if x36 = true then (if x12.size + 1 ≤ 9223372036854775807 then (if (x12 ++ (⟨#[32]⟩ : ByteArray)).size + x1.size ≤ 9223372036854775807 then (cubbyref08_line.j3 k x1 x2 x3 x4 ((x12 ++ (⟨#[32]⟩ : ByteArray)) ++ x1) x13) else (none)) else (none)) else (cubbyref08_line.j3 k x1 x2 x3 x4 x12 x13)
def cubbyref08_line.j3 : Nat → ByteArray → Bool → Int → List Int → ByteArray → Int → Option (ByteArray × Int)
 | 0, _, _, _, _, _, _ => none
 | k + 1, x1, x2, x3, x4, x12, x13 => if x13 < (x4.length : Int) then (if 0 ≤ x13 then (if (rd x4 x13) < 0 then (some ((⟨#[]⟩ : ByteArray), 81)) else (if (rd x4 x13) > 2147483647 then (some ((⟨#[]⟩ : ByteArray), 81)) else (if x12.size + 1 ≤ 9223372036854775807 then ((cubbyref08_Digits.f k (rd x4 x13)).bind fun t115 => (if (x12 ++ (⟨#[32]⟩ : ByteArray)).size + t115.size ≤ 9223372036854775807 then (cubbyref08_line.l0 k x1 x2 x3 x4 ((x12 ++ (⟨#[32]⟩ : ByteArray)) ++ t115) (wrap64 (x13 + 1))) else (none))) else (none)))) else (none)) else (cubbyref08_line.l0 k x1 x2 x3 x4 x12 (wrap64 (x13 + 1)))
end
def cubbyref08_line.f (k : Nat) (a0 : ByteArray) (a1 : ByteArray) (a2 : Bool) (a3 : Int) (l4 : List Int) : Option (ByteArray × Int) := if a0.toList = ([] : List UInt8) then (cubbyref08_line.j0 k a0 a1 a2 a3 l4 true) else (if a2 = true then ((cubbyref07_Name.f k a1).bind fun t111 => (cubbyref08_line.j0 k a0 a1 a2 a3 l4 (!t111))) else (cubbyref08_line.j0 k a0 a1 a2 a3 l4 false))
set_option maxHeartbeats 8000000 in
set_option maxRecDepth 100000 in
theorem cubbyref08_line.calls (k : Nat) (a0 : ByteArray) (a1 : ByteArray) (a2 : Bool) (a3 : Int) (A4 : Option Addr) (c4 : Nat) (l4 : List Int) (r1 : ByteArray) (r2 : Int) (w : World) (hr4 : Kd.C (Kd.int .i64) w A4 l4.length l4) (hc4 : l4.length ≤ c4) (h : cubbyref08_line.f k a0 a1 a2 a3 l4 = some (r1, r2)) :
 Calls Tryz.prog 20 #[.string a0, .string a1, .bool a2, .int .i64 a3, .slice A4 l4.length c4] w fun e w' => e = .returned (.tuple #[.string r1, .int .i64 r2]) ∧ Drawn0 w w' := by
 have HR4 := zA hr4
 have HC4 := zA hc4
 clear hr4 hc4
 have H := h; clear h; unfold cubbyref08_line.f at H
 have HC6 := zA H
 clear H
 go_enter Tryz.func20, Tryz.ntmps20
 go_upto_region 1 with (fail)
 go_cut [23] (fun v23 wc => ∃ (kq : Nat) (x23_5 : Bool), v23 = .bool x23_5 ∧ Aside0 (cubbyref08_line.j0 kq a0 a1 a2 a3 l4 x23_5 = some (r1, r2)) ∧ Aside0 (kq ≤ k) ∧ Drawn0 w wc)
 case first =>
  have H := HC6.out
  clear HC6
  by_cases c7 : a0.toList = ([] : List UInt8)
  ·rw [zC c7] at H
   obtain ⟨c7b0, c7b1⟩ := qe c7; clear c7
   (first | rw [c7b0] | (simp only [i64_w, i32_w]; rw [c7b0]) | skip)
   have H' := zA H
   clear H
   go_wp2
   go_meet
   case rel => exact ⟨_, (true), qT, H', ⟨qO⟩, qD⟩
  ·rw [zD c7] at H
   obtain ⟨c7b0, c7b1⟩ := qn c7
   (first | rw [c7b0] | (simp only [i64_w, i32_w]; rw [c7b0]) | skip)
   by_cases c8 : a2 = true
   ·subst c8
    have H1 : ((cubbyref07_Name.f k a1).bind fun t111 => (cubbyref08_line.j0 k a0 a1 true a3 l4 (!t111))) = some (r1, r2) := by rw [zC rfl] at H; exact H
    clear H
    have H := H1
    clear H1
    replace H := qb H; obtain ⟨t111, A9, H⟩ := H
    have H' := zA H
    clear H
    go_wp2_with (first | (go_at_call 22; (with_reducible refine (cubbyref07_Name.calls k a1 t111 _ A9.out).mono ?_); (try clear A9); rintro e w' ⟨rfl, ⟨nd, rfl⟩⟩))
    go_meet
    case rel => exact ⟨_, (!t111), qT, H', ⟨qO⟩, qD⟩
   ·replace c8 := Bool.eq_false_iff.mpr c8
    subst c8
    have H1 : (cubbyref08_line.j0 k a0 a1 false a3 l4 false) = some (r1, r2) := by rw [zD (show ¬ (false = true) by decide)] at H; exact H
    clear H
    have H := H1
    clear H1
    have H' := zA H
    clear H
    go_wp2
    go_meet
    case rel => exact ⟨_, (false), qT, H', ⟨qO⟩, qD⟩
 case rest =>
  clear HC6
  try clear c2; try clear p2; try clear c4; try clear c7; try clear c7b0 c7b1; try clear c8
  obtain ⟨kq, x23_5, rfl, HA, HJ5, ⟨mc5, rfl⟩⟩ := hcut
  cases kq with
  | zero => exact absurd HA.out (by simp [cubbyref08_line.j0])
  | succ kj5 =>
   have H := HA.out
   clear HA
   simp only [cubbyref08_line.j0] at H
   by_cases c10 : x23_5 = true
   ·subst c10
    have H1 : (some ((⟨#[]⟩ : ByteArray), 80)) = some (r1, r2) := by rw [zC rfl] at H; exact H
    clear H
    have H := H1
    clear H1
    simp only [Option.some.injEq, Prod.mk.injEq] at H
    obtain ⟨rfl, rfl⟩ := H
    go_wp2
    go_ret2
    exact ⟨by first | rfl | (simp; done) | (simp [*]; done), qD⟩
   ·replace c10 := Bool.eq_false_iff.mpr c10
    subst c10
    have H1 : (cubbyref08_line.l0 kj5 a1 a2 a3 l4 a0 0) = some (r1, r2) := by rw [zD (show ¬ (false = true) by decide)] at H; exact H
    clear H
    have H := H1
    clear H1
    have H' := zA H
    clear H
    go_wp2
    go_loopg [12, 13] kj5 (fun kq v12 v13 w' => ∃ (x12_2 : ByteArray) (x13_2 : Int), v12 = .string x12_2 ∧ v13 = .int .i64 x13_2 ∧ Aside0 (cubbyref08_line.l0 kq a1 a2 a3 l4 x12_2 x13_2 = some (r1, r2)) ∧ Aside0 (kq ≤ kj5) ∧ Drawn0 w w')
    case atStart => exact ⟨(a0), (0), qT, qT, H', ⟨Nat.le_refl _⟩, qD⟩
    case round =>
     clear H'
     try clear c1; try clear c2; try clear p2; try clear c4; try clear c5; try clear c7; try clear c7b0 c7b1; try clear c8; try clear c10
     obtain ⟨x12_2, x13_2, rfl, rfl, HA, HK2, ⟨m2, rfl⟩⟩ := hrel
     cases gk with
     | zero => exact absurd HA.out (by simp [cubbyref08_line.l0])
     | succ k2 =>
      have H := HA.out
      clear HA
      simp only [cubbyref08_line.l0] at H
      by_cases c11 : x13_2 ≤ (l4.length : Int)
      ·rw [zC c11] at H
       have c11b0 := zF c11
       clear c11
       have HC12 := zA H
       clear H
       go_upto_region 7 with (fail)
       go_cut [36] (fun v36 wc => ∃ (kq : Nat) (x36_11 : Bool), v36 = .bool x36_11 ∧ Aside0 (cubbyref08_line.j2 kq a1 a2 a3 l4 x12_2 x13_2 x36_11 = some (r1, r2)) ∧ Aside0 (kq ≤ k2) ∧ Drawn0 w wc)
       case first =>
        have H := HC12.out
        clear HC12
        by_cases c13 : a2 = true
        ·subst c13
         have H1 : (cubbyref08_line.j2 k2 a1 true a3 l4 x12_2 x13_2 (x13_2 == a3)) = some (r1, r2) := by rw [zC rfl] at H; exact H
         clear H
         have H := H1
         clear H1
         have H' := zA H
         clear H
         go_wp2
         go_meet
         case rel => exact ⟨_, ((x13_2 == a3)), qT, H', ⟨by have := HJ5.out; have := HK2.out; first | omega | exact Nat.le_refl _⟩, qD⟩
        ·replace c13 := Bool.eq_false_iff.mpr c13
         subst c13
         have H1 : (cubbyref08_line.j2 k2 a1 false a3 l4 x12_2 x13_2 false) = some (r1, r2) := by rw [zD (show ¬ (false = true) by decide)] at H; exact H
         clear H
         have H := H1
         clear H1
         have H' := zA H
         clear H
         go_wp2
         go_meet
         case rel => exact ⟨_, (false), qT, H', ⟨by have := HJ5.out; have := HK2.out; first | omega | exact Nat.le_refl _⟩, qD⟩
       case rest =>
        clear HC12
        try clear c1; try clear c2; try clear p2; try clear c4; try clear c5; try clear c7; try clear c7b0 c7b1; try clear c8; try clear c10; try clear c11b0; try clear c13
        obtain ⟨kq, x36_11, rfl, HA, HJ11, ⟨mc11, rfl⟩⟩ := hcut
        cases kq with
        | zero => exact absurd HA.out (by simp [cubbyref08_line.j2])
        | succ kj11 =>
         have H := HA.out
         clear HA
         simp only [cubbyref08_line.j2] at H
         have HC14 := zA H
         clear H
         go_upto_if 36 with (fail)
         go_cut [12] (fun v12 wc => ∃ (kq : Nat) (x12_13 : ByteArray), v12 = .string x12_13 ∧ Aside0 (cubbyref08_line.j3 kq a1 a2 a3 l4 x12_13 x13_2 = some (r1, r2)) ∧ Aside0 (kq ≤ kj11) ∧ Drawn0 w wc)
         case first =>
          have H := HC14.out
          clear HC14
          by_cases c15 : x36_11 = true
          ·subst c15
           have H1 : (if x12_2.size + 1 ≤ 9223372036854775807 then (if (x12_2 ++ (⟨#[32]⟩ : ByteArray)).size + a1.size ≤ 9223372036854775807 then (cubbyref08_line.j3 kj11 a1 a2 a3 l4 ((x12_2 ++ (⟨#[32]⟩ : ByteArray)) ++ a1) x13_2) else (none)) else (none)) = some (r1, r2) := by rw [zC rfl] at H; exact H
           clear H
           have H := H1
           clear H1
           by_cases c16 : x12_2.size + 1 ≤ 9223372036854775807
           ·rw [zC c16] at H
            have c16b0 := eq_true c16
            have c16b1 := zF c16
            try have c16b2 : (9223372036854775807 < x12_2.size + 1) = False := eq_false (Nat.not_lt.2 c16)
            by_cases c17 : (x12_2 ++ (⟨#[32]⟩ : ByteArray)).size + a1.size ≤ 9223372036854775807
            ·rw [zC c17] at H
             have c17b0 := eq_true c17
             have c17z : (9223372036854775807 < x12_2.size + 1 + a1.size) = False := eq_false (by have h_ := c17; simp only [ByteArray.size_append] at h_; exact Nat.not_lt.2 h_)
             have c17b1 := zF c17
             try have c17b2 : (9223372036854775807 < (x12_2 ++ (⟨#[32]⟩ : ByteArray)).size + a1.size) = False := eq_false (Nat.not_lt.2 c17)
             have H' := zA H
             clear H
             go_wp2
             go_meet
             case rel => exact ⟨_, ((x12_2 ++ (⟨#[32]⟩ : ByteArray)) ++ a1), qT, H', ⟨by have := HJ5.out; have := HK2.out; have := HJ11.out; first | omega | exact Nat.le_refl _⟩, qD⟩
            ·rw [zD c17] at H
             exact absurd H (by simp)
           ·rw [zD c16] at H
            exact absurd H (by simp)
          ·replace c15 := Bool.eq_false_iff.mpr c15
           subst c15
           have H1 : (cubbyref08_line.j3 kj11 a1 a2 a3 l4 x12_2 x13_2) = some (r1, r2) := by rw [zD (show ¬ (false = true) by decide)] at H; exact H
           clear H
           have H := H1
           clear H1
           have H' := zA H
           clear H
           go_wp2
           go_meet
           case rel => exact ⟨_, (x12_2), qT, H', ⟨by have := HJ5.out; have := HK2.out; have := HJ11.out; first | omega | exact Nat.le_refl _⟩, qD⟩
         case rest =>
          clear HC14
          try clear c1; try clear c2; try clear p2; try clear c4; try clear c5; try clear c7; try clear c7b0 c7b1; try clear c8; try clear c10; try clear c11b0; try clear c13; try clear c15; try clear c16; try clear c16b0 c16b1 c16b2; try clear c17; try clear c17b0 c17b1 c17b2
          obtain ⟨kq, x12_13, rfl, HA, HJ13, ⟨mc13, rfl⟩⟩ := hcut
          cases kq with
          | zero => exact absurd HA.out (by simp [cubbyref08_line.j3])
          | succ kj13 =>
           have H := HA.out
           clear HA
           simp only [cubbyref08_line.j3] at H
           by_cases c18 : x13_2 < (l4.length : Int)
           ·rw [zC c18] at H
            have c18b0 := zF c18
            clear c18
            by_cases c19 : 0 ≤ x13_2
            ·rw [zC c19] at H
             have c19b0 := zF c19
             clear c19
             by_cases c20 : (rd l4 x13_2) < 0
             ·rw [zC c20] at H
              have c20b0 := zF c20
              clear c20
              simp only [Option.some.injEq, Prod.mk.injEq] at H
              obtain ⟨rfl, rfl⟩ := H
              have p112 : 0 ≤ (x13_2 : Int) := zB qA
              have q112 : x13_2 < (l4.length : Int) := zB qA
              obtain ⟨ad112, e112, hx112_0⟩ := Kd.at_int HR4.out x13_2 p112 q112
              cases e112
              replace p112 := eq_true p112
              replace q112 := eq_true q112
              go_wp2
              go_ret2
              exact ⟨by first | rfl | (simp; done) | (simp [*]; done), qD⟩
             ·rw [zD c20] at H
              have c20b0 := zG c20
              clear c20
              by_cases c21 : (rd l4 x13_2) > 2147483647
              ·rw [zC c21] at H
               have c21b0 : decide (2147483647 < (rd l4 x13_2)) = true := zF c21
               clear c21
               simp only [Option.some.injEq, Prod.mk.injEq] at H
               obtain ⟨rfl, rfl⟩ := H
               have p112 : 0 ≤ (x13_2 : Int) := zB qA
               have q112 : x13_2 < (l4.length : Int) := zB qA
               obtain ⟨ad112, e112, hx112_0⟩ := Kd.at_int HR4.out x13_2 p112 q112
               cases e112
               replace p112 := eq_true p112
               replace q112 := eq_true q112
               have p113 : 0 ≤ (x13_2 : Int) := zB qA
               have q113 : x13_2 < (l4.length : Int) := zB qA
               obtain ⟨ad113, e113, hx113_0⟩ := Kd.at_int HR4.out x13_2 p113 q113
               obtain rfl : ad112 = ad113 := (by injection e113)
               replace p113 := eq_true p113
               replace q113 := eq_true q113
               go_wp2
               go_ret2
               exact ⟨by first | rfl | (simp; done) | (simp [*]; done), qD⟩
              ·rw [zD c21] at H
               have c21b0 : decide (2147483647 < (rd l4 x13_2)) = false := zG c21
               clear c21
               by_cases c22 : x12_13.size + 1 ≤ 9223372036854775807
               ·rw [zC c22] at H
                have c22b0 := eq_true c22
                have c22b1 := zF c22
                try have c22b2 : (9223372036854775807 < x12_13.size + 1) = False := eq_false (Nat.not_lt.2 c22)
                replace H := qb H; obtain ⟨t115, A23, H⟩ := H
                by_cases c24 : (x12_13 ++ (⟨#[32]⟩ : ByteArray)).size + t115.size ≤ 9223372036854775807
                ·rw [zC c24] at H
                 have c24b0 := eq_true c24
                 have c24z : (9223372036854775807 < x12_13.size + 1 + t115.size) = False := eq_false (by have h_ := c24; simp only [ByteArray.size_append] at h_; exact Nat.not_lt.2 h_)
                 have c24b1 := zF c24
                 try have c24b2 : (9223372036854775807 < (x12_13 ++ (⟨#[32]⟩ : ByteArray)).size + t115.size) = False := eq_false (Nat.not_lt.2 c24)
                 have H' := zA H
                 clear H
                 have p112 : 0 ≤ (x13_2 : Int) := zB qA
                 have q112 : x13_2 < (l4.length : Int) := zB qA
                 obtain ⟨ad112, e112, hx112_0⟩ := Kd.at_int HR4.out x13_2 p112 q112
                 cases e112
                 replace p112 := eq_true p112
                 replace q112 := eq_true q112
                 have p113 : 0 ≤ (x13_2 : Int) := zB qA
                 have q113 : x13_2 < (l4.length : Int) := zB qA
                 obtain ⟨ad113, e113, hx113_0⟩ := Kd.at_int HR4.out x13_2 p113 q113
                 obtain rfl : ad112 = ad113 := (by injection e113)
                 replace p113 := eq_true p113
                 replace q113 := eq_true q113
                 have p114 : 0 ≤ (x13_2 : Int) := zB qA
                 have q114 : x13_2 < (l4.length : Int) := zB qA
                 obtain ⟨ad114, e114, hx114_0⟩ := Kd.at_int HR4.out x13_2 p114 q114
                 obtain rfl : ad112 = ad114 := (by injection e114)
                 replace p114 := eq_true p114
                 replace q114 := eq_true q114
                 go_wp2_with (first | ((with_reducible refine gate_callee (f := 37) rfl ?_); refine goesL_ (some 63) rfl rfl Tryz.func37 (by kernel_rfl) rfl #[.int .i64 (rd l4 x13_2)] rfl qL ?_; (with_reducible refine (cubbyref08_Digits.calls kj13 (rd l4 x13_2) t115 _ A23.out).mono ?_); rintro e w' ⟨rfl, ⟨nd, rfl⟩⟩; refine ⟨_, rfl, ?_⟩))
                 go_roundg kj13
                 case measure => have := HJ5.out; have := HK2.out; have := HJ11.out; have := HJ13.out; omega
                 case rel => exact ⟨((x12_13 ++ (⟨#[32]⟩ : ByteArray)) ++ t115), (wrap64 (x13_2 + 1)), qT, qT, H', ⟨by have := HJ5.out; have := HK2.out; have := HJ11.out; have := HJ13.out; omega⟩, qD⟩
                ·rw [zD c24] at H
                 exact absurd H (by simp)
               ·rw [zD c22] at H
                exact absurd H (by simp)
            ·rw [zD c19] at H
             exact absurd H (by simp)
           ·rw [zD c18] at H
            have c18b0 := zG c18
            clear c18
            have H' := zA H
            clear H
            go_wp2
            go_roundg kj13
            case measure => have := HJ5.out; have := HK2.out; have := HJ11.out; have := HJ13.out; omega
            case rel => exact ⟨(x12_13), (wrap64 (x13_2 + 1)), qT, qT, H', ⟨by have := HJ5.out; have := HK2.out; have := HJ11.out; have := HJ13.out; omega⟩, qD⟩
      ·rw [zD c11] at H
       have c11b0 := zG c11
       clear c11
       by_cases c25 : x12_2.size + 1 ≤ 9223372036854775807
       ·rw [zC c25] at H
        have c25b0 := eq_true c25
        have c25b1 := zF c25
        try have c25b2 : (9223372036854775807 < x12_2.size + 1) = False := eq_false (Nat.not_lt.2 c25)
        simp only [Option.some.injEq, Prod.mk.injEq] at H
        obtain ⟨rfl, rfl⟩ := H
        go_wp2
        go_ret2
        exact ⟨by first | rfl | (simp; done) | (simp [*]; done), qD⟩
       ·rw [zD c25] at H
        exact absurd H (by simp)

mutual
def cubbyref08_numbers.j0 : Nat → Bool → List Int → Int → Bool → Int → Int → Int → Int → ByteArray → List Int → Option (List Int)
 | 0, _, _, _, _, _, _, _, _, _, _ => none
 | k + 1, x1, x5, x8, x9, x121000, x121001, x121002, x121003, x121004, x121005 => if x9 = true then ((some (([x121001, x121002, x121003] : List Int) : List Int)).bind fun y124 => (if x5.length + y124.length < 17592186044416 then (some (x5 ++ y124)) else (none))) else (if x8 = 9 then ((some (([x121002, x121003] : List Int) : List Int)).bind fun y130 => (if x5.length + y130.length < 17592186044416 then (some (x5 ++ y130)) else (none))) else (if x8 = 10 then (cubbyref08_numbers.j1 k x1 x5 x8 (x8 == 10) x121000 x121001 x121002 x121003 x121004 x121005) else (if x8 = 12 then (cubbyref08_numbers.j1 k x1 x5 x8 (x8 == 12) x121000 x121001 x121002 x121003 x121004 x121005) else (cubbyref08_numbers.j1 k x1 x5 x8 (x8 == 14) x121000 x121001 x121002 x121003 x121004 x121005))))
def cubbyref08_numbers.j1 : Nat → Bool → List Int → Int → Bool → Int → Int → Int → Int → ByteArray → List Int → Option (List Int)
 | 0, _, _, _, _, _, _, _, _, _, _ => none
 | k + 1, x1, x5, x8, x33, x121000, x121001, x121002, x121003, x121004, x121005 => if x33 = true then (if x5.length < 17592186044416 then (some (x5 ++ [x121002])) else (none)) else (if x8 = 13 then ((some (([x121002, x121003, x121001] : List Int) : List Int)).bind fun y139 => (if x5.length + y139.length < 17592186044416 then (some (x5 ++ y139)) else (none))) else (if x8 = 11 then (if x5.length < 17592186044416 then ((some (x5 ++ [x121001] : List Int)).bind fun y145 => (if x1 = true then (if y145.length < 17592186044416 then (some (y145 ++ [x121002])) else (none)) else (if y145.length + x121005.length < 17592186044416 then (some (y145 ++ x121005)) else (none)))) else (none)) else ((some (([x121001, x121002] : List Int) : List Int)).bind fun y154 => (if x5.length + y154.length < 17592186044416 then (some (x5 ++ y154)) else (none)))))
end
def cubbyref08_numbers.f (k : Nat) (a0_0 : Int) (a0_1 : Int) (a0_2 : Int) (a0_3 : Int) (a0_4 : ByteArray) (l0_5 : List Int) (a1 : Bool) : Option (List Int) := (some (([] : List Int) : List Int)).bind fun y121 => (if a0_0 = 3 then (cubbyref08_numbers.j0 k a1 y121 a0_0 (a0_0 == 3) a0_0 a0_1 a0_2 a0_3 a0_4 l0_5) else (if a0_0 = 4 then (cubbyref08_numbers.j0 k a1 y121 a0_0 (a0_0 == 4) a0_0 a0_1 a0_2 a0_3 a0_4 l0_5) else (if a0_0 = 5 then (cubbyref08_numbers.j0 k a1 y121 a0_0 (a0_0 == 5) a0_0 a0_1 a0_2 a0_3 a0_4 l0_5) else (if a0_0 = 6 then (cubbyref08_numbers.j0 k a1 y121 a0_0 (a0_0 == 6) a0_0 a0_1 a0_2 a0_3 a0_4 l0_5) else (cubbyref08_numbers.j0 k a1 y121 a0_0 (a0_0 == 7) a0_0 a0_1 a0_2 a0_3 a0_4 l0_5)))))
set_option maxHeartbeats 8000000 in
set_option maxRecDepth 100000 in
theorem cubbyref08_numbers.calls (k : Nat) (a0_0 : Int) (a0_1 : Int) (a0_2 : Int) (a0_3 : Int) (a0_4 : ByteArray) (A0_5 : Option Addr) (c0_5 : Nat) (l0_5 : List Int) (a1 : Bool) (r : List Int) (w : World) (hr0_5 : Kd.C (Kd.int .i64) w A0_5 l0_5.length l0_5) (hc0_5 : l0_5.length ≤ c0_5) (h : cubbyref08_numbers.f k a0_0 a0_1 a0_2 a0_3 a0_4 l0_5 a1 = some r) :
 Calls Tryz.prog 39 #[.agg #[.int .i64 a0_0, .int .i64 a0_1, .int .i64 a0_2, .int .i64 a0_3, .string a0_4, .slice A0_5 l0_5.length c0_5], .bool a1] w fun e w' => ∃ v0_ : Value, e = .returned (v0_) ∧ Kd.R (Kd.int .i64) 3 w' w.heap.size (fun _ => True) v0_ r ∧ Below w.heap.size w w' := by
 have hu44 := Tryz.underlying44
 have HR0_5 := zA hr0_5
 have HC0_5 := zA hc0_5
 clear hr0_5 hc0_5
 have HB := zA (Below.refl w.heap.size w)
 have H := h; clear h; unfold cubbyref08_numbers.f at H
 obtain ⟨y121, hy121⟩ : ∃ y_ : List Int, y_ = (([] : List Int)) := ⟨_, rfl⟩
 replace H : (if a0_0 = 3 then (cubbyref08_numbers.j0 k a1 y121 a0_0 (a0_0 == 3) a0_0 a0_1 a0_2 a0_3 a0_4 l0_5) else (if a0_0 = 4 then (cubbyref08_numbers.j0 k a1 y121 a0_0 (a0_0 == 4) a0_0 a0_1 a0_2 a0_3 a0_4 l0_5) else (if a0_0 = 5 then (cubbyref08_numbers.j0 k a1 y121 a0_0 (a0_0 == 5) a0_0 a0_1 a0_2 a0_3 a0_4 l0_5) else (if a0_0 = 6 then (cubbyref08_numbers.j0 k a1 y121 a0_0 (a0_0 == 6) a0_0 a0_1 a0_2 a0_3 a0_4 l0_5) else (cubbyref08_numbers.j0 k a1 y121 a0_0 (a0_0 == 7) a0_0 a0_1 a0_2 a0_3 a0_4 l0_5))))) = some r := by (try rw [hy121]); first | with_reducible exact H | exact (zJ _ _).symm.trans H | exact H
 have Ny121 := zA hy121
 clear hy121
 have HC3 := zA H
 clear H
 go_enter Tryz.func39, Tryz.ntmps39
 go_upto_if 9 with (first | ((with_reducible refine gate_dst (N := 2) rfl ?_); refine box_event (by rfl) (N := 2) (by rfl) (cs := #[.int .i64 a0_0, .int .i64 a0_1, .int .i64 a0_2, .int .i64 a0_3, .string a0_4, .slice A0_5 l0_5.length c0_5]) (t := 44) ?hr ?_; (case hr => go_simp <;> rfl); intro gb120 hg w4 hbox hb; have BK120 := zA (hbox); have GW120 := qG hg; have GE120 := GW120; replace HB := qH hb; clear hb hbox hg) | ((with_reducible refine gate_dst (N := 6) rfl ?_); refine Kd.R_lit (Kd.int .i64) _ 3 (by rfl) (N := 6) (by rfl) (xs := ([] : List Int)) (inner := []) (ok := fun _ => True) (okp := fun _ => True) ?hr ?hp (fun _ hk => hk) trivial (Below.refl _ _) (Nat.le_refl _) (by simp) ?_; (case hr => go_simp <;> rfl); (case hp => exact (Reps.none _ _)); intro v122 w5 ho6 hb hg_ hnew_; clear hg_ hnew_; (first | rw [← Ny121.out] at ho6 | (simp only [Int.reduceToNat] at ho6; rw [← Ny121.out] at ho6)); have HO123 := zA (Kd.R_lower ho6 (below_size qB)); replace BK120 := qW BK120 hb; replace HB := qH hb; clear hb ho6; have z7_0 := bk6 BK120.out))
 (try simp only [Act.put, List.setIfInBounds_toArray, List.set_cons_zero, List.set_cons_succ])
 go_cut [9] (fun v9 wc => ∃ (kq : Nat) (x9_2 : Bool), v9 = .bool x9_2 ∧ Aside0 (cubbyref08_numbers.j0 kq a1 y121 a0_0 x9_2 a0_0 a0_1 a0_2 a0_3 a0_4 l0_5 = some r) ∧ Aside0 (kq ≤ k) ∧ Aside0 (Kd.R (Kd.int .i64) 3 wc w.heap.size (fun _ => True) v122 y121) ∧ Aside0 (wc.heap[gb120]? = some (.cells #[.int .i64 a0_0, .int .i64 a0_1, .int .i64 a0_2, .int .i64 a0_3, .string a0_4, (.slice A0_5 l0_5.length c0_5)] 44 (0, 0))) ∧ Aside0 (Below w.heap.size w wc))
 case first =>
  have H := HC3.out
  clear HC3
  by_cases c8 : a0_0 = 3
  ·rw [zC c8] at H
   obtain ⟨c8b0, c8b1⟩ := qe c8; clear c8
   (first | rw [c8b0] | (simp only [i64_w, i32_w]; rw [c8b0]) | skip)
   have H' := zA H
   clear H
   go_wp2
   go_meet
   case rel => exact ⟨_, ((a0_0 == 3)), qT, H', ⟨qO⟩, ⟨qR HO123.out⟩, ⟨qK BK120.out⟩, ⟨qB⟩⟩
  ·rw [zD c8] at H
   obtain ⟨c8b0, c8b1⟩ := qn c8
   (first | rw [c8b0] | (simp only [i64_w, i32_w]; rw [c8b0]) | skip)
   by_cases c9 : a0_0 = 4
   ·rw [zC c9] at H
    obtain ⟨c9b0, c9b1⟩ := qe c9; clear c9
    have H' := zA H
    clear H
    go_wp2
    go_meet
    case rel => exact ⟨_, ((a0_0 == 4)), qT, H', ⟨qO⟩, ⟨qR HO123.out⟩, ⟨qK BK120.out⟩, ⟨qB⟩⟩
   ·rw [zD c9] at H
    obtain ⟨c9b0, c9b1⟩ := qn c9
    by_cases c10 : a0_0 = 5
    ·rw [zC c10] at H
     obtain ⟨c10b0, c10b1⟩ := qe c10; clear c10
     have H' := zA H
     clear H
     go_wp2
     go_meet
     case rel => exact ⟨_, ((a0_0 == 5)), qT, H', ⟨qO⟩, ⟨qR HO123.out⟩, ⟨qK BK120.out⟩, ⟨qB⟩⟩
    ·rw [zD c10] at H
     obtain ⟨c10b0, c10b1⟩ := qn c10
     by_cases c11 : a0_0 = 6
     ·rw [zC c11] at H
      obtain ⟨c11b0, c11b1⟩ := qe c11; clear c11
      have H' := zA H
      clear H
      go_wp2
      go_meet
      case rel => exact ⟨_, ((a0_0 == 6)), qT, H', ⟨qO⟩, ⟨qR HO123.out⟩, ⟨qK BK120.out⟩, ⟨qB⟩⟩
     ·rw [zD c11] at H
      obtain ⟨c11b0, c11b1⟩ := qn c11
      have H' := zA H
      clear H
      go_wp2
      go_meet
      case rel => exact ⟨_, ((a0_0 == 7)), qT, H', ⟨qO⟩, ⟨qR HO123.out⟩, ⟨qK BK120.out⟩, ⟨qB⟩⟩
 case rest =>
  clear HC3
  try clear c1; try clear p2; try clear c3; try clear c8; try clear c8b0 c8b1; try clear c9; try clear c9b0 c9b1; try clear c10; try clear c10b0 c10b1; try clear c11; try clear c11b0 c11b1; try clear z7_0
  obtain ⟨kq, x9_2, rfl, HA, HJ2, HO_5, BK120, HB⟩ := hcut
  cases kq with
  | zero => exact absurd HA.out (by simp [cubbyref08_numbers.j0])
  | succ kj2 =>
   have H := HA.out
   clear HA
   simp only [cubbyref08_numbers.j0] at H
   by_cases c12 : x9_2 = true
   ·subst c12
    have H1 : ((some (([a0_1, a0_2, a0_3] : List Int) : List Int)).bind fun y124 => (if y121.length + y124.length < 17592186044416 then (some (y121 ++ y124)) else (none))) = some r := by rw [zC rfl] at H; exact H
    clear H
    have H := H1
    clear H1
    obtain ⟨y124, hy124⟩ : ∃ y_ : List Int, y_ = (([a0_1, a0_2, a0_3] : List Int)) := ⟨_, rfl⟩
    replace H : (if y121.length + y124.length < 17592186044416 then (some (y121 ++ y124)) else (none)) = some r := by (try rw [hy124]); first | with_reducible exact H | exact (zJ _ _).symm.trans H | exact H
    have Ny124 := zA hy124
    clear hy124
    by_cases c13 : y121.length + y124.length < 17592186044416
    ·rw [zC c13] at H
     have LMc13 := zA c13
     clear c13
     obtain ⟨y127, hy127⟩ : ∃ y_ : List Int, y_ = (y121 ++ y124) := ⟨_, rfl⟩
     replace H : (some y127) = some r := by (try rw [hy127]); first | with_reducible exact H | exact (zJ _ _).symm.trans H | exact H
     have Ny127 := zA hy127
     clear hy127
     obtain rfl := zI H
     have z14_0 := bk6 BK120.out
     go_wp2_with (first | ((with_reducible refine gate_dst (N := 22) rfl ?_); refine Kd.R_lit (Kd.int .i64) _ 3 (by rfl) (N := 22) (by rfl) (xs := ([a0_1, a0_2, a0_3] : List Int)) (inner := [.int .i64 a0_1, .int .i64 a0_2, .int .i64 a0_3]) (ok := fun _ => True) (okp := fun _ => True) ?hr ?hp (fun _ hk => hk) trivial (Below.refl _ _) (Nat.le_refl _) (by simp) ?_; (case hr => go_simp <;> rfl); (case hp => exact (Reps.one (show Kd.M (Kd.int .i64) _ _ _ a0_1 [.int .i64 a0_1] from rfl) (Reps.one (show Kd.M (Kd.int .i64) _ _ _ a0_2 [.int .i64 a0_2] from rfl) (Reps.one (show Kd.M (Kd.int .i64) _ _ _ a0_3 [.int .i64 a0_3] from rfl) (Reps.none _ _))))); intro v125 w15 ho16 hb hg_ hnew_; clear hg_ hnew_; (first | rw [← Ny124.out] at ho16 | (simp only [Int.reduceToNat] at ho16; rw [← Ny124.out] at ho16)); have HO126 := zA (Kd.R_lower (Kd.R_new' ho16 (Kd.R_lt (qR HO_5.out))) (below_size qB)); replace HO_5 := zA (Kd.R_elder' (qR HO_5.out) (Kd.R_base ho16) hb); replace BK120 := qW BK120 hb; replace HB := qH hb; clear hb ho16; obtain ⟨Ao18, co18, eo18⟩ := Kd.R_slice HO126.out; subst eo18) | ((with_reducible refine gate_builtin (b := .append) (xs := #[.tmp 15, .tmp 22]) rfl ?_); at_builtin; refine Kd.R_append_rows (Kd.int .i64) (w0 := w) w.heap.size rfl (.tmp 15) (.tmp 22) 42 3 (.int .i64 0) 8 rfl Tryz.underlying42 info3 rfl (by decide) (by omega) v122 y121 y124 _ _ _ (fun k_ => some k_ ≠ (.slice Ao18 y124.length co18 : Value).ownBlock) (fun _ => False) rfl rfl ?aO ?aR (fun _ _ h => h) (fun _ h => h.elim) ?aF ?aB ?aS ?aL ?_; (case aR => repeat (first | exact (Kd.R_reads' HO126.out).2.2 | (with_reducible refine Kd.C_alloc ?_ _) | (with_reducible refine Kd.C_drewN ?_ _) | (with_reducible refine Kd.C_drew ?_))); (case aB => exact qB); (case aF => exact (fun k_ hk => Kd.fresh' (Kd.R_lt (qR HO126.out)) k_ hk)); (case aO => exact (by (with_reducible repeat (first | apply Kd.R_alloc | apply Kd.R_drewN | apply Kd.R_drew)); exact Kd.R_mono HO_5.out (fun _ hk => hk.2))); (case aS => exact (below_size qB)); (case aL => have := LMc13.out; omega); intro v128 w17 ho hb hg hat; rw [← Ny127.out] at ho; replace BK120 := zA (blk_grown (qK BK120.out) hg (Kd.R_ne HO_5.out BK120.out (by decide))); replace HO126 := zA (Kd.R_after (ok := (fun _ => True)) (qR HO126.out) hg hat); replace HB := zA (hb); have HO129 := zA (ho); clear HO_5; clear ho hb hg hat))
     go_ret
     exact ⟨_, qE, by (with_reducible repeat (first | apply Kd.R_alloc | apply Kd.R_drewN | apply Kd.R_drew)); exact Kd.R_mono HO129.out (fun _ hk => trivial), qB⟩
    ·rw [zD c13] at H
     exact absurd H (by simp)
   ·replace c12 := Bool.eq_false_iff.mpr c12
    subst c12
    have H1 : (if a0_0 = 9 then ((some (([a0_2, a0_3] : List Int) : List Int)).bind fun y130 => (if y121.length + y130.length < 17592186044416 then (some (y121 ++ y130)) else (none))) else (if a0_0 = 10 then (cubbyref08_numbers.j1 kj2 a1 y121 a0_0 (a0_0 == 10) a0_0 a0_1 a0_2 a0_3 a0_4 l0_5) else (if a0_0 = 12 then (cubbyref08_numbers.j1 kj2 a1 y121 a0_0 (a0_0 == 12) a0_0 a0_1 a0_2 a0_3 a0_4 l0_5) else (cubbyref08_numbers.j1 kj2 a1 y121 a0_0 (a0_0 == 14) a0_0 a0_1 a0_2 a0_3 a0_4 l0_5)))) = some r := by rw [zD (show ¬ (false = true) by decide)] at H; exact H
    clear H
    have H := H1
    clear H1
    by_cases c19 : a0_0 = 9
    ·rw [zC c19] at H
     obtain ⟨c19b0, c19b1⟩ := qe c19; clear c19
     obtain ⟨y130, hy130⟩ : ∃ y_ : List Int, y_ = (([a0_2, a0_3] : List Int)) := ⟨_, rfl⟩
     replace H : (if y121.length + y130.length < 17592186044416 then (some (y121 ++ y130)) else (none)) = some r := by (try rw [hy130]); first | with_reducible exact H | exact (zJ _ _).symm.trans H | exact H
     have Ny130 := zA hy130
     clear hy130
     by_cases c20 : y121.length + y130.length < 17592186044416
     ·rw [zC c20] at H
      have LMc20 := zA c20
      clear c20
      obtain ⟨y133, hy133⟩ : ∃ y_ : List Int, y_ = (y121 ++ y130) := ⟨_, rfl⟩
      replace H : (some y133) = some r := by (try rw [hy133]); first | with_reducible exact H | exact (zJ _ _).symm.trans H | exact H
      have Ny133 := zA hy133
      clear hy133
      obtain rfl := zI H
      have z21_0 := bk6 BK120.out
      go_wp2_with (first | ((with_reducible refine gate_dst (N := 31) rfl ?_); refine Kd.R_lit (Kd.int .i64) _ 3 (by rfl) (N := 31) (by rfl) (xs := ([a0_2, a0_3] : List Int)) (inner := [.int .i64 a0_2, .int .i64 a0_3]) (ok := fun _ => True) (okp := fun _ => True) ?hr ?hp (fun _ hk => hk) trivial (Below.refl _ _) (Nat.le_refl _) (by simp) ?_; (case hr => go_simp <;> rfl); (case hp => exact (Reps.one (show Kd.M (Kd.int .i64) _ _ _ a0_2 [.int .i64 a0_2] from rfl) (Reps.one (show Kd.M (Kd.int .i64) _ _ _ a0_3 [.int .i64 a0_3] from rfl) (Reps.none _ _)))); intro v131 w22 ho23 hb hg_ hnew_; clear hg_ hnew_; (first | rw [← Ny130.out] at ho23 | (simp only [Int.reduceToNat] at ho23; rw [← Ny130.out] at ho23)); have HO132 := zA (Kd.R_lower (Kd.R_new' ho23 (Kd.R_lt (qR HO_5.out))) (below_size qB)); replace HO_5 := zA (Kd.R_elder' (qR HO_5.out) (Kd.R_base ho23) hb); replace BK120 := qW BK120 hb; replace HB := qH hb; clear hb ho23; obtain ⟨Ao25, co25, eo25⟩ := Kd.R_slice HO132.out; subst eo25) | ((with_reducible refine gate_builtin (b := .append) (xs := #[.tmp 26, .tmp 31]) rfl ?_); at_builtin; refine Kd.R_append_rows (Kd.int .i64) (w0 := w) w.heap.size rfl (.tmp 26) (.tmp 31) 42 3 (.int .i64 0) 8 rfl Tryz.underlying42 info3 rfl (by decide) (by omega) v122 y121 y130 _ _ _ (fun k_ => some k_ ≠ (.slice Ao25 y130.length co25 : Value).ownBlock) (fun _ => False) rfl rfl ?aO ?aR (fun _ _ h => h) (fun _ h => h.elim) ?aF ?aB ?aS ?aL ?_; (case aR => repeat (first | exact (Kd.R_reads' HO132.out).2.2 | (with_reducible refine Kd.C_alloc ?_ _) | (with_reducible refine Kd.C_drewN ?_ _) | (with_reducible refine Kd.C_drew ?_))); (case aB => exact qB); (case aF => exact (fun k_ hk => Kd.fresh' (Kd.R_lt (qR HO132.out)) k_ hk)); (case aO => exact (by (with_reducible repeat (first | apply Kd.R_alloc | apply Kd.R_drewN | apply Kd.R_drew)); exact Kd.R_mono HO_5.out (fun _ hk => hk.2))); (case aS => exact (below_size qB)); (case aL => have := LMc20.out; omega); intro v134 w24 ho hb hg hat; rw [← Ny133.out] at ho; replace BK120 := zA (blk_grown (qK BK120.out) hg (Kd.R_ne HO_5.out BK120.out (by decide))); replace HO132 := zA (Kd.R_after (ok := (fun _ => True)) (qR HO132.out) hg hat); replace HB := zA (hb); have HO135 := zA (ho); clear HO_5; clear ho hb hg hat))
      go_ret
      exact ⟨_, qE, by (with_reducible repeat (first | apply Kd.R_alloc | apply Kd.R_drewN | apply Kd.R_drew)); exact Kd.R_mono HO135.out (fun _ hk => trivial), qB⟩
     ·rw [zD c20] at H
      exact absurd H (by simp)
    ·rw [zD c19] at H
     obtain ⟨c19b0, c19b1⟩ := qn c19
     have HC26 := zA H
     clear H
     go_upto_if 33 with (fail)
     go_cut [33] (fun v33 wc => ∃ (kq : Nat) (x33_25 : Bool), v33 = .bool x33_25 ∧ Aside0 (cubbyref08_numbers.j1 kq a1 y121 a0_0 x33_25 a0_0 a0_1 a0_2 a0_3 a0_4 l0_5 = some r) ∧ Aside0 (kq ≤ kj2) ∧ Aside0 (Kd.R (Kd.int .i64) 3 wc w.heap.size (fun _ => True) v122 y121) ∧ Aside0 (wc.heap[gb120]? = some (.cells #[.int .i64 a0_0, .int .i64 a0_1, .int .i64 a0_2, .int .i64 a0_3, .string a0_4, (.slice A0_5 l0_5.length c0_5)] 44 (0, 0))) ∧ Aside0 (Below w.heap.size w wc))
     case first =>
      have H := HC26.out
      clear HC26
      by_cases c27 : a0_0 = 10
      ·rw [zC c27] at H
       obtain ⟨c27b0, c27b1⟩ := qe c27; clear c27
       (first | rw [c27b0] | (simp only [i64_w, i32_w]; rw [c27b0]) | skip)
       have H' := zA H
       clear H
       go_wp2
       go_meet
       case rel => exact ⟨_, ((a0_0 == 10)), qT, H', ⟨by have := HJ2.out; first | omega | exact Nat.le_refl _⟩, ⟨qR HO_5.out⟩, ⟨qK BK120.out⟩, ⟨qB⟩⟩
      ·rw [zD c27] at H
       obtain ⟨c27b0, c27b1⟩ := qn c27
       (first | rw [c27b0] | (simp only [i64_w, i32_w]; rw [c27b0]) | skip)
       by_cases c28 : a0_0 = 12
       ·rw [zC c28] at H
        obtain ⟨c28b0, c28b1⟩ := qe c28; clear c28
        have H' := zA H
        clear H
        go_wp2
        go_meet
        case rel => exact ⟨_, ((a0_0 == 12)), qT, H', ⟨by have := HJ2.out; first | omega | exact Nat.le_refl _⟩, ⟨qR HO_5.out⟩, ⟨qK BK120.out⟩, ⟨qB⟩⟩
       ·rw [zD c28] at H
        obtain ⟨c28b0, c28b1⟩ := qn c28
        have H' := zA H
        clear H
        go_wp2
        go_meet
        case rel => exact ⟨_, ((a0_0 == 14)), qT, H', ⟨by have := HJ2.out; first | omega | exact Nat.le_refl _⟩, ⟨qR HO_5.out⟩, ⟨qK BK120.out⟩, ⟨qB⟩⟩
     case rest =>
      clear HC26
      try clear c1; try clear c2; try clear p2; try clear c3; try clear c8; try clear c8b0 c8b1; try clear c9; try clear c9b0 c9b1; try clear c10; try clear c10b0 c10b1; try clear c11; try clear c11b0 c11b1; try clear c12; try clear c13; try clear c19; try clear c19b0 c19b1; try clear c20; try clear c27; try clear c27b0 c27b1; try clear c28; try clear c28b0 c28b1; try clear z14_0; try clear z21_0; try clear z7_0
      obtain ⟨kq, x33_25, rfl, HA, HJ25, HO_5, BK120, HB⟩ := hcut
      cases kq with
      | zero => exact absurd HA.out (by simp [cubbyref08_numbers.j1])
      | succ kj25 =>
       have H := HA.out
       clear HA
       simp only [cubbyref08_numbers.j1] at H
       by_cases c29 : x33_25 = true
       ·subst c29
        have H1 : (if y121.length < 17592186044416 then (some (y121 ++ [a0_2])) else (none)) = some r := by rw [zC rfl] at H; exact H
        clear H
        have H := H1
        clear H1
        by_cases c30 : y121.length < 17592186044416
        ·rw [zC c30] at H
         have LMc30 := zA c30
         clear c30
         obtain ⟨y136, hy136⟩ : ∃ y_ : List Int, y_ = (y121 ++ [a0_2]) := ⟨_, rfl⟩
         replace H : (some y136) = some r := by (try rw [hy136]); first | with_reducible exact H | exact (zJ _ _).symm.trans H | exact H
         have Ny136 := zA hy136
         clear hy136
         obtain rfl := zI H
         have z31_0 := bk6 BK120.out
         go_wp2_with (first | ((with_reducible refine gate_builtin (b := .append) (xs := #[.tmp 37, .tmp 40]) rfl ?_); at_builtin; refine Kd.R_append (Kd.int .i64) (w0 := w) w.heap.size rfl (.tmp 37) (.tmp 40) 42 3 (.int .i64 0) 8 rfl Tryz.underlying42 info3 rfl (by decide) (by omega) v122 y121 a0_2 [.int .i64 a0_2] (fun _ => True) (fun _ => False) rfl rfl ?aP (fun _ hk => hk.elim) ?aF ?aO ?aB ?aS ?aL ?_; (case aP => exact rfl); (case aB => exact qB); (case aF => exact (fun _ _ => trivial)); (case aO => exact (qR HO_5.out)); (case aS => exact (below_size qB)); (case aL => have := LMc30.out; omega); intro v137 w32 ho hb hg hat; rw [← Ny136.out] at ho; replace BK120 := zA (blk_grown (qK BK120.out) hg (Kd.R_ne HO_5.out BK120.out (by decide))); replace HB := zA (hb); have HO138 := zA (ho); clear HO_5; clear ho hb hg hat))
         go_ret
         exact ⟨_, qE, qR HO138.out, qB⟩
        ·rw [zD c30] at H
         exact absurd H (by simp)
       ·replace c29 := Bool.eq_false_iff.mpr c29
        subst c29
        have H1 : (if a0_0 = 13 then ((some (([a0_2, a0_3, a0_1] : List Int) : List Int)).bind fun y139 => (if y121.length + y139.length < 17592186044416 then (some (y121 ++ y139)) else (none))) else (if a0_0 = 11 then (if y121.length < 17592186044416 then ((some (y121 ++ [a0_1] : List Int)).bind fun y145 => (if a1 = true then (if y145.length < 17592186044416 then (some (y145 ++ [a0_2])) else (none)) else (if y145.length + l0_5.length < 17592186044416 then (some (y145 ++ l0_5)) else (none)))) else (none)) else ((some (([a0_1, a0_2] : List Int) : List Int)).bind fun y154 => (if y121.length + y154.length < 17592186044416 then (some (y121 ++ y154)) else (none))))) = some r := by rw [zD (show ¬ (false = true) by decide)] at H; exact H
        clear H
        have H := H1
        clear H1
        by_cases c33 : a0_0 = 13
        ·rw [zC c33] at H
         obtain ⟨c33b0, c33b1⟩ := qe c33; clear c33
         obtain ⟨y139, hy139⟩ : ∃ y_ : List Int, y_ = (([a0_2, a0_3, a0_1] : List Int)) := ⟨_, rfl⟩
         replace H : (if y121.length + y139.length < 17592186044416 then (some (y121 ++ y139)) else (none)) = some r := by (try rw [hy139]); first | with_reducible exact H | exact (zJ _ _).symm.trans H | exact H
         have Ny139 := zA hy139
         clear hy139
         by_cases c34 : y121.length + y139.length < 17592186044416
         ·rw [zC c34] at H
          have LMc34 := zA c34
          clear c34
          obtain ⟨y142, hy142⟩ : ∃ y_ : List Int, y_ = (y121 ++ y139) := ⟨_, rfl⟩
          replace H : (some y142) = some r := by (try rw [hy142]); first | with_reducible exact H | exact (zJ _ _).symm.trans H | exact H
          have Ny142 := zA hy142
          clear hy142
          obtain rfl := zI H
          have z35_0 := bk6 BK120.out
          go_wp2_with (first | ((with_reducible refine gate_dst (N := 51) rfl ?_); refine Kd.R_lit (Kd.int .i64) _ 3 (by rfl) (N := 51) (by rfl) (xs := ([a0_2, a0_3, a0_1] : List Int)) (inner := [.int .i64 a0_2, .int .i64 a0_3, .int .i64 a0_1]) (ok := fun _ => True) (okp := fun _ => True) ?hr ?hp (fun _ hk => hk) trivial (Below.refl _ _) (Nat.le_refl _) (by simp) ?_; (case hr => go_simp <;> rfl); (case hp => exact (Reps.one (show Kd.M (Kd.int .i64) _ _ _ a0_2 [.int .i64 a0_2] from rfl) (Reps.one (show Kd.M (Kd.int .i64) _ _ _ a0_3 [.int .i64 a0_3] from rfl) (Reps.one (show Kd.M (Kd.int .i64) _ _ _ a0_1 [.int .i64 a0_1] from rfl) (Reps.none _ _))))); intro v140 w36 ho37 hb hg_ hnew_; clear hg_ hnew_; (first | rw [← Ny139.out] at ho37 | (simp only [Int.reduceToNat] at ho37; rw [← Ny139.out] at ho37)); have HO141 := zA (Kd.R_lower (Kd.R_new' ho37 (Kd.R_lt (qR HO_5.out))) (below_size qB)); replace HO_5 := zA (Kd.R_elder' (qR HO_5.out) (Kd.R_base ho37) hb); replace BK120 := qW BK120 hb; replace HB := qH hb; clear hb ho37; obtain ⟨Ao39, co39, eo39⟩ := Kd.R_slice HO141.out; subst eo39) | ((with_reducible refine gate_builtin (b := .append) (xs := #[.tmp 44, .tmp 51]) rfl ?_); at_builtin; refine Kd.R_append_rows (Kd.int .i64) (w0 := w) w.heap.size rfl (.tmp 44) (.tmp 51) 42 3 (.int .i64 0) 8 rfl Tryz.underlying42 info3 rfl (by decide) (by omega) v122 y121 y139 _ _ _ (fun k_ => some k_ ≠ (.slice Ao39 y139.length co39 : Value).ownBlock) (fun _ => False) rfl rfl ?aO ?aR (fun _ _ h => h) (fun _ h => h.elim) ?aF ?aB ?aS ?aL ?_; (case aR => repeat (first | exact (Kd.R_reads' HO141.out).2.2 | (with_reducible refine Kd.C_alloc ?_ _) | (with_reducible refine Kd.C_drewN ?_ _) | (with_reducible refine Kd.C_drew ?_))); (case aB => exact qB); (case aF => exact (fun k_ hk => Kd.fresh' (Kd.R_lt (qR HO141.out)) k_ hk)); (case aO => exact (by (with_reducible repeat (first | apply Kd.R_alloc | apply Kd.R_drewN | apply Kd.R_drew)); exact Kd.R_mono HO_5.out (fun _ hk => hk.2))); (case aS => exact (below_size qB)); (case aL => have := LMc34.out; omega); intro v143 w38 ho hb hg hat; rw [← Ny142.out] at ho; replace BK120 := zA (blk_grown (qK BK120.out) hg (Kd.R_ne HO_5.out BK120.out (by decide))); replace HO141 := zA (Kd.R_after (ok := (fun _ => True)) (qR HO141.out) hg hat); replace HB := zA (hb); have HO144 := zA (ho); clear HO_5; clear ho hb hg hat))
          go_ret
          exact ⟨_, qE, by (with_reducible repeat (first | apply Kd.R_alloc | apply Kd.R_drewN | apply Kd.R_drew)); exact Kd.R_mono HO144.out (fun _ hk => trivial), qB⟩
         ·rw [zD c34] at H
          exact absurd H (by simp)
        ·rw [zD c33] at H
         obtain ⟨c33b0, c33b1⟩ := qn c33
         by_cases c40 : a0_0 = 11
         ·rw [zC c40] at H
          obtain ⟨c40b0, c40b1⟩ := qe c40; clear c40
          by_cases c41 : y121.length < 17592186044416
          ·rw [zC c41] at H
           have LMc41 := zA c41
           clear c41
           obtain ⟨y145, hy145⟩ : ∃ y_ : List Int, y_ = (y121 ++ [a0_1]) := ⟨_, rfl⟩
           replace H : (if a1 = true then (if y145.length < 17592186044416 then (some (y145 ++ [a0_2])) else (none)) else (if y145.length + l0_5.length < 17592186044416 then (some (y145 ++ l0_5)) else (none))) = some r := by (try rw [hy145]); first | with_reducible exact H | exact (zJ _ _).symm.trans H | exact H
           have Ny145 := zA hy145
           clear hy145
           by_cases c42 : a1 = true
           ·subst c42
            have H1 : (if y145.length < 17592186044416 then (some (y145 ++ [a0_2])) else (none)) = some r := by rw [zC rfl] at H; exact H
            clear H
            have H := H1
            clear H1
            by_cases c43 : y145.length < 17592186044416
            ·rw [zC c43] at H
             have LMc43 := zA c43
             clear c43
             obtain ⟨y148, hy148⟩ : ∃ y_ : List Int, y_ = (y145 ++ [a0_2]) := ⟨_, rfl⟩
             replace H : (some y148) = some r := by (try rw [hy148]); first | with_reducible exact H | exact (zJ _ _).symm.trans H | exact H
             have Ny148 := zA hy148
             clear hy148
             obtain rfl := zI H
             have z44_0 := bk6 BK120.out
             go_wp2_with (first | ((with_reducible refine gate_builtin (b := .append) (xs := #[.tmp 55, .tmp 58]) rfl ?_); at_builtin; refine Kd.R_append (Kd.int .i64) (w0 := w) w.heap.size rfl (.tmp 55) (.tmp 58) 42 3 (.int .i64 0) 8 rfl Tryz.underlying42 info3 rfl (by decide) (by omega) v122 y121 a0_1 [.int .i64 a0_1] (fun _ => True) (fun _ => False) rfl rfl ?aP (fun _ hk => hk.elim) ?aF ?aO ?aB ?aS ?aL ?_; (case aP => exact rfl); (case aB => exact qB); (case aF => exact (fun _ _ => trivial)); (case aO => exact (qR HO_5.out)); (case aS => exact (below_size qB)); (case aL => have := LMc41.out; omega); intro v146 w45 ho hb hg hat; rw [← Ny145.out] at ho; replace BK120 := zA (blk_grown (qK BK120.out) hg (Kd.R_ne HO_5.out BK120.out (by decide))); replace HB := zA (hb); have HO147 := zA (ho); clear HO_5; clear ho hb hg hat; have z46_0 := bk6 BK120.out) | ((with_reducible refine gate_builtin (b := .append) (xs := #[.tmp 61, .tmp 64]) rfl ?_); at_builtin; refine Kd.R_append (Kd.int .i64) (w0 := w) w.heap.size rfl (.tmp 61) (.tmp 64) 42 3 (.int .i64 0) 8 rfl Tryz.underlying42 info3 rfl (by decide) (by omega) v146 y145 a0_2 [.int .i64 a0_2] (fun _ => True) (fun _ => False) rfl rfl ?aP (fun _ hk => hk.elim) ?aF ?aO ?aB ?aS ?aL ?_; (case aP => exact rfl); (case aB => exact qB); (case aF => exact (fun _ _ => trivial)); (case aO => exact (qR HO147.out)); (case aS => exact (below_size qB)); (case aL => have := LMc43.out; omega); intro v149 w47 ho hb hg hat; rw [← Ny148.out] at ho; replace BK120 := zA (blk_grown (qK BK120.out) hg (Kd.R_ne HO147.out BK120.out (by decide))); replace HB := zA (hb); have HO150 := zA (ho); clear HO147; clear ho hb hg hat))
             go_ret
             exact ⟨_, qE, qR HO150.out, qB⟩
            ·rw [zD c43] at H
             exact absurd H (by simp)
           ·replace c42 := Bool.eq_false_iff.mpr c42
            subst c42
            have H1 : (if y145.length + l0_5.length < 17592186044416 then (some (y145 ++ l0_5)) else (none)) = some r := by rw [zD (show ¬ (false = true) by decide)] at H; exact H
            clear H
            have H := H1
            clear H1
            by_cases c48 : y145.length + l0_5.length < 17592186044416
            ·rw [zC c48] at H
             have LMc48 := zA c48
             clear c48
             obtain ⟨y151, hy151⟩ : ∃ y_ : List Int, y_ = (y145 ++ l0_5) := ⟨_, rfl⟩
             replace H : (some y151) = some r := by (try rw [hy151]); first | with_reducible exact H | exact (zJ _ _).symm.trans H | exact H
             have Ny151 := zA hy151
             clear hy151
             obtain rfl := zI H
             have z49_0 := bk6 BK120.out
             go_wp2_with (first | ((with_reducible refine gate_builtin (b := .append) (xs := #[.tmp 55, .tmp 58]) rfl ?_); at_builtin; refine Kd.R_append (Kd.int .i64) (w0 := w) w.heap.size rfl (.tmp 55) (.tmp 58) 42 3 (.int .i64 0) 8 rfl Tryz.underlying42 info3 rfl (by decide) (by omega) v122 y121 a0_1 [.int .i64 a0_1] (fun _ => True) (fun _ => False) rfl rfl ?aP (fun _ hk => hk.elim) ?aF ?aO ?aB ?aS ?aL ?_; (case aP => exact rfl); (case aB => exact qB); (case aF => exact (fun _ _ => trivial)); (case aO => exact (qR HO_5.out)); (case aS => exact (below_size qB)); (case aL => have := LMc41.out; omega); intro v146 w50 ho hb hg hat; rw [← Ny145.out] at ho; replace BK120 := zA (blk_grown (qK BK120.out) hg (Kd.R_ne HO_5.out BK120.out (by decide))); replace HB := zA (hb); have HO147 := zA (ho); clear HO_5; clear ho hb hg hat; have z51_0 := bk6 BK120.out) | ((with_reducible refine gate_builtin (b := .append) (xs := #[.tmp 66, .tmp 68]) rfl ?_); at_builtin; refine Kd.R_append_rows (Kd.int .i64) (w0 := w) w.heap.size rfl (.tmp 66) (.tmp 68) 42 3 (.int .i64 0) 8 rfl Tryz.underlying42 info3 rfl (by decide) (by omega) v146 y145 l0_5 _ _ _ (fun _ => True) (fun _ => False) rfl rfl ?aO ?aR (fun _ _ h => h) (fun _ h => h.elim) ?aF ?aB ?aS ?aL ?_; (case aR => exact qCB HR0_5.out); (case aB => exact qB); (case aF => exact (fun _ _ => trivial)); (case aO => exact (qR HO147.out)); (case aS => exact (below_size qB)); (case aL => have := LMc48.out; omega); intro v152 w52 ho hb hg hat; rw [← Ny151.out] at ho; replace BK120 := zA (blk_grown (qK BK120.out) hg (Kd.R_ne HO147.out BK120.out (by decide))); replace HB := zA (hb); have HO153 := zA (ho); clear HO147; clear ho hb hg hat))
             go_ret
             exact ⟨_, qE, qR HO153.out, qB⟩
            ·rw [zD c48] at H
             exact absurd H (by simp)
          ·rw [zD c41] at H
           exact absurd H (by simp)
         ·rw [zD c40] at H
          obtain ⟨c40b0, c40b1⟩ := qn c40
          obtain ⟨y154, hy154⟩ : ∃ y_ : List Int, y_ = (([a0_1, a0_2] : List Int)) := ⟨_, rfl⟩
          replace H : (if y121.length + y154.length < 17592186044416 then (some (y121 ++ y154)) else (none)) = some r := by (try rw [hy154]); first | with_reducible exact H | exact (zJ _ _).symm.trans H | exact H
          have Ny154 := zA hy154
          clear hy154
          by_cases c53 : y121.length + y154.length < 17592186044416
          ·rw [zC c53] at H
           have LMc53 := zA c53
           clear c53
           obtain ⟨y157, hy157⟩ : ∃ y_ : List Int, y_ = (y121 ++ y154) := ⟨_, rfl⟩
           replace H : (some y157) = some r := by (try rw [hy157]); first | with_reducible exact H | exact (zJ _ _).symm.trans H | exact H
           have Ny157 := zA hy157
           clear hy157
           obtain rfl := zI H
           have z54_0 := bk6 BK120.out
           go_wp2_with (first | ((with_reducible refine gate_dst (N := 75) rfl ?_); refine Kd.R_lit (Kd.int .i64) _ 3 (by rfl) (N := 75) (by rfl) (xs := ([a0_1, a0_2] : List Int)) (inner := [.int .i64 a0_1, .int .i64 a0_2]) (ok := fun _ => True) (okp := fun _ => True) ?hr ?hp (fun _ hk => hk) trivial (Below.refl _ _) (Nat.le_refl _) (by simp) ?_; (case hr => go_simp <;> rfl); (case hp => exact (Reps.one (show Kd.M (Kd.int .i64) _ _ _ a0_1 [.int .i64 a0_1] from rfl) (Reps.one (show Kd.M (Kd.int .i64) _ _ _ a0_2 [.int .i64 a0_2] from rfl) (Reps.none _ _)))); intro v155 w55 ho56 hb hg_ hnew_; clear hg_ hnew_; (first | rw [← Ny154.out] at ho56 | (simp only [Int.reduceToNat] at ho56; rw [← Ny154.out] at ho56)); have HO156 := zA (Kd.R_lower (Kd.R_new' ho56 (Kd.R_lt (qR HO_5.out))) (below_size qB)); replace HO_5 := zA (Kd.R_elder' (qR HO_5.out) (Kd.R_base ho56) hb); replace BK120 := qW BK120 hb; replace HB := qH hb; clear hb ho56; obtain ⟨Ao58, co58, eo58⟩ := Kd.R_slice HO156.out; subst eo58) | ((with_reducible refine gate_builtin (b := .append) (xs := #[.tmp 70, .tmp 75]) rfl ?_); at_builtin; refine Kd.R_append_rows (Kd.int .i64) (w0 := w) w.heap.size rfl (.tmp 70) (.tmp 75) 42 3 (.int .i64 0) 8 rfl Tryz.underlying42 info3 rfl (by decide) (by omega) v122 y121 y154 _ _ _ (fun k_ => some k_ ≠ (.slice Ao58 y154.length co58 : Value).ownBlock) (fun _ => False) rfl rfl ?aO ?aR (fun _ _ h => h) (fun _ h => h.elim) ?aF ?aB ?aS ?aL ?_; (case aR => repeat (first | exact (Kd.R_reads' HO156.out).2.2 | (with_reducible refine Kd.C_alloc ?_ _) | (with_reducible refine Kd.C_drewN ?_ _) | (with_reducible refine Kd.C_drew ?_))); (case aB => exact qB); (case aF => exact (fun k_ hk => Kd.fresh' (Kd.R_lt (qR HO156.out)) k_ hk)); (case aO => exact (by (with_reducible repeat (first | apply Kd.R_alloc | apply Kd.R_drewN | apply Kd.R_drew)); exact Kd.R_mono HO_5.out (fun _ hk => hk.2))); (case aS => exact (below_size qB)); (case aL => have := LMc53.out; omega); intro v158 w57 ho hb hg hat; rw [← Ny157.out] at ho; replace BK120 := zA (blk_grown (qK BK120.out) hg (Kd.R_ne HO_5.out BK120.out (by decide))); replace HO156 := zA (Kd.R_after (ok := (fun _ => True)) (qR HO156.out) hg hat); replace HB := zA (hb); have HO159 := zA (ho); clear HO_5; clear ho hb hg hat))
           go_ret
           exact ⟨_, qE, by (with_reducible repeat (first | apply Kd.R_alloc | apply Kd.R_drewN | apply Kd.R_drew)); exact Kd.R_mono HO159.out (fun _ hk => trivial), qB⟩
          ·rw [zD c53] at H
           exact absurd H (by simp)

mutual
def cubbyref08_word.j0 : Nat → Int → Bool → List ByteArray → Bool → Option (ByteArray)
 | 0, _, _, _, _ => none
 | k + 1, x0, x1, x5, x14 => if x14 = true then (if 0 ≤ x0 then (if x0 < (x5.length : Int) then (some (rdOf ByteArray.empty x5 x0)) else (none)) else (none)) else (if x1 = true then (cubbyref08_word.j1 k x0 x1 (x0 == 21)) else (cubbyref08_word.j1 k x0 x1 false))
def cubbyref08_word.j1 : Nat → Int → Bool → Bool → Option (ByteArray)
 | 0, _, _, _ => none
 | k + 1, x0, x1, x23 => if x23 = true then (some (⟨#[102, 101, 116, 99, 104]⟩ : ByteArray)) else (if x1 = true then (if x0 = 22 then (some (⟨#[115, 97, 118, 101]⟩ : ByteArray)) else (some (⟨#[]⟩ : ByteArray))) else (some (⟨#[]⟩ : ByteArray)))
end
def cubbyref08_word.f (k : Nat) (a0 : Int) (a1 : Bool) : Option (ByteArray) := (some (([(⟨#[]⟩ : ByteArray), (⟨#[99, 111, 110, 115, 116]⟩ : ByteArray), (⟨#[99, 111, 112, 121]⟩ : ByteArray), (⟨#[97, 100, 100]⟩ : ByteArray), (⟨#[115, 117, 98]⟩ : ByteArray), (⟨#[109, 117, 108]⟩ : ByteArray), (⟨#[108, 101, 115, 115]⟩ : ByteArray), (⟨#[100, 105, 118]⟩ : ByteArray), (⟨#[108, 111, 97, 100]⟩ : ByteArray), (⟨#[115, 116, 111, 114, 101]⟩ : ByteArray), (⟨#[111, 117, 116]⟩ : ByteArray), (⟨#[99, 97, 108, 108]⟩ : ByteArray), (⟨#[106, 117, 109, 112]⟩ : ByteArray), (⟨#[98, 114, 97, 110, 99, 104]⟩ : ByteArray), (⟨#[114, 101, 116]⟩ : ByteArray)] : List ByteArray) : List ByteArray)).bind fun y116 => (if a0 ≥ 0 then (cubbyref08_word.j0 k a0 a1 y116 (decide (a0 < (y116.length : Int)))) else (cubbyref08_word.j0 k a0 a1 y116 false))
set_option maxHeartbeats 8000000 in
set_option maxRecDepth 100000 in
theorem cubbyref08_word.calls (k : Nat) (a0 : Int) (a1 : Bool) (r : ByteArray) (w : World) (h : cubbyref08_word.f k a0 a1 = some r) :
 Calls Tryz.prog 38 #[.int .i64 a0, .bool a1] w fun e w' => e = .returned (.string r) ∧ Below w.heap.size w w' := by
 have HB := zA (Below.refl w.heap.size w)
 have H := h; clear h; unfold cubbyref08_word.f at H
 obtain ⟨y116, hy116⟩ : ∃ y_ : List ByteArray, y_ = (([(⟨#[]⟩ : ByteArray), (⟨#[99, 111, 110, 115, 116]⟩ : ByteArray), (⟨#[99, 111, 112, 121]⟩ : ByteArray), (⟨#[97, 100, 100]⟩ : ByteArray), (⟨#[115, 117, 98]⟩ : ByteArray), (⟨#[109, 117, 108]⟩ : ByteArray), (⟨#[108, 101, 115, 115]⟩ : ByteArray), (⟨#[100, 105, 118]⟩ : ByteArray), (⟨#[108, 111, 97, 100]⟩ : ByteArray), (⟨#[115, 116, 111, 114, 101]⟩ : ByteArray), (⟨#[111, 117, 116]⟩ : ByteArray), (⟨#[99, 97, 108, 108]⟩ : ByteArray), (⟨#[106, 117, 109, 112]⟩ : ByteArray), (⟨#[98, 114, 97, 110, 99, 104]⟩ : ByteArray), (⟨#[114, 101, 116]⟩ : ByteArray)] : List ByteArray)) := ⟨_, rfl⟩
 replace H : (if a0 ≥ 0 then (cubbyref08_word.j0 k a0 a1 y116 (decide (a0 < (y116.length : Int)))) else (cubbyref08_word.j0 k a0 a1 y116 false)) = some r := by (try rw [hy116]); first | with_reducible exact H | exact (zJ _ _).symm.trans H | exact H
 have Ny116 := zA hy116
 clear hy116
 have HC3 := zA H
 clear H
 go_enter Tryz.func38, Tryz.ntmps38
 go_upto_region 2 with (first | ((with_reducible refine gate_dst (N := 6) rfl ?_); (try (refine gate_guard (by rfl) ?_; dsimp only)); refine Kd.R_lit Kd.string _ 9 (by rfl) (N := 6) (by rfl) (xs := ([(⟨#[]⟩ : ByteArray), (⟨#[99, 111, 110, 115, 116]⟩ : ByteArray), (⟨#[99, 111, 112, 121]⟩ : ByteArray), (⟨#[97, 100, 100]⟩ : ByteArray), (⟨#[115, 117, 98]⟩ : ByteArray), (⟨#[109, 117, 108]⟩ : ByteArray), (⟨#[108, 101, 115, 115]⟩ : ByteArray), (⟨#[100, 105, 118]⟩ : ByteArray), (⟨#[108, 111, 97, 100]⟩ : ByteArray), (⟨#[115, 116, 111, 114, 101]⟩ : ByteArray), (⟨#[111, 117, 116]⟩ : ByteArray), (⟨#[99, 97, 108, 108]⟩ : ByteArray), (⟨#[106, 117, 109, 112]⟩ : ByteArray), (⟨#[98, 114, 97, 110, 99, 104]⟩ : ByteArray), (⟨#[114, 101, 116]⟩ : ByteArray)] : List ByteArray)) (inner := [.string (⟨#[]⟩ : ByteArray), .string (⟨#[99, 111, 110, 115, 116]⟩ : ByteArray), .string (⟨#[99, 111, 112, 121]⟩ : ByteArray), .string (⟨#[97, 100, 100]⟩ : ByteArray), .string (⟨#[115, 117, 98]⟩ : ByteArray), .string (⟨#[109, 117, 108]⟩ : ByteArray), .string (⟨#[108, 101, 115, 115]⟩ : ByteArray), .string (⟨#[100, 105, 118]⟩ : ByteArray), .string (⟨#[108, 111, 97, 100]⟩ : ByteArray), .string (⟨#[115, 116, 111, 114, 101]⟩ : ByteArray), .string (⟨#[111, 117, 116]⟩ : ByteArray), .string (⟨#[99, 97, 108, 108]⟩ : ByteArray), .string (⟨#[106, 117, 109, 112]⟩ : ByteArray), .string (⟨#[98, 114, 97, 110, 99, 104]⟩ : ByteArray), .string (⟨#[114, 101, 116]⟩ : ByteArray)]) (ok := fun _ => True) (okp := fun _ => True) ?hr ?hp (fun _ hk => hk) trivial (Below.refl _ _) (Nat.le_refl _) (by simp) ?_; (case hr => go_simp <;> rfl); (case hp => exact (Reps.one (show Kd.M Kd.string _ _ _ (⟨#[]⟩ : ByteArray) [.string (⟨#[]⟩ : ByteArray)] from rfl) (Reps.one (show Kd.M Kd.string _ _ _ (⟨#[99, 111, 110, 115, 116]⟩ : ByteArray) [.string (⟨#[99, 111, 110, 115, 116]⟩ : ByteArray)] from rfl) (Reps.one (show Kd.M Kd.string _ _ _ (⟨#[99, 111, 112, 121]⟩ : ByteArray) [.string (⟨#[99, 111, 112, 121]⟩ : ByteArray)] from rfl) (Reps.one (show Kd.M Kd.string _ _ _ (⟨#[97, 100, 100]⟩ : ByteArray) [.string (⟨#[97, 100, 100]⟩ : ByteArray)] from rfl) (Reps.one (show Kd.M Kd.string _ _ _ (⟨#[115, 117, 98]⟩ : ByteArray) [.string (⟨#[115, 117, 98]⟩ : ByteArray)] from rfl) (Reps.one (show Kd.M Kd.string _ _ _ (⟨#[109, 117, 108]⟩ : ByteArray) [.string (⟨#[109, 117, 108]⟩ : ByteArray)] from rfl) (Reps.one (show Kd.M Kd.string _ _ _ (⟨#[108, 101, 115, 115]⟩ : ByteArray) [.string (⟨#[108, 101, 115, 115]⟩ : ByteArray)] from rfl) (Reps.one (show Kd.M Kd.string _ _ _ (⟨#[100, 105, 118]⟩ : ByteArray) [.string (⟨#[100, 105, 118]⟩ : ByteArray)] from rfl) (Reps.one (show Kd.M Kd.string _ _ _ (⟨#[108, 111, 97, 100]⟩ : ByteArray) [.string (⟨#[108, 111, 97, 100]⟩ : ByteArray)] from rfl) (Reps.one (show Kd.M Kd.string _ _ _ (⟨#[115, 116, 111, 114, 101]⟩ : ByteArray) [.string (⟨#[115, 116, 111, 114, 101]⟩ : ByteArray)] from rfl) (Reps.one (show Kd.M Kd.string _ _ _ (⟨#[111, 117, 116]⟩ : ByteArray) [.string (⟨#[111, 117, 116]⟩ : ByteArray)] from rfl) (Reps.one (show Kd.M Kd.string _ _ _ (⟨#[99, 97, 108, 108]⟩ : ByteArray) [.string (⟨#[99, 97, 108, 108]⟩ : ByteArray)] from rfl) (Reps.one (show Kd.M Kd.string _ _ _ (⟨#[106, 117, 109, 112]⟩ : ByteArray) [.string (⟨#[106, 117, 109, 112]⟩ : ByteArray)] from rfl) (Reps.one (show Kd.M Kd.string _ _ _ (⟨#[98, 114, 97, 110, 99, 104]⟩ : ByteArray) [.string (⟨#[98, 114, 97, 110, 99, 104]⟩ : ByteArray)] from rfl) (Reps.one (show Kd.M Kd.string _ _ _ (⟨#[114, 101, 116]⟩ : ByteArray) [.string (⟨#[114, 101, 116]⟩ : ByteArray)] from rfl) (Reps.none _ _))))))))))))))))); intro v117 w4 ho5 hb hg_ hnew_; clear hg_ hnew_; (first | rw [← Ny116.out] at ho5 | (simp only [Int.reduceToNat] at ho5; rw [← Ny116.out] at ho5)); have HO118 := zA (Kd.R_lower ho5 (below_size qB)); replace HB := qH hb; clear hb ho5))
 (try simp only [Act.put, List.setIfInBounds_toArray, List.set_cons_zero, List.set_cons_succ])
 go_cut [14] (fun v14 wc => ∃ (kq : Nat) (x14_2 : Bool), v14 = .bool x14_2 ∧ Aside0 (cubbyref08_word.j0 kq a0 a1 y116 x14_2 = some r) ∧ Aside0 (kq ≤ k) ∧ Aside0 (Kd.R Kd.string 9 wc w.heap.size (fun _ => True) v117 y116) ∧ Aside0 (Below w.heap.size w wc))
 case first =>
  have H := HC3.out
  clear HC3
  by_cases c6 : a0 ≥ 0
  ·rw [zC c6] at H
   have c6b0 : decide (0 ≤ a0) = true := zF c6
   clear c6
   (first | rw [c6b0] | (simp only [i64_w, i32_w]; rw [c6b0]) | skip)
   have H' := zA H
   clear H
   obtain ⟨Ao7, co7, eo7⟩ := Kd.R_slice HO118.out
   subst eo7
   go_wp2
   go_meet
   case rel => exact ⟨_, (decide (a0 < (y116.length : Int))), qT, H', ⟨qO⟩, ⟨qR HO118.out⟩, ⟨qB⟩⟩
  ·rw [zD c6] at H
   have c6b0 : decide (0 ≤ a0) = false := zG c6
   clear c6
   (first | rw [c6b0] | (simp only [i64_w, i32_w]; rw [c6b0]) | skip)
   have H' := zA H
   clear H
   go_wp2
   go_meet
   case rel => exact ⟨_, (false), qT, H', ⟨qO⟩, ⟨qR HO118.out⟩, ⟨qB⟩⟩
 case rest =>
  clear HC3
  try clear p2; try clear c3; try clear c6; try clear c6b0
  obtain ⟨kq, x14_2, rfl, HA, HJ2, HO_5, HB⟩ := hcut
  cases kq with
  | zero => exact absurd HA.out (by simp [cubbyref08_word.j0])
  | succ kj2 =>
   have H := HA.out
   clear HA
   simp only [cubbyref08_word.j0] at H
   by_cases c8 : x14_2 = true
   ·subst c8
    have H1 : (if 0 ≤ a0 then (if a0 < (y116.length : Int) then (some (rdOf ByteArray.empty y116 a0)) else (none)) else (none)) = some r := by rw [zC rfl] at H; exact H
    clear H
    have H := H1
    clear H1
    by_cases c9 : 0 ≤ a0
    ·rw [zC c9] at H
     have c9b0 := zF c9
     clear c9
     by_cases c10 : a0 < (y116.length : Int)
     ·rw [zC c10] at H
      have c10b0 := zF c10
      clear c10
      obtain rfl := zI H
      obtain ⟨Ao11, co11, eo11⟩ := Kd.R_slice HO_5.out
      subst eo11
      have p119 : 0 ≤ (a0 : Int) := zB qA
      have q119 : a0 < (y116.length : Int) := zB qA
      obtain ⟨ad119, e119, hx119_0⟩ := Kd.at_string (Kd.R_reads' HO_5.out).2.2 a0 p119 q119
      cases e119
      replace p119 := eq_true p119
      replace q119 := eq_true q119
      go_wp2
      go_ret
      exact ⟨qE, qB⟩
     ·rw [zD c10] at H
      exact absurd H (by simp)
    ·rw [zD c9] at H
     exact absurd H (by simp)
   ·replace c8 := Bool.eq_false_iff.mpr c8
    subst c8
    have H1 : (if a1 = true then (cubbyref08_word.j1 kj2 a0 a1 (a0 == 21)) else (cubbyref08_word.j1 kj2 a0 a1 false)) = some r := by rw [zD (show ¬ (false = true) by decide)] at H; exact H
    clear H
    have H := H1
    clear H1
    have HC12 := zA H
    clear H
    go_upto_region 4 with (fail)
    go_cut [23] (fun v23 wc => ∃ (kq : Nat) (x23_11 : Bool), v23 = .bool x23_11 ∧ Aside0 (cubbyref08_word.j1 kq a0 a1 x23_11 = some r) ∧ Aside0 (kq ≤ kj2) ∧ Aside0 (Below w.heap.size w wc))
    case first =>
     have H := HC12.out
     clear HC12
     by_cases c13 : a1 = true
     ·subst c13
      have H1 : (cubbyref08_word.j1 kj2 a0 true (a0 == 21)) = some r := by rw [zC rfl] at H; exact H
      clear H
      have H := H1
      clear H1
      have H' := zA H
      clear H
      go_wp2
      go_meet
      case rel => exact ⟨_, ((a0 == 21)), qT, H', ⟨by have := HJ2.out; first | omega | exact Nat.le_refl _⟩, ⟨qB⟩⟩
     ·replace c13 := Bool.eq_false_iff.mpr c13
      subst c13
      have H1 : (cubbyref08_word.j1 kj2 a0 false false) = some r := by rw [zD (show ¬ (false = true) by decide)] at H; exact H
      clear H
      have H := H1
      clear H1
      have H' := zA H
      clear H
      go_wp2
      go_meet
      case rel => exact ⟨_, (false), qT, H', ⟨by have := HJ2.out; first | omega | exact Nat.le_refl _⟩, ⟨qB⟩⟩
    case rest =>
     clear HC12
     try clear c1; try clear p1; try clear q1; try clear hx1; try clear p2; try clear c3; try clear c6; try clear c6b0; try clear c8; try clear c9; try clear c9b0; try clear c10; try clear c10b0; try clear p11; try clear q11; try clear hx11; try clear c13; try clear hx119_0; try clear p119; try clear q119
     obtain ⟨kq, x23_11, rfl, HA, HJ11, HB⟩ := hcut
     cases kq with
     | zero => exact absurd HA.out (by simp [cubbyref08_word.j1])
     | succ kj11 =>
      have H := HA.out
      clear HA
      simp only [cubbyref08_word.j1] at H
      by_cases c14 : x23_11 = true
      ·subst c14
       have H1 : (some (⟨#[102, 101, 116, 99, 104]⟩ : ByteArray)) = some r := by rw [zC rfl] at H; exact H
       clear H
       have H := H1
       clear H1
       obtain rfl := zI H
       go_wp2
       go_ret
       exact ⟨qE, qB⟩
      ·replace c14 := Bool.eq_false_iff.mpr c14
       subst c14
       have H1 : (if a1 = true then (if a0 = 22 then (some (⟨#[115, 97, 118, 101]⟩ : ByteArray)) else (some (⟨#[]⟩ : ByteArray))) else (some (⟨#[]⟩ : ByteArray))) = some r := by rw [zD (show ¬ (false = true) by decide)] at H; exact H
       clear H
       have H := H1
       clear H1
       by_cases c15 : a1 = true
       ·subst c15
        have H1 : (if a0 = 22 then (some (⟨#[115, 97, 118, 101]⟩ : ByteArray)) else (some (⟨#[]⟩ : ByteArray))) = some r := by rw [zC rfl] at H; exact H
        clear H
        have H := H1
        clear H1
        by_cases c16 : a0 = 22
        ·rw [zC c16] at H
         obtain ⟨c16b0, c16b1⟩ := qe c16; clear c16
         obtain rfl := zI H
         go_wp2
         go_ret
         exact ⟨qE, qB⟩
        ·rw [zD c16] at H
         obtain ⟨c16b0, c16b1⟩ := qn c16
         obtain rfl := zI H
         go_wp2
         go_ret
         exact ⟨qE, qB⟩
       ·replace c15 := Bool.eq_false_iff.mpr c15
        subst c15
        have H1 : (some (⟨#[]⟩ : ByteArray)) = some r := by rw [zD (show ¬ (false = true) by decide)] at H; exact H
        clear H
        have H := H1
        clear H1
        obtain rfl := zI H
        go_wp2
        go_ret
        exact ⟨qE, qB⟩

mutual
def cubbyref08_print.l0 : Nat → List (List (SIns)) → Bool → ByteArray → Int → Option (ByteArray × Int)
 | 0, _, _, _, _ => none
 | k + 1, x1, x2, x8, x9 => if x9 < (x1.length : Int) then (if x8.size + 6 ≤ 9223372036854775807 then (cubbyref08_print.l1 k x1 x2 (x8 ++ (⟨#[98, 108, 111, 99, 107, 10]⟩ : ByteArray)) x9 0) else (none)) else (some (x8, 0))
def cubbyref08_print.l1 : Nat → List (List (SIns)) → Bool → ByteArray → Int → Int → Option (ByteArray × Int)
 | 0, _, _, _, _, _ => none
 | k + 1, x1, x2, x8, x9, x10 => if 0 ≤ x9 then (if x9 < (x1.length : Int) then (if x10 < ((rd_LIns x1 x9).length : Int) then (if 0 ≤ x10 then ((cubbyref08_word.f k ((rd_TIns (rd_LIns x1 x9) x10).f0) x2).bind fun t164 => ((cubbyref08_numbers.f k ((rd_TIns (rd_LIns x1 x9) x10).f0) ((rd_TIns (rd_LIns x1 x9) x10).f1) ((rd_TIns (rd_LIns x1 x9) x10).f2) ((rd_TIns (rd_LIns x1 x9) x10).f3) ((rd_TIns (rd_LIns x1 x9) x10).f4) ((rd_TIns (rd_LIns x1 x9) x10).f5) x2).bind fun t165 => ((cubbyref08_line.f k t164 ((rd_TIns (rd_LIns x1 x9) x10).f4) (((rd_TIns (rd_LIns x1 x9) x10).f0) == 11) 1 t165).bind fun bt168 => (if bt168.2 = 0 then (if x8.size + bt168.1.size ≤ 9223372036854775807 then (cubbyref08_print.l1 k x1 x2 (x8 ++ bt168.1) x9 (wrap64 (x10 + 1))) else (none)) else (some ((⟨#[]⟩ : ByteArray), bt168.2)))))) else (none)) else (cubbyref08_print.l0 k x1 x2 x8 (wrap64 (x9 + 1)))) else (none)) else (none)
end
def cubbyref08_print.f (k : Nat) (a0 : ByteArray) (l1 : List (List (SIns))) (a2 : Bool) : Option (ByteArray × Int) := cubbyref08_print.l0 k l1 a2 a0 0
def cubbyref08_print.T10 : Bool × List (List Nat × List Nat) := (true, [([], []), ([0], [0]), ([], []), ([1, 2], [1, 2]), ([], []), ([4], [4]), ([], []), ([6], [6]), ([7], [7]), ([], []), ([], []), ([9, 10, 3], [9, 10]), ([3, 5, 8, 11, 11], [3, 5, 8, 11]), ([12], [12]), ([13], [13]), ([13], [13]), ([14, 12, 0, 1, 2, 3, 4, 5, 6, 7, 8, 9, 10, 11, 12, 13, 14], [14]), ([15, 16, 0, 1, 2, 3, 4, 5, 6, 7, 8, 9, 10, 11, 12, 13, 14, 15, 16], [15])])
def cubbyref08_print.B10 : List Nat := [0, 1, 0, 7, 0, 16, 0, 64, 192, 0, 0, 1551, 4095, 8191, 16383, 16383, 32767, 131071]
theorem cubbyref08_print.tab10 : rtab .any (opsOf Tryz.f21 10) = cubbyref08_print.T10 := by kernel_rfl
theorem cubbyref08_print.bits10 : waitsOk cubbyref08_print.T10.2 cubbyref08_print.B10 = true := by kernel_rfl
set_option maxHeartbeats 8000000 in
set_option maxRecDepth 100000 in
theorem cubbyref08_print.calls (k : Nat) (a0 : ByteArray) (A1 : Option Addr) (c1 : Nat) (l1 : List (List (SIns))) (a2 : Bool) (r1 : ByteArray) (r2 : Int) (w : World) (hr1 : Kd.C (Kd.slice 44 kIns) w A1 l1.length l1) (hc1 : l1.length ≤ c1) (h : cubbyref08_print.f k a0 l1 a2 = some (r1, r2)) :
 Calls Tryz.prog 21 #[.string a0, .slice A1 l1.length c1, .bool a2] w fun e w' => e = .returned (.tuple #[.string r1, .int .i64 r2]) ∧ Below w.heap.size w w' := by
 have hu44 := Tryz.underlying44
 have HR1 := zA hr1
 have HC1 := zA hc1
 clear hr1 hc1
 have HB := zA (Below.refl w.heap.size w)
 have H := h; clear h; unfold cubbyref08_print.f at H
 have H' := zA H
 clear H
 go_enter Tryz.func21, Tryz.ntmps21
 go_wp2
 go_loopg [8, 9] k (fun kq v8 v9 w' => ∃ (x8_1 : ByteArray) (x9_1 : Int), v8 = .string x8_1 ∧ v9 = .int .i64 x9_1 ∧ Aside0 (cubbyref08_print.l0 kq l1 a2 x8_1 x9_1 = some (r1, r2)) ∧ Aside0 (kq ≤ k) ∧ Aside0 (Below w.heap.size w w'))
 case atStart => exact ⟨(a0), (0), qT, qT, H', ⟨Nat.le_refl _⟩, ⟨qB⟩⟩
 case round =>
  clear H'
  try clear c1; try clear c2; try clear p2
  obtain ⟨x8_1, x9_1, rfl, rfl, HA, HK1, HB⟩ := hrel
  cases gk with
  | zero => exact absurd HA.out (by simp [cubbyref08_print.l0])
  | succ k1 =>
   have H := HA.out
   clear HA
   simp only [cubbyref08_print.l0] at H
   by_cases c4 : x9_1 < (l1.length : Int)
   ·rw [zC c4] at H
    have c4b0 := zF c4
    clear c4
    by_cases c5 : x8_1.size + 6 ≤ 9223372036854775807
    ·rw [zC c5] at H
     have c5b0 := eq_true c5
     have c5b1 := zF c5
     try have c5b2 : (9223372036854775807 < x8_1.size + 6) = False := eq_false (Nat.not_lt.2 c5)
     have H' := zA H
     clear H
     go_wp2
     go_loopg [8, 10] k1 (fun kq v8 v10 w' => ∃ (x8_2 : ByteArray) (x10_2 : Int), v8 = .string x8_2 ∧ v10 = .int .i64 x10_2 ∧ Aside0 (cubbyref08_print.l1 kq l1 a2 x8_2 x9_1 x10_2 = some (r1, r2)) ∧ Aside0 (kq ≤ k1) ∧ Aside0 (Below w.heap.size w w'))
     case atStart => exact ⟨(x8_1 ++ (⟨#[98, 108, 111, 99, 107, 10]⟩ : ByteArray)), (0), qT, qT, H', ⟨Nat.le_refl _⟩, ⟨qB⟩⟩
     case round =>
      clear H'
      try clear c1; try clear c2; try clear p2; try clear c4b0; try clear c5; try clear c5b0 c5b1 c5b2
      obtain ⟨x8_2, x10_2, rfl, rfl, HA, HK2, HB⟩ := hrel
      cases gk with
      | zero => exact absurd HA.out (by simp [cubbyref08_print.l1])
      | succ k2 =>
       have H := HA.out
       clear HA
       simp only [cubbyref08_print.l1] at H
       by_cases c6 : 0 ≤ x9_1
       ·rw [zC c6] at H
        have c6b0 := zF c6
        clear c6
        by_cases c7 : x9_1 < (l1.length : Int)
        ·rw [zC c7] at H
         have c7b0 := zF c7
         clear c7
         by_cases c8 : x10_2 < ((rd_LIns l1 x9_1).length : Int)
         ·rw [zC c8] at H
          have c8b0 := zF c8
          clear c8
          by_cases c9 : 0 ≤ x10_2
          ·rw [zC c9] at H
           have c9b0 := zF c9
           clear c9
           replace H := qb H; obtain ⟨t164, A10, H⟩ := H
           replace H := qb H; obtain ⟨t165, A11, H⟩ := H
           replace H := Option.bind_eq_some_iff.mp H
           obtain ⟨⟨t168, t169⟩, A120, H⟩ := H
           replace H : (if t169 = 0 then (if x8_2.size + t168.size ≤ 9223372036854775807 then (cubbyref08_print.l1 k2 l1 a2 (x8_2 ++ t168) x9_1 (wrap64 (x10_2 + 1))) else (none)) else (some ((⟨#[]⟩ : ByteArray), t169))) = some (r1, r2) := H
           have A12 := zA A120
           clear A120
           by_cases c13 : t169 = 0
           ·rw [zC c13] at H
            obtain ⟨c13b0, c13b1⟩ := qe c13; clear c13
            by_cases c14 : x8_2.size + t168.size ≤ 9223372036854775807
            ·rw [zC c14] at H
             have c14b0 := eq_true c14
             have c14b1 := zF c14
             try have c14b2 : (9223372036854775807 < x8_2.size + t168.size) = False := eq_false (Nat.not_lt.2 c14)
             have H' := zA H
             clear H
             have p160 : 0 ≤ (x9_1 : Int) := zB qA
             have q160 : x9_1 < (l1.length : Int) := zB qA
             obtain ⟨ad160, A160_0, c160_0, e160, hx160_0, hl160_0, hi160_0⟩ := at_LIns HR1.out x9_1 p160 q160
             cases e160
             replace hx160_0 := (HB.out.cell (zE w _ hx160_0)).trans hx160_0
             have HR160_0 := zA hi160_0
             have HC160_0 := zA hl160_0
             clear hi160_0 hl160_0
             replace p160 := eq_true p160
             replace q160 := eq_true q160
             have p161 : 0 ≤ (x9_1 : Int) := zB qA
             have q161 : x9_1 < (l1.length : Int) := zB qA
             obtain ⟨ad161, A161_0, c161_0, e161, hx161_0, hl161_0, hi161_0⟩ := at_LIns HR1.out x9_1 p161 q161
             obtain rfl : ad160 = ad161 := (by injection e161)
             replace hx161_0 := (HB.out.cell (zE w _ hx161_0)).trans hx161_0
             have HR161_0 := zA hi161_0
             have HC161_0 := zA hl161_0
             clear hi161_0 hl161_0
             replace p161 := eq_true p161
             replace q161 := eq_true q161
             have ea_ := zI (hx160_0.symm.trans hx161_0)
             injection ea_ with ea_ en_ ec_
             subst ea_
             subst ec_
             clear en_
             have p162 : 0 ≤ (x10_2 : Int) := zB qA
             have q162 : x10_2 < ((rd_LIns l1 x9_1).length : Int) := zB qA
             obtain ⟨ad162, A162_5, c162_5, e162, hx162_0, hx162_1, hx162_2, hx162_3, hx162_4, hx162_5, hl162_5, hi162_5⟩ := at_TIns HR161_0.out x10_2 p162 q162
             cases e162
             replace hx162_0 := (HB.out.cell (zE w _ hx162_0)).trans hx162_0
             replace hx162_1 := (HB.out.cell (zE w _ hx162_1)).trans hx162_1
             replace hx162_2 := (HB.out.cell (zE w _ hx162_2)).trans hx162_2
             replace hx162_3 := (HB.out.cell (zE w _ hx162_3)).trans hx162_3
             replace hx162_4 := (HB.out.cell (zE w _ hx162_4)).trans hx162_4
             replace hx162_5 := (HB.out.cell (zE w _ hx162_5)).trans hx162_5
             have HR162_5 := zA hi162_5
             have HC162_5 := zA hl162_5
             clear hi162_5 hl162_5
             replace p162 := eq_true p162
             replace q162 := eq_true q162
             try go_wp2_with (first | ((with_reducible refine gate_dst (N := 11) rfl ?_); refine box_event (by rfl) (N := 11) (by rfl) (cs := #[.int .i64 0, .int .i64 0, .int .i64 0, .int .i64 0, .string (⟨#[]⟩ : ByteArray), .slice none 0 0]) (t := 44) ?hr ?_; (case hr => go_simp <;> rfl); intro gb163 hg w15 hbox hb; have BK163 := zA (hbox); have GW163 := qG hg; have GE163 := GW163; replace HB := qH hb; clear hb hbox hg; have z16_0 := bk6 BK163.out))
             have n0_ : Aside0 (((((((w15.setCell ⟨gb163, 0, none⟩ (.int .i64 ((rd_TIns (rd_LIns l1 x9_1) x10_2).f0))).setCell ⟨gb163, 1, none⟩ (.int .i64 ((rd_TIns (rd_LIns l1 x9_1) x10_2).f1))).setCell ⟨gb163, 2, none⟩ (.int .i64 ((rd_TIns (rd_LIns l1 x9_1) x10_2).f2))).setCell ⟨gb163, 3, none⟩ (.int .i64 ((rd_TIns (rd_LIns l1 x9_1) x10_2).f3))).setCell ⟨gb163, 4, none⟩ (.string ((rd_TIns (rd_LIns l1 x9_1) x10_2).f4))).setCell ⟨gb163, 5, none⟩ (.slice A162_5 ((rd_TIns (rd_LIns l1 x9_1) x10_2).f5).length c162_5)).heap[gb163]? = some (.cells #[.int .i64 ((rd_TIns (rd_LIns l1 x9_1) x10_2).f0), .int .i64 ((rd_TIns (rd_LIns l1 x9_1) x10_2).f1), .int .i64 ((rd_TIns (rd_LIns l1 x9_1) x10_2).f2), .int .i64 ((rd_TIns (rd_LIns l1 x9_1) x10_2).f3), .string ((rd_TIns (rd_LIns l1 x9_1) x10_2).f4), .slice A162_5 ((rd_TIns (rd_LIns l1 x9_1) x10_2).f5).length c162_5] 44 (0, 0))) := ⟨by (with_reducible repeat (first | refine blk_drewN ?_ _ | refine blk_drew ?_ | refine blk_alloc ?_ _)); refine blk_put (cs := #[.int .i64 ((rd_TIns (rd_LIns l1 x9_1) x10_2).f0), .int .i64 ((rd_TIns (rd_LIns l1 x9_1) x10_2).f1), .int .i64 ((rd_TIns (rd_LIns l1 x9_1) x10_2).f2), .int .i64 ((rd_TIns (rd_LIns l1 x9_1) x10_2).f3), .string ((rd_TIns (rd_LIns l1 x9_1) x10_2).f4), .slice none 0 0]) ?_ 5 _ rfl; (with_reducible repeat (first | refine blk_drewN ?_ _ | refine blk_drew ?_ | refine blk_alloc ?_ _)); refine blk_put (cs := #[.int .i64 ((rd_TIns (rd_LIns l1 x9_1) x10_2).f0), .int .i64 ((rd_TIns (rd_LIns l1 x9_1) x10_2).f1), .int .i64 ((rd_TIns (rd_LIns l1 x9_1) x10_2).f2), .int .i64 ((rd_TIns (rd_LIns l1 x9_1) x10_2).f3), .string (⟨#[]⟩ : ByteArray), .slice none 0 0]) ?_ 4 _ rfl; (with_reducible repeat (first | refine blk_drewN ?_ _ | refine blk_drew ?_ | refine blk_alloc ?_ _)); refine blk_put (cs := #[.int .i64 ((rd_TIns (rd_LIns l1 x9_1) x10_2).f0), .int .i64 ((rd_TIns (rd_LIns l1 x9_1) x10_2).f1), .int .i64 ((rd_TIns (rd_LIns l1 x9_1) x10_2).f2), .int .i64 0, .string (⟨#[]⟩ : ByteArray), .slice none 0 0]) ?_ 3 _ rfl; (with_reducible repeat (first | refine blk_drewN ?_ _ | refine blk_drew ?_ | refine blk_alloc ?_ _)); refine blk_put (cs := #[.int .i64 ((rd_TIns (rd_LIns l1 x9_1) x10_2).f0), .int .i64 ((rd_TIns (rd_LIns l1 x9_1) x10_2).f1), .int .i64 0, .int .i64 0, .string (⟨#[]⟩ : ByteArray), .slice none 0 0]) ?_ 2 _ rfl; (with_reducible repeat (first | refine blk_drewN ?_ _ | refine blk_drew ?_ | refine blk_alloc ?_ _)); refine blk_put (cs := #[.int .i64 ((rd_TIns (rd_LIns l1 x9_1) x10_2).f0), .int .i64 0, .int .i64 0, .int .i64 0, .string (⟨#[]⟩ : ByteArray), .slice none 0 0]) ?_ 1 _ rfl; (with_reducible repeat (first | refine blk_drewN ?_ _ | refine blk_drew ?_ | refine blk_alloc ?_ _)); refine blk_put (cs := #[.int .i64 0, .int .i64 0, .int .i64 0, .int .i64 0, .string (⟨#[]⟩ : ByteArray), .slice none 0 0]) ?_ 0 _ rfl; (with_reducible repeat (first | refine blk_drewN ?_ _ | refine blk_drew ?_ | refine blk_alloc ?_ _)); exact BK163.out⟩
             have n1_ : Aside0 (Below w.heap.size w ((((((w15.setCell ⟨gb163, 0, none⟩ (.int .i64 ((rd_TIns (rd_LIns l1 x9_1) x10_2).f0))).setCell ⟨gb163, 1, none⟩ (.int .i64 ((rd_TIns (rd_LIns l1 x9_1) x10_2).f1))).setCell ⟨gb163, 2, none⟩ (.int .i64 ((rd_TIns (rd_LIns l1 x9_1) x10_2).f2))).setCell ⟨gb163, 3, none⟩ (.int .i64 ((rd_TIns (rd_LIns l1 x9_1) x10_2).f3))).setCell ⟨gb163, 4, none⟩ (.string ((rd_TIns (rd_LIns l1 x9_1) x10_2).f4))).setCell ⟨gb163, 5, none⟩ (.slice A162_5 ((rd_TIns (rd_LIns l1 x9_1) x10_2).f5).length c162_5))) := ⟨qB⟩
             (try clear BK163)
             (try clear HB)
             generalize ((((((w15.setCell ⟨gb163, 0, none⟩ (.int .i64 ((rd_TIns (rd_LIns l1 x9_1) x10_2).f0))).setCell ⟨gb163, 1, none⟩ (.int .i64 ((rd_TIns (rd_LIns l1 x9_1) x10_2).f1))).setCell ⟨gb163, 2, none⟩ (.int .i64 ((rd_TIns (rd_LIns l1 x9_1) x10_2).f2))).setCell ⟨gb163, 3, none⟩ (.int .i64 ((rd_TIns (rd_LIns l1 x9_1) x10_2).f3))).setCell ⟨gb163, 4, none⟩ (.string ((rd_TIns (rd_LIns l1 x9_1) x10_2).f4))).setCell ⟨gb163, 5, none⟩ (.slice A162_5 ((rd_TIns (rd_LIns l1 x9_1) x10_2).f5).length c162_5)) = w17 at n0_ n1_ ⊢
             have BK163 := n0_
             have HB := n1_
             clear n0_ n1_
             have n0_ := zA (blk_drew BK163.out)
             have n1_ := zA (below_drew1 HB.out)
             clear BK163
             clear HB
             have BK163 := n0_
             have HB := n1_
             clear n0_ n1_
             refine start_ (n := 18) (S := fun w' => w'.cell? ⟨gb163, 0, none⟩ = some (.int .i64 ((rd_TIns (rd_LIns l1 x9_1) x10_2).f0)) ∧ w'.cell? ⟨gb163, 1, none⟩ = some (.int .i64 ((rd_TIns (rd_LIns l1 x9_1) x10_2).f1)) ∧ w'.cell? ⟨gb163, 2, none⟩ = some (.int .i64 ((rd_TIns (rd_LIns l1 x9_1) x10_2).f2)) ∧ w'.cell? ⟨gb163, 3, none⟩ = some (.int .i64 ((rd_TIns (rd_LIns l1 x9_1) x10_2).f3)) ∧ w'.cell? ⟨gb163, 4, none⟩ = some (.string ((rd_TIns (rd_LIns l1 x9_1) x10_2).f4)) ∧ w'.cell? ⟨gb163, 5, none⟩ = some (.slice A162_5 ((rd_TIns (rd_LIns l1 x9_1) x10_2).f5).length c162_5)) (ds := []) (bA 18 0) (by kernel_rfl) rfl rfl ⟨(blk_cell BK163.out 0).trans rfl, (blk_cell BK163.out 1).trans rfl, (blk_cell BK163.out 2).trans rfl, (blk_cell BK163.out 3).trans rfl, (blk_cell BK163.out 4).trans rfl, (blk_cell BK163.out 5).trans rfl⟩ (fun hHeld => ?_); refine with_tabW cubbyref08_print.tab10 cubbyref08_print.bits10 (fun HT_ HW_ => ?_)
             generalize w17.drew = w18 at BK163 HB hHeld ⊢
             refine pu_ (i := 0) (N := some 40) (bA 18 1) ?_
             refine pu_ (i := 2) (N := some 42) (bA 18 5) ?_
             refine pu_ (i := 4) (N := some 44) (bA 18 21) ?_
             refine pu_ (i := 6) (N := some 46) (bA 18 85) ?_
             refine pu_ (i := 10) (N := some 50) (bA 18 1109) ?_
             refine tk_ (i := 1) (N := some 41) (bA 18 1111) ?_
             refine tk_ (i := 5) (N := some 45) (bA 18 1143) ?_
             refine tk_ (i := 7) (N := some 47) (bA 18 1271) ?_
             refine pu_ (i := 8) (N := some 48) (bA 18 1527) ?_
             refine tk_ (i := 9) (N := some 49) (bA 18 2039) ?_
             refine one_ (i := 3) (N := some 43) (bA 18 2047) rfl rfl (one_of HT_.out (by kernel_rfl)) (by decide) (fun K hK => ?_)
             refine goes_ Tryz.func38 (by kernel_rfl) rfl #[.int .i64 ((rd_TIns (rd_LIns l1 x9_1) x10_2).f0), .bool a2] (by rfl) rfl rfl qL ?_
             with_reducible refine (cubbyref08_word.calls k2 ((rd_TIns (rd_LIns l1 x9_1) x10_2).f0) a2 t164 _ A10.out).mono ?_
             rintro e w19 ⟨rfl, hb⟩
             refine ⟨_, rfl, ?_⟩
             have n0_ := qW BK163 hb
             have n1_ := qH hb
             clear BK163
             clear HB
             have BK163 := n0_
             have HB := n1_
             clear n0_ n1_
             (try clear hb)
             (try clear hb2)
             (try clear hk)
             (try clear hi)
             refine hK.out _ _ ⟨(blk_cell BK163.out 0).trans rfl, (blk_cell BK163.out 1).trans rfl, (blk_cell BK163.out 2).trans rfl, (blk_cell BK163.out 3).trans rfl, (blk_cell BK163.out 4).trans rfl, (blk_cell BK163.out 5).trans rfl⟩ (fun hHeld => ?_)
             clear hK K
             refine norm_ (a' := ?_) ?_ ?_
             rotate_left
             ·show Act.put _ (some 43) _ = _
              simp only [Act.put, List.setIfInBounds_toArray, List.set_cons_zero, List.set_cons_succ, i64_w, i32_w]
              rfl
             refine one_ (i := 11) (N := some 51) (bA 18 4095) rfl rfl (one_of HT_.out (by kernel_rfl)) (by decide) (fun K hK => ?_)
             refine goes_ Tryz.func39 (by kernel_rfl) rfl #[.agg #[.int .i64 ((rd_TIns (rd_LIns l1 x9_1) x10_2).f0), .int .i64 ((rd_TIns (rd_LIns l1 x9_1) x10_2).f1), .int .i64 ((rd_TIns (rd_LIns l1 x9_1) x10_2).f2), .int .i64 ((rd_TIns (rd_LIns l1 x9_1) x10_2).f3), .string ((rd_TIns (rd_LIns l1 x9_1) x10_2).f4), .slice A162_5 ((rd_TIns (rd_LIns l1 x9_1) x10_2).f5).length c162_5], .bool a2] (by rfl) rfl rfl qL ?_
             with_reducible refine (cubbyref08_numbers.calls k2 ((rd_TIns (rd_LIns l1 x9_1) x10_2).f0) ((rd_TIns (rd_LIns l1 x9_1) x10_2).f1) ((rd_TIns (rd_LIns l1 x9_1) x10_2).f2) ((rd_TIns (rd_LIns l1 x9_1) x10_2).f3) ((rd_TIns (rd_LIns l1 x9_1) x10_2).f4) _ _ ((rd_TIns (rd_LIns l1 x9_1) x10_2).f5) a2 t165 _ ?side1 ?side2 A11.out).mono ?_
             (case side1 => exact qCB HR162_5.out)
             (case side2 => exact HC162_5.out)
             rintro e w20 ⟨v166, rfl, ho0, hb⟩
             refine ⟨_, rfl, ?_⟩
             have n0_ := zA (Kd.R_lower ho0 (below_size qB))
             have n1_ := qW BK163 hb
             have n2_ := qH hb
             clear BK163
             clear HB
             have HO167 := n0_
             have BK163 := n1_
             have HB := n2_
             clear n0_ n1_ n2_
             (try clear hb)
             (try clear hb2)
             (try clear hk)
             (try clear hi)
             (try clear ho0)
             obtain ⟨Ao21, co21, eo21⟩ := Kd.R_slice HO167.out
             (first | subst eo21 | (injection eo21 with f1_ f2_ f3_; have f4_ := f1_.symm; have f5_ := f3_.symm; clear f1_ f2_ f3_; subst f4_; subst f5_))
             refine hK.out _ _ ⟨(blk_cell BK163.out 0).trans rfl, (blk_cell BK163.out 1).trans rfl, (blk_cell BK163.out 2).trans rfl, (blk_cell BK163.out 3).trans rfl, (blk_cell BK163.out 4).trans rfl, (blk_cell BK163.out 5).trans rfl⟩ (fun hHeld => ?_)
             clear hK K
             refine norm_ (a' := ?_) ?_ ?_
             rotate_left
             ·show Act.put _ (some 51) _ = _
              simp only [Act.put, List.setIfInBounds_toArray, List.set_cons_zero, List.set_cons_succ, i64_w, i32_w]
              rfl
             refine one_ (i := 12) (N := some 52) (bA 18 8191) rfl rfl (one_of HT_.out (by kernel_rfl)) (by decide) (fun K hK => ?_)
             refine goes_ Tryz.func20 (by kernel_rfl) rfl #[.string t164, .string ((rd_TIns (rd_LIns l1 x9_1) x10_2).f4), .bool (((rd_TIns (rd_LIns l1 x9_1) x10_2).f0) == 11), .int .i64 1, .slice Ao21 t165.length co21] (by rfl) rfl rfl qL ?_
             with_reducible refine (cubbyref08_line.calls k2 t164 ((rd_TIns (rd_LIns l1 x9_1) x10_2).f4) (((rd_TIns (rd_LIns l1 x9_1) x10_2).f0) == 11) 1 _ _ t165 t168 t169 _ ?side1 ?side2 A12.out).mono ?_
             (case side1 => repeat (first | exact (Kd.R_reads' HO167.out).2.2 | (with_reducible refine Kd.C_alloc ?_ _) | (with_reducible refine Kd.C_drewN ?_ _) | (with_reducible refine Kd.C_drew ?_)))
             (case side2 => exact (Kd.R_reads' HO167.out).2.1)
             rintro e w' ⟨rfl, ⟨nd, rfl⟩⟩
             refine ⟨_, rfl, ?_⟩
             refine hK.out _ _ ⟨(blk_cell BK163.out 0).trans rfl, (blk_cell BK163.out 1).trans rfl, (blk_cell BK163.out 2).trans rfl, (blk_cell BK163.out 3).trans rfl, (blk_cell BK163.out 4).trans rfl, (blk_cell BK163.out 5).trans rfl⟩ (fun hHeld => ?_)
             clear hK K
             refine norm_ (a' := ?_) ?_ ?_
             rotate_left
             ·show Act.put _ (some 52) _ = _
              simp only [Act.put, List.setIfInBounds_toArray, List.set_cons_zero, List.set_cons_succ, i64_w, i32_w]
              rfl
             refine pu_ (i := 13) (N := some 39) (bA 18 16383) ?_
             refine pu_ (i := 14) (N := some 53) (bA 18 32767) ?_
             refine pu_ (i := 15) (N := some 54) (bA 18 65535) ?_
             refine pu_ (i := 16) (N := some 12) (bA 18 131071) ?_
             refine pu_ (i := 17) (N := some 13) (bA 18 262143) ?_
             refine done_ (done_of HT_.out (by kernel_rfl)) ?_
             try go_wp2
             go_roundg k2
             case measure => have := HK1.out; have := HK2.out; omega
             case rel => exact ⟨(x8_2 ++ t168), (wrap64 (x10_2 + 1)), qT, qT, H', ⟨by have := HK1.out; have := HK2.out; omega⟩, ⟨qB⟩⟩
            ·rw [zD c14] at H
             exact absurd H (by simp)
           ·rw [zD c13] at H
            obtain ⟨c13b0, c13b1⟩ := qn c13
            simp only [Option.some.injEq, Prod.mk.injEq] at H
            obtain ⟨rfl, rfl⟩ := H
            have p160 : 0 ≤ (x9_1 : Int) := zB qA
            have q160 : x9_1 < (l1.length : Int) := zB qA
            obtain ⟨ad160, A160_0, c160_0, e160, hx160_0, hl160_0, hi160_0⟩ := at_LIns HR1.out x9_1 p160 q160
            cases e160
            replace hx160_0 := (HB.out.cell (zE w _ hx160_0)).trans hx160_0
            have HR160_0 := zA hi160_0
            have HC160_0 := zA hl160_0
            clear hi160_0 hl160_0
            replace p160 := eq_true p160
            replace q160 := eq_true q160
            have p161 : 0 ≤ (x9_1 : Int) := zB qA
            have q161 : x9_1 < (l1.length : Int) := zB qA
            obtain ⟨ad161, A161_0, c161_0, e161, hx161_0, hl161_0, hi161_0⟩ := at_LIns HR1.out x9_1 p161 q161
            obtain rfl : ad160 = ad161 := (by injection e161)
            replace hx161_0 := (HB.out.cell (zE w _ hx161_0)).trans hx161_0
            have HR161_0 := zA hi161_0
            have HC161_0 := zA hl161_0
            clear hi161_0 hl161_0
            replace p161 := eq_true p161
            replace q161 := eq_true q161
            have ea_ := zI (hx160_0.symm.trans hx161_0)
            injection ea_ with ea_ en_ ec_
            subst ea_
            subst ec_
            clear en_
            have p162 : 0 ≤ (x10_2 : Int) := zB qA
            have q162 : x10_2 < ((rd_LIns l1 x9_1).length : Int) := zB qA
            obtain ⟨ad162, A162_5, c162_5, e162, hx162_0, hx162_1, hx162_2, hx162_3, hx162_4, hx162_5, hl162_5, hi162_5⟩ := at_TIns HR161_0.out x10_2 p162 q162
            cases e162
            replace hx162_0 := (HB.out.cell (zE w _ hx162_0)).trans hx162_0
            replace hx162_1 := (HB.out.cell (zE w _ hx162_1)).trans hx162_1
            replace hx162_2 := (HB.out.cell (zE w _ hx162_2)).trans hx162_2
            replace hx162_3 := (HB.out.cell (zE w _ hx162_3)).trans hx162_3
            replace hx162_4 := (HB.out.cell (zE w _ hx162_4)).trans hx162_4
            replace hx162_5 := (HB.out.cell (zE w _ hx162_5)).trans hx162_5
            have HR162_5 := zA hi162_5
            have HC162_5 := zA hl162_5
            clear hi162_5 hl162_5
            replace p162 := eq_true p162
            replace q162 := eq_true q162
            try go_wp2_with (first | ((with_reducible refine gate_dst (N := 11) rfl ?_); refine box_event (by rfl) (N := 11) (by rfl) (cs := #[.int .i64 0, .int .i64 0, .int .i64 0, .int .i64 0, .string (⟨#[]⟩ : ByteArray), .slice none 0 0]) (t := 44) ?hr ?_; (case hr => go_simp <;> rfl); intro gb163 hg w22 hbox hb; have BK163 := zA (hbox); have GW163 := qG hg; have GE163 := GW163; replace HB := qH hb; clear hb hbox hg; have z23_0 := bk6 BK163.out))
            have n0_ : Aside0 (((((((w22.setCell ⟨gb163, 0, none⟩ (.int .i64 ((rd_TIns (rd_LIns l1 x9_1) x10_2).f0))).setCell ⟨gb163, 1, none⟩ (.int .i64 ((rd_TIns (rd_LIns l1 x9_1) x10_2).f1))).setCell ⟨gb163, 2, none⟩ (.int .i64 ((rd_TIns (rd_LIns l1 x9_1) x10_2).f2))).setCell ⟨gb163, 3, none⟩ (.int .i64 ((rd_TIns (rd_LIns l1 x9_1) x10_2).f3))).setCell ⟨gb163, 4, none⟩ (.string ((rd_TIns (rd_LIns l1 x9_1) x10_2).f4))).setCell ⟨gb163, 5, none⟩ (.slice A162_5 ((rd_TIns (rd_LIns l1 x9_1) x10_2).f5).length c162_5)).heap[gb163]? = some (.cells #[.int .i64 ((rd_TIns (rd_LIns l1 x9_1) x10_2).f0), .int .i64 ((rd_TIns (rd_LIns l1 x9_1) x10_2).f1), .int .i64 ((rd_TIns (rd_LIns l1 x9_1) x10_2).f2), .int .i64 ((rd_TIns (rd_LIns l1 x9_1) x10_2).f3), .string ((rd_TIns (rd_LIns l1 x9_1) x10_2).f4), .slice A162_5 ((rd_TIns (rd_LIns l1 x9_1) x10_2).f5).length c162_5] 44 (0, 0))) := ⟨by (with_reducible repeat (first | refine blk_drewN ?_ _ | refine blk_drew ?_ | refine blk_alloc ?_ _)); refine blk_put (cs := #[.int .i64 ((rd_TIns (rd_LIns l1 x9_1) x10_2).f0), .int .i64 ((rd_TIns (rd_LIns l1 x9_1) x10_2).f1), .int .i64 ((rd_TIns (rd_LIns l1 x9_1) x10_2).f2), .int .i64 ((rd_TIns (rd_LIns l1 x9_1) x10_2).f3), .string ((rd_TIns (rd_LIns l1 x9_1) x10_2).f4), .slice none 0 0]) ?_ 5 _ rfl; (with_reducible repeat (first | refine blk_drewN ?_ _ | refine blk_drew ?_ | refine blk_alloc ?_ _)); refine blk_put (cs := #[.int .i64 ((rd_TIns (rd_LIns l1 x9_1) x10_2).f0), .int .i64 ((rd_TIns (rd_LIns l1 x9_1) x10_2).f1), .int .i64 ((rd_TIns (rd_LIns l1 x9_1) x10_2).f2), .int .i64 ((rd_TIns (rd_LIns l1 x9_1) x10_2).f3), .string (⟨#[]⟩ : ByteArray), .slice none 0 0]) ?_ 4 _ rfl; (with_reducible repeat (first | refine blk_drewN ?_ _ | refine blk_drew ?_ | refine blk_alloc ?_ _)); refine blk_put (cs := #[.int .i64 ((rd_TIns (rd_LIns l1 x9_1) x10_2).f0), .int .i64 ((rd_TIns (rd_LIns l1 x9_1) x10_2).f1), .int .i64 ((rd_TIns (rd_LIns l1 x9_1) x10_2).f2), .int .i64 0, .string (⟨#[]⟩ : ByteArray), .slice none 0 0]) ?_ 3 _ rfl; (with_reducible repeat (first | refine blk_drewN ?_ _ | refine blk_drew ?_ | refine blk_alloc ?_ _)); refine blk_put (cs := #[.int .i64 ((rd_TIns (rd_LIns l1 x9_1) x10_2).f0), .int .i64 ((rd_TIns (rd_LIns l1 x9_1) x10_2).f1), .int .i64 0, .int .i64 0, .string (⟨#[]⟩ : ByteArray), .slice none 0 0]) ?_ 2 _ rfl; (with_reducible repeat (first | refine blk_drewN ?_ _ | refine blk_drew ?_ | refine blk_alloc ?_ _)); refine blk_put (cs := #[.int .i64 ((rd_TIns (rd_LIns l1 x9_1) x10_2).f0), .int .i64 0, .int .i64 0, .int .i64 0, .string (⟨#[]⟩ : ByteArray), .slice none 0 0]) ?_ 1 _ rfl; (with_reducible repeat (first | refine blk_drewN ?_ _ | refine blk_drew ?_ | refine blk_alloc ?_ _)); refine blk_put (cs := #[.int .i64 0, .int .i64 0, .int .i64 0, .int .i64 0, .string (⟨#[]⟩ : ByteArray), .slice none 0 0]) ?_ 0 _ rfl; (with_reducible repeat (first | refine blk_drewN ?_ _ | refine blk_drew ?_ | refine blk_alloc ?_ _)); exact BK163.out⟩
            have n1_ : Aside0 (Below w.heap.size w ((((((w22.setCell ⟨gb163, 0, none⟩ (.int .i64 ((rd_TIns (rd_LIns l1 x9_1) x10_2).f0))).setCell ⟨gb163, 1, none⟩ (.int .i64 ((rd_TIns (rd_LIns l1 x9_1) x10_2).f1))).setCell ⟨gb163, 2, none⟩ (.int .i64 ((rd_TIns (rd_LIns l1 x9_1) x10_2).f2))).setCell ⟨gb163, 3, none⟩ (.int .i64 ((rd_TIns (rd_LIns l1 x9_1) x10_2).f3))).setCell ⟨gb163, 4, none⟩ (.string ((rd_TIns (rd_LIns l1 x9_1) x10_2).f4))).setCell ⟨gb163, 5, none⟩ (.slice A162_5 ((rd_TIns (rd_LIns l1 x9_1) x10_2).f5).length c162_5))) := ⟨qB⟩
            (try clear BK163)
            (try clear HB)
            generalize ((((((w22.setCell ⟨gb163, 0, none⟩ (.int .i64 ((rd_TIns (rd_LIns l1 x9_1) x10_2).f0))).setCell ⟨gb163, 1, none⟩ (.int .i64 ((rd_TIns (rd_LIns l1 x9_1) x10_2).f1))).setCell ⟨gb163, 2, none⟩ (.int .i64 ((rd_TIns (rd_LIns l1 x9_1) x10_2).f2))).setCell ⟨gb163, 3, none⟩ (.int .i64 ((rd_TIns (rd_LIns l1 x9_1) x10_2).f3))).setCell ⟨gb163, 4, none⟩ (.string ((rd_TIns (rd_LIns l1 x9_1) x10_2).f4))).setCell ⟨gb163, 5, none⟩ (.slice A162_5 ((rd_TIns (rd_LIns l1 x9_1) x10_2).f5).length c162_5)) = w24 at n0_ n1_ ⊢
            have BK163 := n0_
            have HB := n1_
            clear n0_ n1_
            have n0_ := zA (blk_drew BK163.out)
            have n1_ := zA (below_drew1 HB.out)
            clear BK163
            clear HB
            have BK163 := n0_
            have HB := n1_
            clear n0_ n1_
            refine start_ (n := 18) (S := fun w' => w'.cell? ⟨gb163, 0, none⟩ = some (.int .i64 ((rd_TIns (rd_LIns l1 x9_1) x10_2).f0)) ∧ w'.cell? ⟨gb163, 1, none⟩ = some (.int .i64 ((rd_TIns (rd_LIns l1 x9_1) x10_2).f1)) ∧ w'.cell? ⟨gb163, 2, none⟩ = some (.int .i64 ((rd_TIns (rd_LIns l1 x9_1) x10_2).f2)) ∧ w'.cell? ⟨gb163, 3, none⟩ = some (.int .i64 ((rd_TIns (rd_LIns l1 x9_1) x10_2).f3)) ∧ w'.cell? ⟨gb163, 4, none⟩ = some (.string ((rd_TIns (rd_LIns l1 x9_1) x10_2).f4)) ∧ w'.cell? ⟨gb163, 5, none⟩ = some (.slice A162_5 ((rd_TIns (rd_LIns l1 x9_1) x10_2).f5).length c162_5)) (ds := []) (bA 18 0) (by kernel_rfl) rfl rfl ⟨(blk_cell BK163.out 0).trans rfl, (blk_cell BK163.out 1).trans rfl, (blk_cell BK163.out 2).trans rfl, (blk_cell BK163.out 3).trans rfl, (blk_cell BK163.out 4).trans rfl, (blk_cell BK163.out 5).trans rfl⟩ (fun hHeld => ?_); refine with_tabW cubbyref08_print.tab10 cubbyref08_print.bits10 (fun HT_ HW_ => ?_)
            generalize w24.drew = w25 at BK163 HB hHeld ⊢
            refine pu_ (i := 0) (N := some 40) (bA 18 1) ?_
            refine pu_ (i := 2) (N := some 42) (bA 18 5) ?_
            refine pu_ (i := 4) (N := some 44) (bA 18 21) ?_
            refine pu_ (i := 6) (N := some 46) (bA 18 85) ?_
            refine pu_ (i := 10) (N := some 50) (bA 18 1109) ?_
            refine tk_ (i := 1) (N := some 41) (bA 18 1111) ?_
            refine tk_ (i := 5) (N := some 45) (bA 18 1143) ?_
            refine tk_ (i := 7) (N := some 47) (bA 18 1271) ?_
            refine pu_ (i := 8) (N := some 48) (bA 18 1527) ?_
            refine tk_ (i := 9) (N := some 49) (bA 18 2039) ?_
            refine one_ (i := 3) (N := some 43) (bA 18 2047) rfl rfl (one_of HT_.out (by kernel_rfl)) (by decide) (fun K hK => ?_)
            refine goes_ Tryz.func38 (by kernel_rfl) rfl #[.int .i64 ((rd_TIns (rd_LIns l1 x9_1) x10_2).f0), .bool a2] (by rfl) rfl rfl qL ?_
            with_reducible refine (cubbyref08_word.calls k2 ((rd_TIns (rd_LIns l1 x9_1) x10_2).f0) a2 t164 _ A10.out).mono ?_
            rintro e w26 ⟨rfl, hb⟩
            refine ⟨_, rfl, ?_⟩
            have n0_ := qW BK163 hb
            have n1_ := qH hb
            clear BK163
            clear HB
            have BK163 := n0_
            have HB := n1_
            clear n0_ n1_
            (try clear hb)
            (try clear hb2)
            (try clear hk)
            (try clear hi)
            refine hK.out _ _ ⟨(blk_cell BK163.out 0).trans rfl, (blk_cell BK163.out 1).trans rfl, (blk_cell BK163.out 2).trans rfl, (blk_cell BK163.out 3).trans rfl, (blk_cell BK163.out 4).trans rfl, (blk_cell BK163.out 5).trans rfl⟩ (fun hHeld => ?_)
            clear hK K
            refine norm_ (a' := ?_) ?_ ?_
            rotate_left
            ·show Act.put _ (some 43) _ = _
             simp only [Act.put, List.setIfInBounds_toArray, List.set_cons_zero, List.set_cons_succ, i64_w, i32_w]
             rfl
            refine one_ (i := 11) (N := some 51) (bA 18 4095) rfl rfl (one_of HT_.out (by kernel_rfl)) (by decide) (fun K hK => ?_)
            refine goes_ Tryz.func39 (by kernel_rfl) rfl #[.agg #[.int .i64 ((rd_TIns (rd_LIns l1 x9_1) x10_2).f0), .int .i64 ((rd_TIns (rd_LIns l1 x9_1) x10_2).f1), .int .i64 ((rd_TIns (rd_LIns l1 x9_1) x10_2).f2), .int .i64 ((rd_TIns (rd_LIns l1 x9_1) x10_2).f3), .string ((rd_TIns (rd_LIns l1 x9_1) x10_2).f4), .slice A162_5 ((rd_TIns (rd_LIns l1 x9_1) x10_2).f5).length c162_5], .bool a2] (by rfl) rfl rfl qL ?_
            with_reducible refine (cubbyref08_numbers.calls k2 ((rd_TIns (rd_LIns l1 x9_1) x10_2).f0) ((rd_TIns (rd_LIns l1 x9_1) x10_2).f1) ((rd_TIns (rd_LIns l1 x9_1) x10_2).f2) ((rd_TIns (rd_LIns l1 x9_1) x10_2).f3) ((rd_TIns (rd_LIns l1 x9_1) x10_2).f4) _ _ ((rd_TIns (rd_LIns l1 x9_1) x10_2).f5) a2 t165 _ ?side1 ?side2 A11.out).mono ?_
            (case side1 => exact qCB HR162_5.out)
            (case side2 => exact HC162_5.out)
            rintro e w27 ⟨v166, rfl, ho0, hb⟩
            refine ⟨_, rfl, ?_⟩
            have n0_ := zA (Kd.R_lower ho0 (below_size qB))
            have n1_ := qW BK163 hb
            have n2_ := qH hb
            clear BK163
            clear HB
            have HO167 := n0_
            have BK163 := n1_
            have HB := n2_
            clear n0_ n1_ n2_
            (try clear hb)
            (try clear hb2)
            (try clear hk)
            (try clear hi)
            (try clear ho0)
            obtain ⟨Ao28, co28, eo28⟩ := Kd.R_slice HO167.out
            (first | subst eo28 | (injection eo28 with f1_ f2_ f3_; have f4_ := f1_.symm; have f5_ := f3_.symm; clear f1_ f2_ f3_; subst f4_; subst f5_))
            refine hK.out _ _ ⟨(blk_cell BK163.out 0).trans rfl, (blk_cell BK163.out 1).trans rfl, (blk_cell BK163.out 2).trans rfl, (blk_cell BK163.out 3).trans rfl, (blk_cell BK163.out 4).trans rfl, (blk_cell BK163.out 5).trans rfl⟩ (fun hHeld => ?_)
            clear hK K
            refine norm_ (a' := ?_) ?_ ?_
            rotate_left
            ·show Act.put _ (some 51) _ = _
             simp only [Act.put, List.setIfInBounds_toArray, List.set_cons_zero, List.set_cons_succ, i64_w, i32_w]
             rfl
            refine one_ (i := 12) (N := some 52) (bA 18 8191) rfl rfl (one_of HT_.out (by kernel_rfl)) (by decide) (fun K hK => ?_)
            refine goes_ Tryz.func20 (by kernel_rfl) rfl #[.string t164, .string ((rd_TIns (rd_LIns l1 x9_1) x10_2).f4), .bool (((rd_TIns (rd_LIns l1 x9_1) x10_2).f0) == 11), .int .i64 1, .slice Ao28 t165.length co28] (by rfl) rfl rfl qL ?_
            with_reducible refine (cubbyref08_line.calls k2 t164 ((rd_TIns (rd_LIns l1 x9_1) x10_2).f4) (((rd_TIns (rd_LIns l1 x9_1) x10_2).f0) == 11) 1 _ _ t165 t168 t169 _ ?side1 ?side2 A12.out).mono ?_
            (case side1 => repeat (first | exact (Kd.R_reads' HO167.out).2.2 | (with_reducible refine Kd.C_alloc ?_ _) | (with_reducible refine Kd.C_drewN ?_ _) | (with_reducible refine Kd.C_drew ?_)))
            (case side2 => exact (Kd.R_reads' HO167.out).2.1)
            rintro e w' ⟨rfl, ⟨nd, rfl⟩⟩
            refine ⟨_, rfl, ?_⟩
            refine hK.out _ _ ⟨(blk_cell BK163.out 0).trans rfl, (blk_cell BK163.out 1).trans rfl, (blk_cell BK163.out 2).trans rfl, (blk_cell BK163.out 3).trans rfl, (blk_cell BK163.out 4).trans rfl, (blk_cell BK163.out 5).trans rfl⟩ (fun hHeld => ?_)
            clear hK K
            refine norm_ (a' := ?_) ?_ ?_
            rotate_left
            ·show Act.put _ (some 52) _ = _
             simp only [Act.put, List.setIfInBounds_toArray, List.set_cons_zero, List.set_cons_succ, i64_w, i32_w]
             rfl
            refine pu_ (i := 13) (N := some 39) (bA 18 16383) ?_
            refine pu_ (i := 14) (N := some 53) (bA 18 32767) ?_
            refine pu_ (i := 15) (N := some 54) (bA 18 65535) ?_
            refine pu_ (i := 16) (N := some 12) (bA 18 131071) ?_
            refine pu_ (i := 17) (N := some 13) (bA 18 262143) ?_
            refine done_ (done_of HT_.out (by kernel_rfl)) ?_
            try go_wp2
            go_ret2
            exact ⟨qE, qB⟩
          ·rw [zD c9] at H
           exact absurd H (by simp)
         ·rw [zD c8] at H
          have c8b0 := zG c8
          clear c8
          have H' := zA H
          clear H
          have p160 : 0 ≤ (x9_1 : Int) := zB qA
          have q160 : x9_1 < (l1.length : Int) := zB qA
          obtain ⟨ad160, A160_0, c160_0, e160, hx160_0, hl160_0, hi160_0⟩ := at_LIns HR1.out x9_1 p160 q160
          cases e160
          replace hx160_0 := (HB.out.cell (zE w _ hx160_0)).trans hx160_0
          have HR160_0 := zA hi160_0
          have HC160_0 := zA hl160_0
          clear hi160_0 hl160_0
          replace p160 := eq_true p160
          replace q160 := eq_true q160
          go_wp2
          go_roundg k2
          case measure => have := HK1.out; have := HK2.out; omega
          case rel => exact ⟨(x8_2), (wrap64 (x9_1 + 1)), qT, qT, H', ⟨by have := HK1.out; have := HK2.out; omega⟩, ⟨qB⟩⟩
        ·rw [zD c7] at H
         exact absurd H (by simp)
       ·rw [zD c6] at H
        exact absurd H (by simp)
    ·rw [zD c5] at H
     exact absurd H (by simp)
   ·rw [zD c4] at H
    have c4b0 := zG c4
    clear c4
    simp only [Option.some.injEq, Prod.mk.injEq] at H
    obtain ⟨rfl, rfl⟩ := H
    go_wp2
    go_ret2
    exact ⟨qE, qB⟩

def cubbyref08_PrintCode.f (k : Nat) (a0_0 : ByteArray) (a0_1 : Int) (a0_2 : Int) (a0_3 : Int) (l0_4 : List (List (SIns))) : Option (ByteArray × Int) := (cubbyref08_line.f k (⟨#[99, 111, 100, 101]⟩ : ByteArray) a0_0 true 0 (([a0_1, a0_2, a0_3] : List Int))).bind fun bt336 => (if bt336.2 = 0 then ((cubbyref08_print.f k bt336.1 l0_4 true).bind fun bt338 => (some (bt338.1, bt338.2))) else (some ((⟨#[]⟩ : ByteArray), bt336.2)))
set_option maxHeartbeats 8000000 in
set_option maxRecDepth 100000 in
theorem cubbyref08_PrintCode.calls (k : Nat) (a0_0 : ByteArray) (a0_1 : Int) (a0_2 : Int) (a0_3 : Int) (A0_4 : Option Addr) (c0_4 : Nat) (l0_4 : List (List (SIns))) (r1 : ByteArray) (r2 : Int) (w : World) (hr0_4 : Kd.C (Kd.slice 44 kIns) w A0_4 l0_4.length l0_4) (hc0_4 : l0_4.length ≤ c0_4) (h : cubbyref08_PrintCode.f k a0_0 a0_1 a0_2 a0_3 l0_4 = some (r1, r2)) :
 Calls Tryz.prog 13 #[.agg #[.string a0_0, .int .i64 a0_1, .int .i64 a0_2, .int .i64 a0_3, .slice A0_4 l0_4.length c0_4]] w fun e w' => e = .returned (.tuple #[.string r1, .int .i64 r2]) ∧ Below w.heap.size w w' := by
 have hu35 := Tryz.underlying35
 have HR0_4 := zA hr0_4
 have HC0_4 := zA hc0_4
 clear hr0_4 hc0_4
 have HB := zA (Below.refl w.heap.size w)
 have H := h; clear h; unfold cubbyref08_PrintCode.f at H
 obtain ⟨y333, hy333⟩ : ∃ y_ : List Int, y_ = (([a0_1, a0_2, a0_3] : List Int)) := ⟨_, rfl⟩
 replace H : ((cubbyref08_line.f k (⟨#[99, 111, 100, 101]⟩ : ByteArray) a0_0 true 0 y333).bind fun bt336 => (if bt336.2 = 0 then ((cubbyref08_print.f k bt336.1 l0_4 true).bind fun bt338 => (some (bt338.1, bt338.2))) else (some ((⟨#[]⟩ : ByteArray), bt336.2)))) = some (r1, r2) := by (try rw [hy333]); first | with_reducible exact H | exact (zJ _ _).symm.trans H | exact H
 have Ny333 := zA hy333
 clear hy333
 replace H := Option.bind_eq_some_iff.mp H
 obtain ⟨⟨t336, t337⟩, A20, H⟩ := H
 replace H : (if t337 = 0 then ((cubbyref08_print.f k t336 l0_4 true).bind fun bt338 => (some (bt338.1, bt338.2))) else (some ((⟨#[]⟩ : ByteArray), t337))) = some (r1, r2) := H
 have A2 := zA A20
 clear A20
 by_cases c3 : t337 = 0
 ·rw [zC c3] at H
  obtain ⟨c3b0, c3b1⟩ := qe c3; clear c3
  replace H := Option.bind_eq_some_iff.mp H
  obtain ⟨⟨t338, t339⟩, A40, H⟩ := H
  replace H : (some (t338, t339)) = some (r1, r2) := H
  have A4 := zA A40
  clear A40
  simp only [Option.some.injEq, Prod.mk.injEq] at H
  obtain ⟨rfl, rfl⟩ := H
  go_enter Tryz.func13, Tryz.ntmps13
  go_wp2_with (first | ((with_reducible refine gate_dst (N := 1) rfl ?_); refine box_event (by rfl) (N := 1) (by rfl) (cs := #[.string a0_0, .int .i64 a0_1, .int .i64 a0_2, .int .i64 a0_3, .slice A0_4 l0_4.length c0_4]) (t := 35) ?hr ?_; (case hr => go_simp <;> rfl); intro gb332 hg w5 hbox hb; have BK332 := zA (hbox); have GW332 := qG hg; have GE332 := GW332; replace HB := qH hb; clear hb hbox hg; have z6_0 := bk5 BK332.out) | ((with_reducible refine gate_dst (N := 13) rfl ?_); refine Kd.R_lit (Kd.int .i64) _ 3 (by rfl) (N := 13) (by rfl) (xs := ([a0_1, a0_2, a0_3] : List Int)) (inner := [.int .i64 a0_1, .int .i64 a0_2, .int .i64 a0_3]) (ok := fun _ => True) (okp := fun _ => True) ?hr ?hp (fun _ hk => hk) trivial (Below.refl _ _) (Nat.le_refl _) (by simp) ?_; (case hr => go_simp <;> rfl); (case hp => exact (Reps.one (show Kd.M (Kd.int .i64) _ _ _ a0_1 [.int .i64 a0_1] from rfl) (Reps.one (show Kd.M (Kd.int .i64) _ _ _ a0_2 [.int .i64 a0_2] from rfl) (Reps.one (show Kd.M (Kd.int .i64) _ _ _ a0_3 [.int .i64 a0_3] from rfl) (Reps.none _ _))))); intro v334 w7 ho8 hb hg_ hnew_; clear hg_ hnew_; (first | rw [← Ny333.out] at ho8 | (simp only [Int.reduceToNat] at ho8; rw [← Ny333.out] at ho8)); have HO335 := zA (Kd.R_lower ho8 (below_size qB)); replace BK332 := qW BK332 hb; replace HB := qH hb; clear hb ho8; have z9_0 := bk5 BK332.out; obtain ⟨Ao10, co10, eo10⟩ := Kd.R_slice HO335.out; subst eo10) | ((with_reducible refine gate_callee (f := 20) rfl ?_); refine goesL_ (some 18) rfl rfl Tryz.func20 (by kernel_rfl) rfl #[.string (⟨#[99, 111, 100, 101]⟩ : ByteArray), .string a0_0, .bool true, .int .i64 0, .slice Ao10 y333.length co10] rfl qL ?_; (with_reducible refine (cubbyref08_line.calls k (⟨#[99, 111, 100, 101]⟩ : ByteArray) a0_0 true 0 _ _ y333 t336 t337 _ ?side1 ?side2 A2.out).mono ?_); (case side1 => repeat (first | exact (Kd.R_reads' HO335.out).2.2 | (with_reducible refine Kd.C_alloc ?_ _) | (with_reducible refine Kd.C_drewN ?_ _) | (with_reducible refine Kd.C_drew ?_))); (case side2 => exact (Kd.R_reads' HO335.out).2.1); rintro e w' ⟨rfl, ⟨nd, rfl⟩⟩; refine ⟨_, rfl, ?_⟩) | ((with_reducible refine gate_callee (f := 21) rfl ?_); refine goesL_ (some 27) rfl rfl Tryz.func21 (by kernel_rfl) rfl #[.string t336, .slice A0_4 l0_4.length c0_4, .bool true] rfl qL ?_; (with_reducible refine (cubbyref08_print.calls k t336 _ _ l0_4 true t338 t339 _ ?side1 ?side2 A4.out).mono ?_); (case side1 => repeat (first | exact (Kd.C_below HR0_4.out qB) | (with_reducible refine Kd.C_alloc ?_ _) | (with_reducible refine Kd.C_drewN ?_ _) | (with_reducible refine Kd.C_drew ?_))); (case side2 => exact HC0_4.out); rintro e w11 ⟨rfl, hb⟩; refine ⟨_, rfl, ?_⟩; replace HO335 := zA (Kd.R_below (qR HO335.out) hb); replace BK332 := qW BK332 hb; replace HB := qH hb; (try clear hb)))
  go_ret2
  exact ⟨qE, qB⟩
 ·rw [zD c3] at H
  obtain ⟨c3b0, c3b1⟩ := qn c3
  simp only [Option.some.injEq, Prod.mk.injEq] at H
  obtain ⟨rfl, rfl⟩ := H
  go_enter Tryz.func13, Tryz.ntmps13
  go_wp2_with (first | ((with_reducible refine gate_dst (N := 1) rfl ?_); refine box_event (by rfl) (N := 1) (by rfl) (cs := #[.string a0_0, .int .i64 a0_1, .int .i64 a0_2, .int .i64 a0_3, .slice A0_4 l0_4.length c0_4]) (t := 35) ?hr ?_; (case hr => go_simp <;> rfl); intro gb332 hg w12 hbox hb; have BK332 := zA (hbox); have GW332 := qG hg; have GE332 := GW332; replace HB := qH hb; clear hb hbox hg; have z13_0 := bk5 BK332.out) | ((with_reducible refine gate_dst (N := 13) rfl ?_); refine Kd.R_lit (Kd.int .i64) _ 3 (by rfl) (N := 13) (by rfl) (xs := ([a0_1, a0_2, a0_3] : List Int)) (inner := [.int .i64 a0_1, .int .i64 a0_2, .int .i64 a0_3]) (ok := fun _ => True) (okp := fun _ => True) ?hr ?hp (fun _ hk => hk) trivial (Below.refl _ _) (Nat.le_refl _) (by simp) ?_; (case hr => go_simp <;> rfl); (case hp => exact (Reps.one (show Kd.M (Kd.int .i64) _ _ _ a0_1 [.int .i64 a0_1] from rfl) (Reps.one (show Kd.M (Kd.int .i64) _ _ _ a0_2 [.int .i64 a0_2] from rfl) (Reps.one (show Kd.M (Kd.int .i64) _ _ _ a0_3 [.int .i64 a0_3] from rfl) (Reps.none _ _))))); intro v334 w14 ho15 hb hg_ hnew_; clear hg_ hnew_; (first | rw [← Ny333.out] at ho15 | (simp only [Int.reduceToNat] at ho15; rw [← Ny333.out] at ho15)); have HO335 := zA (Kd.R_lower ho15 (below_size qB)); replace BK332 := qW BK332 hb; replace HB := qH hb; clear hb ho15; have z16_0 := bk5 BK332.out; obtain ⟨Ao17, co17, eo17⟩ := Kd.R_slice HO335.out; subst eo17) | ((with_reducible refine gate_callee (f := 20) rfl ?_); refine goesL_ (some 18) rfl rfl Tryz.func20 (by kernel_rfl) rfl #[.string (⟨#[99, 111, 100, 101]⟩ : ByteArray), .string a0_0, .bool true, .int .i64 0, .slice Ao17 y333.length co17] rfl qL ?_; (with_reducible refine (cubbyref08_line.calls k (⟨#[99, 111, 100, 101]⟩ : ByteArray) a0_0 true 0 _ _ y333 t336 t337 _ ?side1 ?side2 A2.out).mono ?_); (case side1 => repeat (first | exact (Kd.R_reads' HO335.out).2.2 | (with_reducible refine Kd.C_alloc ?_ _) | (with_reducible refine Kd.C_drewN ?_ _) | (with_reducible refine Kd.C_drew ?_))); (case side2 => exact (Kd.R_reads' HO335.out).2.1); rintro e w' ⟨rfl, ⟨nd, rfl⟩⟩; refine ⟨_, rfl, ?_⟩))
  go_ret2
  exact ⟨qE, qB⟩
end Go.Proofs.YtniknpjeknmpjaaGreatDoor.Q
namespace Go.Proofs.YtniknpjeknmpjaaGreatDoor.Plain
open Go Go.RowKit Go.Proofs.YtniknpjeknmpjaaGreatDoorW.PrintWords Go.Proofs.YtniknpjeknmpjaaGreatDoorW.PrintMore
theorem wrap_nat {j : Nat} (h : j ≤ 4611686018427387904) : wrap64 ((j : Int) + 1) = ((j + 1 : Nat) : Int) := by
 unfold wrap64
 omega
theorem wrap_id {i : Int} (h0 : -4611686018427387904 ≤ i) (h : i ≤ 4611686018427387904) : wrap64 i = i := by
 unfold wrap64
 omega
theorem rd_nat (l : List Int) (j : Nat) : rd l (j : Int) = l.getD j 0 := rfl
theorem rd_get {l : List Int} {j : Nat} (h : j < l.length) : rd l (j : Int) = l[j] := by
 rw [rd_nat, List.getD_eq_getElem?_getD, List.getElem?_eq_getElem h]
 rfl
theorem drop_cons {α : Type} {l : List α} {j : Nat} (h : j < l.length) : l.drop j = l[j] :: l.drop (j + 1) := by
 rw [List.drop_eq_getElem_cons h]
theorem i64_range {n : Int} (h : (Lit.int .i64 n).wf = true) : -9223372036854775808 ≤ n ∧ n ≤ 9223372036854775807 := by
 have := bounds_i64 h
 omega
theorem loop_eq (bs : ByteArray) : ∀ (n i : Nat) (r : List UInt8), bs.size - i = n → ByteArray.toList.loop bs i r = r.reverse ++ bs.data.toList.drop i := by
 intro n
 induction n with
 | zero =>
  intro i r h
  unfold ByteArray.toList.loop
  rw [zD (by omega), List.drop_eq_nil_of_le (by simp; have : bs.data.size = bs.size := rfl; omega), List.append_nil]
 | succ n ih =>
  intro i r h
  unfold ByteArray.toList.loop
  have hs : bs.data.size = bs.size := rfl
  rw [zC (by omega), ih (i + 1) _ (by omega), List.drop_eq_getElem_cons (i := i) (by simp; omega)]
  have : bs.get! i = bs.data.toList[i]'(by simp; omega) := by
   show bs.data[i]! = _
   rw [getElem!_pos bs.data i (by omega)]
   simp
  rw [this]
  simp
theorem toList_data (bs : ByteArray) : bs.toList = bs.data.toList := by
 unfold ByteArray.toList
 rw [loop_eq bs _ 0 [] rfl]
 simp
theorem toList_inj {a b : ByteArray} : a.toList = b.toList ↔ a = b := by
 rw [toList_data, toList_data]
 constructor
 ·intro h
  cases a
  cases b
  simp at h
  rw [h]
 ·rintro rfl
  rfl
end Go.Proofs.YtniknpjeknmpjaaGreatDoor.Plain
namespace Go.Proofs.YtniknpjeknmpjaaGreatDoor.Q
open Go.RowKit Go.Shelf Go.Proofs.YtniknpjeknmpjaaGreatDoor.Plain Go.Proofs.YtniknpjeknmpjaaGreatDoorW.PrintWords Go.Proofs.YtniknpjeknmpjaaGreatDoorW.PrintLast Go.Proofs.YtniknpjeknmpjaaGreatDoorW.PrintMore
set_option linter.unusedVariables false
set_option linter.unusedSimpArgs false
theorem builderExtra : Builder.Extra Tryz.prog Tryz.lays156_ren :=
 { sizeBuilder := by kernel_rfl, liesBuilder := by kernel_rfl, t5 := Tryz.underlying5, a5 := Tryz.isAgg5, z5 := Tryz.sizeOf5, v5 := Tryz.zeroValue5, infoByte := by kernel_rfl, cellsByte := by kernel_rfl, sizeByte := by kernel_rfl, neB5 := by decide }
structure PrAt (base gp : Nat) (buf : List UInt8) (e : Int) (w : World) : Prop where
 ge : base ≤ gp
 at_ : ∃ (p : Option Addr) (v : Value), w.heap[gp]? = some (.cells #[.pointer p, v, .int .i64 e] 51 (0, 0)) ∧ (p = none ∨ p = some ⟨gp, 0, none⟩) ∧ w.ownsRow base 5 1 v (Lib.byteCells buf).length (Lib.byteCells buf)
theorem PrAt.below {base gp : Nat} {buf : List UInt8} {e : Int} {w w1 : World} (h : PrAt base gp buf e w) (hb : Below w.heap.size w w1) : PrAt base gp buf e w1 := by
 obtain ⟨ge, p, v, hk, hp, ho⟩ := h
 exact ⟨ge, p, v, blk_below hk hb, hp, pw_own_below ho hb⟩
theorem own_ne {base gp : Nat} {w : World} {v : Value} {n : Nat} {bs : List Value} {p : Option Addr} {u : Value} {e : Int} (hk : w.heap[gp]? = some (.cells #[.pointer p, u, .int .i64 e] 51 (0, 0))) (ho : w.ownsRow base 5 1 v n bs) : v.ownBlock ≠ some gp := by
 intro h
 obtain ⟨cells, hc⟩ := own_typed ho gp h
 have := hk.symm.trans hc
 simp at this
set_option maxHeartbeats 1000000 in
set_option maxRecDepth 100000 in
theorem copyCheck_calls {gp : Nat} {buf : List UInt8} {e0 : Int} {w0 w : World} (h : PrAt w0.heap.size gp buf e0 w) (hB : Below w0.heap.size w0 w) :
 Calls Tryz.prog 55 #[.pointer (some ⟨gp, 0, none⟩)] w fun e w' => e = .returned (.tuple #[]) ∧ (∃ v, w'.heap[gp]? = some (.cells #[.pointer (some ⟨gp, 0, none⟩), v, .int .i64 e0] 51 (0, 0)) ∧ w'.ownsRow w0.heap.size 5 1 v (Lib.byteCells buf).length (Lib.byteCells buf)) ∧ Below w0.heap.size w0 w' ∧ Kept w w' (fun k => k = gp) := by
 obtain ⟨ge, p, v, hk, hp, ho⟩ := h
 have hsz : (Tryz.prog.info? 49).map (·.size) = some 2 := by kernel_rfl
 obtain ⟨j, hj, hjs⟩ := Option.map_eq_some_iff.1 hsz
 have hne := own_ne hk ho
 have u1 := run_underlying Tryz.underlying49
 have u2 := run_underlying Tryz.underlying46
 have c0 : w.cell? ⟨gp, 0, none⟩ = some (.pointer p) := (blk_cell hk 0).trans rfl
 have f0 := blk_frozen hk 0
 rcases hp with rfl | rfl
 ·have hsh : w.shape? gp = some (51, 3) := by simp [World.shape?, hk]
  have hl : liesAt Tryz.prog Tryz.prog.depth 51 (3 / Tryz.prog.cellsOf 51) 0 49 1 = true := by kernel_rfl
  have HK := zA hk
  have HO := zA ho
  have HB := zA hB
  have HN := zA hne
  clear hk ho hB hne
  go_enter Tryz.func55, Tryz.ntmps55
  go_wp2
  rw [Lib.run_to_unsafe w ⟨gp, 0, none⟩ Tryz.underlying46 Tryz.underlying114 hj (by rw [hjs]; decide) hsh (Nat.zero_lt_succ 2)]
  simp only [Result.andThen]
  rw [Oper.upon_value]
  go_wp2
  rw [run_callFunc_extern Tryz.func69 (by kernel_rfl) (by kernel_rfl) (by kernel_rfl) (e := Extern.AbiNoEscape.same) (by kernel_rfl)]
  rw [Lib.run_noEscape]
  simp only [Result.andThen]
  rw [Oper.upon_value]
  go_wp2
  rw [Lib.run_from_unsafe w ⟨gp, 0, none⟩ Tryz.underlying114 Tryz.underlying46 hj hsh hl]
  simp only [Result.andThen]
  rw [Oper.upon_value]
  go_wp2
  go_end0
  exact ⟨rfl, ⟨v, blk_put HK.out 0 _ rfl, own_setCell HO.out (p := ⟨gp, 0, none⟩) (fun h => HN.out h.symm) _⟩, below_set HB.out ge, Kept.setCell (S := fun k => k = gp) (Kept.refl _ _) (.inl rfl) _⟩
 ·go_enter Tryz.func55, Tryz.ntmps55
  go_wp2
  rw [Lib.run_neq_ptr_same w _ Tryz.underlying46 hj]
  go_wp2
  go_end0
  exact ⟨rfl, ⟨v, hk, ho⟩, hB, Kept.refl _ _⟩
def KeptT (gp : Nat) (w w' : World) : Prop := w.heap.size ≤ w'.heap.size ∧ ∀ (k : Nat) (o : Obj), w.heap[k]? = some o → (∀ cs fr, o ≠ .cells cs 5 fr) → k ≠ gp → w'.heap[k]? = some o
theorem KeptT.refl (gp : Nat) (w : World) : KeptT gp w w := ⟨Nat.le_refl _, fun _ _ h _ _ => h⟩
theorem KeptT.trans {gp : Nat} {w w1 w2 : World} (h : KeptT gp w w1) (h2 : KeptT gp w1 w2) : KeptT gp w w2 := ⟨Nat.le_trans h.1 h2.1, fun k o hk ht hg => h2.2 k o (h.2 k o hk ht hg) ht hg⟩
theorem KeptT.below {gp : Nat} {w w1 w2 : World} (h : KeptT gp w w1) (hb : Below w1.heap.size w1 w2) : KeptT gp w w2 := h.trans ⟨hb.size, fun k o hk _ _ => blk_below hk hb⟩
theorem KeptT.of_kept {gp : Nat} {w w1 : World} (h : Kept w w1 (fun k => k = gp)) : KeptT gp w w1 := ⟨h.1, fun k o hk _ hg => blk_kept hk h hg⟩
theorem KeptT.set {gp : Nat} {w w1 : World} (h : KeptT gp w w1) (i : Nat) (v : Value) : KeptT gp w (w1.setCell ⟨gp, i, none⟩ v) := h.trans (KeptT.of_kept (Kept.setCell (S := fun k => k = gp) (Kept.refl _ _) (.inl rfl) _))
theorem KeptT.grown {gp : Nat} {w w1 w2 : World} {v : Value} {n : Nat} {bs : List Value} {base : Nat} (h : KeptT gp w w1) (ho : w1.ownsRow base 5 1 v n bs) (hg : w1.grownBy w2 v.ownBlock) : KeptT gp w w2 := by
 refine h.trans ⟨hg.size, fun k o hk ht hgp => (hg.block k (blk_lt hk) (fun e => ?_)).trans hk⟩
 obtain ⟨cells, hc⟩ := own_typed ho k e.symm
 exact ht cells (0, 0) (zI (hk.symm.trans hc))
theorem iter_cells {w : World} {k0 : Nat} {s : ByteArray} {p q : Nat} (hi : w.heap[k0]? = some (.stringIter s p)) {k t : Nat} {cs : Array Value} {fr : Nat × Nat} (hk : w.heap[k]? = some (.cells cs t fr)) : (w.iterAt k0 s q).heap[k]? = some (.cells cs t fr) := by
 refine (Lib.iterAt_other w k0 k s q (fun e => ?_)).trans hk
 subst e
 have := hi.symm.trans hk
 simp at this
set_option maxHeartbeats 2000000 in
set_option maxRecDepth 100000 in
theorem writeString_calls {gp : Nat} {buf : List UInt8} {e0 : Int} {w0 w : World} (h : PrAt w0.heap.size gp buf e0 w) (hB : Below w0.heap.size w0 w) (s : ByteArray) (hl : buf.length + s.size ≤ 140737488355328) :
 Calls Tryz.prog 28 #[.pointer (some ⟨gp, 0, none⟩), .string s] w fun e w' => e = .returned (.tuple #[.int .i64 s.size, .nilIface]) ∧ PrAt w0.heap.size gp (buf ++ s.data.toList) e0 w' ∧ Below w0.heap.size w0 w' ∧ KeptT gp w w' := by
 obtain ⟨i0, hi, hz0, hz1, hz2⟩ := info_parts builderExtra.infoByte
 have hge := h.ge
 have hcc := zA (copyCheck_calls h hB)
 clear h hB
 go_enter Tryz.func28, Tryz.ntmps28
 go_wp2_with (go_at_call 55; refine hcc.out.mono ?_; rintro e w1 ⟨rfl, ⟨v, hk, ho⟩, hB1, hkp⟩; refine Hid.out ?_)
 refine Lib.hid ?_
 have HK := zA hk
 have HO := zA ho
 have HB := zA hB1
 have HT := zA (KeptT.of_kept hkp)
 have hne := own_ne hk ho
 have HNE := zA hne
 have c1 : w1.cell? ⟨gp, 1, none⟩ = some v := (blk_cell hk 1).trans rfl
 clear hcc hkp hk ho hB1 hne
 go_wp2_with (at_builtin; refine Lib.wpList_append_own_string _ rfl _ _ 47 9 rfl w0.heap.size 5 i0 Tryz.underlying47 Tryz.underlying9 hi hz0 hz1 hz2 _ _ _ rfl HO.out s rfl ?c3 ?c4 ?c5 ?_)
 case c3 => have := Lib.byteCells_length buf; unfold maxLen; omega
 case c4 => have := Lib.byteCells_length buf; omega
 case c5 => exact below_size HB.out
 intro v' w2 hown' hgrow _
 have hk2 : w2.heap[gp]? = some (.cells #[.pointer (some ⟨gp, 0, none⟩), v, .int .i64 e0] 51 (0, 0)) := (hgrow.block gp (blk_lt HK.out) (fun e => HNE.out e.symm)).trans HK.out
 have HK2 := zA hk2
 have d1 : w2.cell? ⟨gp, 1, none⟩ = some v := (blk_cell hk2 1).trans rfl
 have f1 : w2.frozen? ⟨gp, 1, none⟩ = false := blk_frozen hk2 1
 have HO2 := zA hown'
 have HB2 := zA (HB.out.grown hgrow (below_size HB.out) (fun k hk => (HO.out.lt k hk).1))
 have HT2 := zA (HT.out.grown HO.out hgrow)
 have hne2 := own_ne hk2 hown'
 obtain ⟨ao, n', cap, rfl⟩ : ∃ ao n' cap, v' = .slice ao n' cap := by
  rcases hown'.2 with ⟨hv, _⟩ | ⟨g, cap, cur, hv, _⟩
  ·exact ⟨_, _, _, hv⟩
  ·exact ⟨_, _, _, hv⟩
 have HNE2 := zA hne2
 clear hne2 hown' hgrow hk2 c1
 go_wp2
 go_ret2
 refine ⟨rfl, ⟨hge, some ⟨gp, 0, none⟩, .slice ao n' cap, blk_put HK2.out 1 _ rfl, .inr rfl, ?_⟩, below_set HB2.out hge, HT2.out.set 1 _⟩
 have e1 : Lib.byteCells (buf ++ s.data.toList) = Lib.byteCells buf ++ Lib.strCells s := by rw [Lib.byteCells_append]; rfl
 rw [e1, List.length_append, Lib.strCells_length]
 exact own_setCell HO2.out (p := ⟨gp, 1, none⟩) (fun h => HNE2.out h.symm) _
set_option maxHeartbeats 2000000 in
set_option maxRecDepth 100000 in
theorem string_calls {gp : Nat} {buf : List UInt8} {e0 : Int} {w0 w : World} (h : PrAt w0.heap.size gp buf e0 w) (hB : Below w0.heap.size w0 w) (h0 : buf ≠ []) :
 Calls Tryz.prog 36 #[.pointer (some ⟨gp, 0, none⟩)] w fun e w' => e = .returned (.string ⟨buf.toArray⟩) ∧ Below w0.heap.size w0 w' := by
 obtain ⟨ge, p, v, hbk, hp, hown⟩ := h
 have hl0 : buf.length ≠ 0 := by simpa using h0
 rw [Lib.byteCells_length] at hown
 obtain ⟨g, cap, cur, rfl, hbg, hg, hnc, hcm, hcs, htake⟩ : ∃ g cap cur, v = .slice (some ⟨g, 0, none⟩) buf.length cap ∧ w0.heap.size ≤ g ∧ w.heap[g]? = some (.cells cur 5 (0, 0)) ∧ buf.length ≤ cap ∧ cap ≤ maxLen ∧ cur.size = cap * 1 ∧ cur.toList.take (buf.length * 1) = Lib.byteCells buf := by
  rcases hown.2 with ⟨_, hz⟩ | ⟨g, cap, cur, hv, r⟩
  ·exact absurd hz hl0
  ·exact ⟨g, cap, cur, hv, r⟩
 have c1 : w.drew.cell? ⟨gp, 1, none⟩ = some (.slice (some ⟨g, 0, none⟩) buf.length cap) := by
  have : w.drew.heap[gp]? = some (.cells #[.pointer p, .slice (some ⟨g, 0, none⟩) buf.length cap, .int .i64 e0] 51 (0, 0)) := hbk
  exact (blk_cell this 1).trans rfl
 have hSD : (Builtin.unsafeSliceData_ #[47] 105 #[.slice (some ⟨g, 0, none⟩) buf.length cap]).run Tryz.prog w.drew = .ok (.pointer (some ⟨g, 0, none⟩)) w.drew :=
  Lib.run_unsafeSliceData_row _ _ _ _ _ _ (by omega)
 have hUS : (Builtin.unsafeString_ #[105, 3] 9 #[.pointer (some ⟨g, 0, none⟩), .int .i64 buf.length]).run Tryz.prog w.drew = .ok (.string ⟨buf.toArray⟩) (w.drew.freeze ⟨g, 0, none⟩ buf.length) := by
  refine Lib.run_unsafeString_row w.drew 105 3 9 5 Tryz.underlying105 (by kernel_rfl) g cur.size (by have hg' : w.drew.heap[g]? = some (.cells cur 5 (0, 0)) := hg; simp [World.shape?, hg']) buf h0 (by omega) (by unfold maxLen at hcm; omega) ?_
  intro j x hx
  exact hown.cells (g := g) rfl j (.int .u8 x.toNat) (by simp [Lib.byteCells, hx])
 have HB := zA (Lib.below_freeze (Below.drew hB) (p := ⟨g, 0, none⟩) hbg buf.length)
 clear hown htake hbk hB hg
 go_enter Tryz.func36, Tryz.ntmps36
 go_wp2
 go_region
 all_goals (go_wp2; go_ret; exact ⟨rfl, HB.out⟩)
theorem joinR_calls {w : World} {base : Nat} {ok : Nat → Prop} {g c : Nat} {xs : List ByteArray} (h : Kd.R Kd.string 9 w base ok (.slice (some ⟨g, 0, none⟩) xs.length c) xs) (hN : xs.length ≤ 140737488355328) (hlen : (Lib.join (xs.map (·.data.toList)) [32]).length ≤ 140737488355328) :
 Calls Tryz.prog 29 #[.slice (some ⟨g, 0, none⟩) xs.length c, .string ⟨#[32]⟩] w fun e w' => e = .returned (.string ⟨(Lib.join (xs.map (·.data.toList)) [32]).toArray⟩) ∧ Below w.heap.size w w' := by
 have hr := Kd.R_reads' h
 refine Any.strings_Join Tryz.lays156 builderExtra g 0 c xs ⟨#[32]⟩ w (fun j x hx => ?_) (Kd.R_lt h g (by simp [Value.ownBlock])) hN hr.2.1 hlen
 have hj := (List.getElem?_eq_some_iff.1 hx).1
 obtain ⟨ad, ea, hc⟩ := Kd.at_string hr.2.2 (j : Int) (by omega) (by omega)
 cases ea
 rw [Nat.zero_add]
 rw [Int.toNat_natCast] at hc
 have e : rdOf ByteArray.empty xs (j : Int) = x := by show xs.getD _ _ = _; rw [Int.toNat_natCast, List.getD_eq_getElem?_getD, hx]; rfl
 rw [e] at hc
 by_cases h0 : j = 0
 ·subst h0; simpa [Addr.add] using hc
 ·simpa [Addr.add, h0] using hc
end Go.Proofs.YtniknpjeknmpjaaGreatDoor.Q
namespace Go.Proofs.YtniknpjeknmpjaaGreatDoor.Q
open Go.RowKit Go.Shelf Go.Proofs.YtniknpjeknmpjaaGreatDoorW.PrintWords Go.Proofs.YtniknpjeknmpjaaGreatDoorW.PrintLast Go.Proofs.YtniknpjeknmpjaaGreatDoorW.PrintMore
set_option linter.unusedVariables false
def nameCut : ByteArray := ⟨#[97, 98, 99, 100, 101, 102, 103, 104, 105, 106, 107, 108, 109, 110, 111, 112, 113, 114, 115, 116, 117, 118, 119, 120, 121, 122, 48, 49, 50, 51, 52, 53, 54, 55, 56, 57]⟩
def strings_Trim.f (a0 a1 : ByteArray) : Option ByteArray := if a0.size ≤ 9223372036854775807 ∧ a1 = nameCut then some ⟨(Lib.trimS a0.data.toList a1.data.toList).toArray⟩ else none
theorem strings_Trim.calls (a0 a1 : ByteArray) (r : ByteArray) (w : World) (h : strings_Trim.f a0 a1 = some r) :
 Calls Tryz.prog 57 #[.string a0, .string a1] w fun e w' => e = .returned (.string r) ∧ Below w.heap.size w w' := by
 unfold strings_Trim.f at h
 split at h
 ·next c =>
  obtain ⟨c0, rfl⟩ := c
  obtain rfl := zI h
  exact Any.strings_Trim_laid Tryz.lays160 (by kernel_rfl) a0 nameCut w c0 (by decide) (ascii_of_all (by decide))
 ·exact absurd h (by simp)
end Go.Proofs.YtniknpjeknmpjaaGreatDoor.Q
namespace Go.Proofs.YtniknpjeknmpjaaGreatDoor.Q
open Go.RowKit Go.Proofs.YtniknpjeknmpjaaGreatDoorW.PrintWords Go.Proofs.YtniknpjeknmpjaaGreatDoorW.PrintLast Go.Proofs.YtniknpjeknmpjaaGreatDoorW.PrintMore
attribute [local go_sem] max2_int min2_int max_two min_two max_three min_three max_four min_four
set_option linter.unusedVariables false
set_option linter.unusedSimpArgs false

def ir_Name.f (a0 : ByteArray) : Option (Bool) := if a0.toList = ([] : List UInt8) then (some false) else (if (a0.size : Int) > 12 then (some false) else (if 0 < (a0.size : Int) then (if (bt a0 0) < 97 then (some false) else ((strings_Trim.f a0 (⟨#[97, 98, 99, 100, 101, 102, 103, 104, 105, 106, 107, 108, 109, 110, 111, 112, 113, 114, 115, 116, 117, 118, 119, 120, 121, 122, 48, 49, 50, 51, 52, 53, 54, 55, 56, 57]⟩ : ByteArray)).bind fun t109 => (some (t109.toList == ([] : List UInt8))))) else (none)))
set_option maxHeartbeats 8000000 in
set_option maxRecDepth 100000 in
theorem ir_Name.calls (a0 : ByteArray) (r : Bool) (w : World) (h : ir_Name.f a0 = some r) :
 Calls Tryz.prog 30 #[.string a0] w fun e w' => e = .returned (.bool r) ∧ Below w.heap.size w w' := by
 have HB := zA (Below.refl w.heap.size w)
 have H := h; clear h; unfold ir_Name.f at H
 by_cases c2 : a0.toList = ([] : List UInt8)
 ·rw [zC c2] at H
  obtain ⟨c2b0, c2b1⟩ := qe c2; clear c2
  obtain rfl := zI H
  go_enter Tryz.func30, Tryz.ntmps30
  go_wp2
  go_ret
  exact ⟨qE, qB⟩
 ·rw [zD c2] at H
  obtain ⟨c2b0, c2b1⟩ := qn c2
  by_cases c3 : (a0.size : Int) > 12
  ·rw [zC c3] at H
   have c3b0 : decide (12 < (a0.size : Int)) = true := zF c3
   have c3b1 : decide (12 < a0.size) = true := zF (by omega)
   clear c3
   obtain rfl := zI H
   go_enter Tryz.func30, Tryz.ntmps30
   go_wp2
   go_ret
   exact ⟨qE, qB⟩
  ·rw [zD c3] at H
   have c3b0 : decide (12 < (a0.size : Int)) = false := zG c3
   have c3b1 : decide (12 < a0.size) = false := zG (by omega)
   clear c3
   by_cases c4 : 0 < (a0.size : Int)
   ·rw [zC c4] at H
    have c4b0 := zF c4
    have c4b1 : decide (0 < a0.size) = true := zF (by omega)
    clear c4
    by_cases c6 : (bt a0 0) < 97
    ·rw [zC c6] at H
     have c6b0 := zF c6
     clear c6
     obtain rfl := zI H
     have p5 : 0 ≤ (0 : Int) := (by omega)
     have q5 : 0 < a0.size := (by have : (0 : Int) < (a0.size : Int) := zB qA; omega)
     have hx5 : ∀ h : 0 < a0.size, ((a0[0]'h).toNat : Int) = bt a0 0 := bt_at a0 0
     clear p5
     have qi5 : (0 < (a0.size : Int)) = True := eq_true (zB qA)
     replace q5 := eq_true q5
     go_enter Tryz.func30, Tryz.ntmps30
     go_wp2
     go_ret
     exact ⟨qE, qB⟩
    ·rw [zD c6] at H
     have c6b0 := zG c6
     clear c6
     replace H := qb H; obtain ⟨t109, A7, H⟩ := H
     obtain rfl := zI H
     have p5 : 0 ≤ (0 : Int) := (by omega)
     have q5 : 0 < a0.size := (by have : (0 : Int) < (a0.size : Int) := zB qA; omega)
     have hx5 : ∀ h : 0 < a0.size, ((a0[0]'h).toNat : Int) = bt a0 0 := bt_at a0 0
     clear p5
     have qi5 : (0 < (a0.size : Int)) = True := eq_true (zB qA)
     replace q5 := eq_true q5
     go_enter Tryz.func30, Tryz.ntmps30
     go_wp2_with (first | ((with_reducible refine gate_callee (f := 57) rfl ?_); refine goesL_ (some 16) rfl rfl Tryz.func57 (by kernel_rfl) rfl #[.string a0, .string (⟨#[97, 98, 99, 100, 101, 102, 103, 104, 105, 106, 107, 108, 109, 110, 111, 112, 113, 114, 115, 116, 117, 118, 119, 120, 121, 122, 48, 49, 50, 51, 52, 53, 54, 55, 56, 57]⟩ : ByteArray)] rfl qL ?_; (with_reducible refine (strings_Trim.calls a0 (⟨#[97, 98, 99, 100, 101, 102, 103, 104, 105, 106, 107, 108, 109, 110, 111, 112, 113, 114, 115, 116, 117, 118, 119, 120, 121, 122, 48, 49, 50, 51, 52, 53, 54, 55, 56, 57]⟩ : ByteArray) t109 _ A7.out).mono ?_); rintro e w8 ⟨rfl, hb⟩; refine ⟨_, rfl, ?_⟩; replace HB := qH hb; (try clear hb)))
     go_ret
     exact ⟨qE, qB⟩
   ·rw [zD c4] at H
    exact absurd H (by simp)
end Go.Proofs.YtniknpjeknmpjaaGreatDoor.Q
namespace Go.Proofs.YtniknpjeknmpjaaGreatDoor.Q
open Go.RowKit Go.Shelf Go.Proofs.YtniknpjeknmpjaaGreatDoor.Plain Go.Proofs.YtniknpjeknmpjaaGreatDoorW.PrintWords Go.Proofs.YtniknpjeknmpjaaGreatDoorW.PrintLast Go.Proofs.YtniknpjeknmpjaaGreatDoorW.PrintMore
set_option linter.unusedVariables false
set_option linter.unusedSimpArgs false
def keepE (e e1 : Int) : Int := if e = 0 then e1 else e
inductive Part where
 | num (n : Int)
 | nm (s : ByteArray)
def Part.text : Part → List UInt8
 | .num n => Lib.itoa n
 | .nm s => s.data.toList
def Part.err : Part → Int
 | .num n => if n < 0 ∨ 2147483648 ≤ n then 81 else 0
 | .nm _ => 0
def PartAt (gp : Nat) (w : World) (v : Value) : Part → Prop
 | .num n => ∃ b1 b2, v = .func (.func 33) #[] #[.pointer (some ⟨b1, 0, none⟩), .pointer (some ⟨b2, 0, none⟩)] ∧ w.heap[b1]? = some (.cells #[.int .i64 n] 3 (0, 0)) ∧ w.heap[b2]? = some (.cells #[.pointer (some ⟨gp, 0, none⟩)] 45 (0, 0))
 | .nm s => ∃ b, v = .func (.func 32) #[] #[.pointer (some ⟨b, 0, none⟩)] ∧ w.heap[b]? = some (.cells #[.string s] 9 (0, 0))
theorem kept_blk {gp : Nat} {buf : List UInt8} {e : Int} {base : Nat} {w w' : World} (hp : PrAt base gp buf e w) (h : KeptT gp w w') {k t : Nat} {cs : Array Value} (hk : w.heap[k]? = some (.cells cs t (0, 0))) (ht : t ≠ 5) (hn : t ≠ 51) : w'.heap[k]? = some (.cells cs t (0, 0)) := by
 refine h.2 k _ hk (fun c f e => ht (by injection e)) (fun e_ => ?_)
 subst e_
 obtain ⟨_, p, v, h2, _⟩ := hp
 have := hk.symm.trans h2
 simp at this
 exact hn this.2
theorem PartAt.kept {gp : Nat} {buf : List UInt8} {e : Int} {base : Nat} {w w' : World} {v : Value} {p : Part} (hp : PrAt base gp buf e w) (h : KeptT gp w w') (hv : PartAt gp w v p) : PartAt gp w' v p := by
 cases p with
 | num n =>
  obtain ⟨b1, b2, rfl, h1, h2⟩ := hv
  exact ⟨b1, b2, rfl, kept_blk hp h h1 (by decide) (by decide), kept_blk hp h h2 (by decide) (by decide)⟩
 | nm s =>
  obtain ⟨b, rfl, h1⟩ := hv
  exact ⟨b, rfl, kept_blk hp h h1 (by decide) (by decide)⟩
theorem PartAt.below {gp : Nat} {w w' : World} {v : Value} {p : Part} (hb : Below w.heap.size w w') (hv : PartAt gp w v p) : PartAt gp w' v p := by
 cases p with
 | num n =>
  obtain ⟨b1, b2, rfl, h1, h2⟩ := hv
  exact ⟨b1, b2, rfl, blk_below h1 hb, blk_below h2 hb⟩
 | nm s =>
  obtain ⟨b, rfl, h1⟩ := hv
  exact ⟨b, rfl, blk_below h1 hb⟩
section
variable {gp : Nat} {buf : List UInt8} {e0 : Int} {w0 w : World}
set_option maxHeartbeats 2000000 in
set_option maxRecDepth 100000 in
theorem wrong_calls (h : PrAt w0.heap.size gp buf e0 w) (hB : Below w0.heap.size w0 w) (e1 : Int) :
 Calls Tryz.prog 31 #[.pointer (some ⟨gp, 0, none⟩), .int .i64 e1] w fun e w' => e = .returned (.tuple #[]) ∧ PrAt w0.heap.size gp buf (keepE e0 e1) w' ∧ Below w0.heap.size w0 w' ∧ KeptT gp w w' := by
 obtain ⟨ge, p, v, hk, hp, ho⟩ := h
 have HK := zA hk
 have HP := zA hp
 have HO := zA ho
 have HB := zA hB
 have HN := zA (own_ne hk ho)
 have c2 : w.cell? ⟨gp, 2, none⟩ = some (.int .i64 e0) := (blk_cell hk 2).trans rfl
 have f2 := blk_frozen hk 2
 clear hk hp ho hB
 by_cases c : e0 = 0
 ·obtain ⟨ca, cb⟩ := qe c
  have hke : keepE e0 e1 = e1 := zC c
  clear c
  rw [hke]
  clear hke
  go_enter Tryz.func31, Tryz.ntmps31
  go_wp2
  go_end0
  exact ⟨rfl, ⟨ge, p, v, blk_put HK.out 2 _ rfl, HP.out, own_setCell HO.out (p := ⟨gp, 2, none⟩) (fun h => HN.out h.symm) _⟩, below_set HB.out ge, (KeptT.refl gp w).set 2 _⟩
 ·obtain ⟨ca, cb⟩ := qn c
  have hke : keepE e0 e1 = e0 := zD c
  clear c
  rw [hke]
  clear hke
  go_enter Tryz.func31, Tryz.ntmps31
  go_wp2
  go_end0
  exact ⟨rfl, ⟨ge, p, v, HK.out, HP.out, HO.out⟩, HB.out, KeptT.refl gp w⟩
set_option maxHeartbeats 2000000 in
set_option maxRecDepth 100000 in
theorem number_calls (n : Int) : Calls Tryz.prog 18 #[.pointer (some ⟨gp, 0, none⟩), .int .i64 n] w fun e w' => ∃ v, e = .returned v ∧ PartAt gp w' v (.num n) ∧ Below w.heap.size w w' := by
 have hmf : ∀ (fn : Fn) (first cap : Array Value) (w : World), (Instr.makeFunc fn first cap).run Tryz.prog w = .ok (.func fn first cap) w := fun _ _ _ _ => rfl
 go_enter Tryz.func18, Tryz.ntmps18
 go_wp2
 go_ret
 exact ⟨_, rfl, ⟨_, _, rfl, by simpa using blk_new (w.alloc _) _, blk_alloc (blk_new w _) _⟩, below_alloc (below_alloc (Below.refl _ _) _) _⟩
set_option maxHeartbeats 2000000 in
set_option maxRecDepth 100000 in
theorem name_calls (h : PrAt w0.heap.size gp buf e0 w) (hB : Below w0.heap.size w0 w) (s : ByteArray) (b : Bool) (hn : ir_Name.f s = some b) :
 Calls Tryz.prog 17 #[.pointer (some ⟨gp, 0, none⟩), .string s] w fun e w' => ∃ v, e = .returned v ∧ PartAt gp w' v (.nm s) ∧ PrAt w0.heap.size gp buf (if b then e0 else keepE e0 80) w' ∧ Below w0.heap.size w0 w' ∧ KeptT gp w w' := by
 have hmf : ∀ (fn : Fn) (first cap : Array Value) (w : World), (Instr.makeFunc fn first cap).run Tryz.prog w = .ok (.func fn first cap) w := fun _ _ _ _ => rfl
 have HP := zA h
 have HB := zA hB
 have HN := zA hn
 have HT := zA (KeptT.refl gp w)
 clear h hB hn
 go_enter Tryz.func17, Tryz.ntmps17
 cases b with
 | true =>
  go_wp2_with (first
   | ((with_reducible refine gate_dst (N := 3) rfl ?_); refine box_event (by rfl) (N := 3) (by rfl) (cs := #[.string s]) (t := 9) ?hr ?_; (case hr => go_simp <;> rfl); intro gs hg w1 hbox hb; have BS := zA hbox; replace HP := zA (HP.out.below hb); replace HB := zA (below_step HB.out hb); replace HT := zA (HT.out.below hb); clear hb hbox hg; have z1 := bk1 BS.out)
   | (go_at_call 30; refine (ir_Name.calls s true _ HN.out).mono ?_; rintro e w2 ⟨rfl, hb⟩; replace BS := zA (blk_below BS.out hb); replace HP := zA (HP.out.below hb); replace HB := zA (below_step HB.out hb); replace HT := zA (HT.out.below hb); clear hb z1; have z1 := bk1 BS.out))
  go_ret
  exact ⟨_, rfl, ⟨gs, rfl, BS.out⟩, HP.out, HB.out, HT.out⟩
 | false =>
  go_wp2_with (first
   | ((with_reducible refine gate_dst (N := 3) rfl ?_); refine box_event (by rfl) (N := 3) (by rfl) (cs := #[.string s]) (t := 9) ?hr ?_; (case hr => go_simp <;> rfl); intro gs hg w1 hbox hb; have BS := zA hbox; replace HP := zA (HP.out.below hb); replace HB := zA (below_step HB.out hb); replace HT := zA (HT.out.below hb); clear hb hbox hg; have z1 := bk1 BS.out)
   | (go_at_call 30; refine (ir_Name.calls s false _ HN.out).mono ?_; rintro e w2 ⟨rfl, hb⟩; replace BS := zA (blk_below BS.out hb); replace HP := zA (HP.out.below hb); replace HB := zA (below_step HB.out hb); replace HT := zA (HT.out.below hb); clear hb z1; have z1 := bk1 BS.out)
   | (go_at_call 31; refine (wrong_calls HP.out HB.out 80).mono ?_; rintro e w3 ⟨rfl, hp, hb, ht⟩; replace BS := zA (kept_blk HP.out ht BS.out (by decide) (by decide)); replace HP := zA hp; replace HB := zA hb; replace HT := zA (HT.out.trans ht); clear hp hb ht z1; have z1 := bk1 BS.out))
  go_ret
  exact ⟨_, rfl, ⟨gs, rfl, BS.out⟩, HP.out, HB.out, HT.out⟩
theorem keep_zero (e : Int) : keepE e 0 = e := by unfold keepE; split <;> simp_all
set_option maxHeartbeats 2000000 in
set_option maxRecDepth 100000 in
theorem number1_calls (h : PrAt w0.heap.size gp buf e0 w) (hB : Below w0.heap.size w0 w) (hL : LaidW w0) (n : Int) (hn : -9223372036854775808 ≤ n ∧ n ≤ 9223372036854775807) (b1 b2 : Nat) (h1 : w.heap[b1]? = some (.cells #[.int .i64 n] 3 (0, 0))) (h2 : w.heap[b2]? = some (.cells #[.pointer (some ⟨gp, 0, none⟩)] 45 (0, 0))) :
 Calls Tryz.prog 33 #[.pointer (some ⟨b1, 0, none⟩), .pointer (some ⟨b2, 0, none⟩)] w fun e w' => e = .returned (.string ⟨(Lib.itoa n).toArray⟩) ∧ PrAt w0.heap.size gp buf (keepE e0 (Part.err (.num n))) w' ∧ Below w0.heap.size w0 w' ∧ KeptT gp w w' := by
 have HP := zA h
 have HB := zA hB
 have HLd := zA hL
 have HT := zA (KeptT.refl gp w)
 have B1 := zA h1
 have B2 := zA h2
 have z1 := bk1 h1
 have z2 := bk1 h2
 obtain ⟨u, hu⟩ : ∃ u, u = (⟨(Lib.itoa n).toArray⟩ : ByteArray) := ⟨_, rfl⟩
 rw [← hu]
 have HF := zA (show strconv_Itoa_34.f n = some u by unfold strconv_Itoa_34.f; rw [zC hn, hu])
 clear h hB hL h1 h2 hu hn
 by_cases c1 : n < 0 ∨ 2147483648 ≤ n
 ·have he : Part.err (.num n) = 81 := zC c1
  rw [he]
  clear he
  by_cases c2 : n < 0
  all_goals
   first
   | have c2b := zF c2
   | (have c2b := zG c2; have c3b := zF (show 2147483648 ≤ n by omega))
   go_enter Tryz.func33, Tryz.ntmps33
   go_wp2_with (first
    | (go_at_call 31; refine (wrong_calls HP.out HB.out 81).mono ?_; rintro e w3 ⟨rfl, hp, hb, ht⟩; replace B1 := zA (kept_blk HP.out ht B1.out (by decide) (by decide)); replace HP := zA hp; replace HB := zA hb; replace HT := zA (HT.out.trans ht); clear hp hb ht z1 z2; have z1 := bk1 B1.out)
    | (go_at_call 34; refine (strconv_Itoa_34.calls n u _ (HLd.out.below HB.out) HF.out).mono ?_; rintro e w4 ⟨rfl, hb⟩; replace HP := zA (HP.out.below hb); replace HB := zA (below_step HB.out hb); replace HT := zA (HT.out.below hb); clear hb z1))
   go_ret
   exact ⟨rfl, HP.out, HB.out, HT.out⟩
 ·have he : Part.err (.num n) = 0 := zD c1
  rw [he, keep_zero]
  clear he
  have c2b := zG (show ¬ n < 0 by omega)
  have c3b := zG (show ¬ 2147483648 ≤ n by omega)
  clear c1
  go_enter Tryz.func33, Tryz.ntmps33
  go_wp2_with (go_at_call 34; refine (strconv_Itoa_34.calls n u _ (HLd.out.below HB.out) HF.out).mono ?_; rintro e w4 ⟨rfl, hb⟩; replace HP := zA (HP.out.below hb); replace HB := zA (below_step HB.out hb); replace HT := zA (HT.out.below hb); clear hb z1 z2)
  go_ret
  exact ⟨rfl, HP.out, HB.out, HT.out⟩
set_option maxHeartbeats 2000000 in
set_option maxRecDepth 100000 in
theorem name1_calls (s : ByteArray) (b : Nat) (h : w.heap[b]? = some (.cells #[.string s] 9 (0, 0))) :
 Calls Tryz.prog 32 #[.pointer (some ⟨b, 0, none⟩)] w fun e w' => e = .returned (.string s) ∧ w = w' := by
 have z1 := bk1 h
 go_enter Tryz.func32, Tryz.ntmps32
 go_wp2
 go_ret
 exact ⟨rfl, rfl⟩
theorem R_keptT {α : Type} {d : Kd α} {e base : Nat} {ok : Nat → Prop} {v : Value} {xs : List α} {w' : World} (hr : d.R e w base ok v xs) (hp : PrAt w0.heap.size gp buf e0 w) (ht : KeptT gp w w') (hty : ∀ q, q ∈ e :: d.E → q ≠ 5 ∧ q ≠ 51) : d.R e w' base ok v xs := by
 refine Kd.R_mono (Kd.R_step (Kd.R_bound hr) (fun k hk _ => ?_)) (fun k hk => hk.1)
 obtain ⟨_, _, _, q, hq, cells, hc⟩ := hk
 exact (kept_blk hp ht hc (hty q hq).1 (hty q hq).2).trans hc.symm
def Part.str : Part → ByteArray
 | .num n => ⟨(Lib.itoa n).toArray⟩
 | .nm s => s
theorem PrAt.grown {α : Type} {d : Kd α} {t base : Nat} {ok : Nat → Prop} {v : Value} {xs : List α} {w' : World} (hp : PrAt w0.heap.size gp buf e0 w) (hr : d.R t w base ok v xs) (hg : w.grownBy w' v.ownBlock) (h1 : t ≠ 5) (h2 : t ≠ 51) : PrAt w0.heap.size gp buf e0 w' := by
 obtain ⟨ge, p, u, hk, hpp, ho⟩ := hp
 have n1 : ∀ k, v.ownBlock = some k → k ≠ gp := fun k hk' e => by
  obtain ⟨cells, hc⟩ := Kd.R_typed hr k hk'
  subst e
  have := hk.symm.trans hc
  simp at this
  exact h2 this.2.symm
 refine ⟨ge, p, u, (hg.block gp (blk_lt hk) (fun e => n1 gp e.symm rfl)).trans hk, hpp, own_other ho hg ?_⟩
 cases hu : u.ownBlock with
 | none => exact .inl rfl
 | some k =>
  refine .inr (fun e => ?_)
  obtain ⟨c1, h3⟩ := own_typed ho k hu
  obtain ⟨c2, h4⟩ := Kd.R_typed hr k e.symm
  have := h3.symm.trans h4
  simp at this
  exact h1 this.2.symm
theorem KeptT.later {w1 w' : World} (h : KeptT gp w w1) (hb : Below w.heap.size w1 w') : KeptT gp w w' := ⟨Nat.le_trans h.1 hb.size, fun k o hk ht hg => (hb.block k (blk_lt hk)).trans (h.2 k o hk ht hg)⟩
def PartsAt (gp : Nat) (w : World) (A : Option Addr) (ps : List Part) : Prop := ps = [] ∨ ∃ (bp : Nat) (cs : Array Value), A = some ⟨bp, 0, none⟩ ∧ w.heap[bp]? = some (.cells cs 53 (0, 0)) ∧ ∀ (j : Nat) p, ps[j]? = some p → ∃ v, cs[j]? = some v ∧ PartAt gp w v p
theorem PartsAt.kept {A : Option Addr} {ps : List Part} {w' : World} (hp : PrAt w0.heap.size gp buf e0 w) (ht : KeptT gp w w') (h : PartsAt gp w A ps) : PartsAt gp w' A ps := by
 rcases h with h | ⟨bp, cs, e, hk, hc⟩
 ·exact .inl h
 ·exact .inr ⟨bp, cs, e, kept_blk hp ht hk (by decide) (by decide), fun j p hj => by obtain ⟨v, h1, h2⟩ := hc j p hj; exact ⟨v, h1, h2.kept hp ht⟩⟩
theorem PartsAt.below {A : Option Addr} {ps : List Part} {w' : World} (hb : Below w.heap.size w w') (h : PartsAt gp w A ps) : PartsAt gp w' A ps := by
 rcases h with h | ⟨bp, cs, e, hk, hc⟩
 ·exact .inl h
 ·exact .inr ⟨bp, cs, e, blk_below hk hb, fun j p hj => by obtain ⟨v, h1, h2⟩ := hc j p hj; exact ⟨v, h1, h2.below hb⟩⟩
def errsOf (e : Int) (ps : List Part) : Int := ps.foldl (fun e p => keepE e p.err) e
def lineBytes (wd : ByteArray) (ps : List Part) : List UInt8 := Lib.join ((wd :: ps.map Part.str).map (·.data.toList)) [32] ++ [10]
def PartOk : Part → Prop
 | .num n => -9223372036854775808 ≤ n ∧ n ≤ 9223372036854775807
 | .nm _ => True
set_option maxHeartbeats 4000000 in
set_option maxRecDepth 100000 in
theorem line_calls (h : PrAt w0.heap.size gp buf e0 w) (hB : Below w0.heap.size w0 w) (hL : LaidW w0) (wd : ByteArray) (ps : List Part) (A : Option Addr) (c : Nat) (hps : PartsAt gp w A ps) (hok : ∀ p ∈ ps, PartOk p) (hpl : ps.length ≤ 100000) (hlen : (lineBytes wd ps).length ≤ 1000000000) (hbl : buf.length ≤ 1000000000) :
 Calls Tryz.prog 16 #[.pointer (some ⟨gp, 0, none⟩), .string wd, .slice A ps.length c] w fun e w' => e = .returned (.tuple #[]) ∧ PrAt w0.heap.size gp (buf ++ lineBytes wd ps) (errsOf e0 ps) w' ∧ Below w0.heap.size w0 w' ∧ KeptT gp w w' := by
 have HP := zA h
 have HB := zA hB
 have HLd := zA hL
 have HT := zA (KeptT.refl gp w)
 have HQ := zA hps
 have HOk := zA hok
 have HLen := zA hlen
 have HBl := zA hbl
 clear h hB hL hps hok hlen hbl
 go_enter Tryz.func16, Tryz.ntmps16
 have HBw := HB
 have HPw := HP
 go_wp2_with ((with_reducible refine gate_dst (N := 10) rfl ?_); refine Kd.R_lit Kd.string (w0 := w) w.heap.size 9 (by rfl) (N := 10) (by rfl) (xs := [wd]) (inner := [.string wd]) (ok := fun _ => True) (okp := fun _ => True) ?hr ?hp (fun _ hk => hk) trivial (Below.refl _ _) (Nat.le_refl _) (by simp) ?_; (case hr => go_simp <;> rfl); (case hp => exact Reps.one (show Kd.M Kd.string _ _ _ wd [.string wd] from rfl) (Reps.none _ _)); intro v10 w1 ho_ hb_ hg_ hnew_; have HS := zA ho_; replace HP := zA (HP.out.below hb_); replace HT := zA (HT.out.below hb_); replace HB := zA (below_step HB.out hb_); clear ho_ hb_ hg_ hnew_)
 go_loopg [6, 13] ps.length (fun kq v6 v13 w' => ∃ (i : Nat) (e1 : Int) (xs : List ByteArray), v13 = .int .i64 (i : Int) ∧ Aside0 (kq + i = ps.length) ∧ Aside0 (xs = wd :: (ps.take i).map Part.str) ∧ Aside0 (e1 = errsOf e0 (ps.take i)) ∧ Aside0 (Kd.R Kd.string 9 w' w.heap.size (fun _ => True) v6 xs) ∧
  Aside0 (PrAt w0.heap.size gp buf e1 w') ∧ Aside0 (Below w0.heap.size w0 w') ∧ Aside0 (KeptT gp w w'))
 case atStart => exact ⟨0, e0, [wd], by first | rfl | simp, ⟨by omega⟩, ⟨by simp⟩, ⟨by simp [errsOf]⟩, HS, HP, HB, HT⟩
 case round =>
  clear HS HP HB HT
  obtain ⟨i, e1, xs, rfl, HK, HXs, HE, HS, HP, HB, HT⟩ := hrel
  have hxl : xs.length ≤ 200000 := by rw [HXs.out]; simp; omega
  cases gk with
  | zero =>
   have d1b := zG (show ¬ ((i : Int) < (ps.length : Int)) by have := HK.out; omega)
   have d1c := zG (show ¬ (i < ps.length) by have := HK.out; omega)
   have hip : i = ps.length := by have := HK.out; omega
   obtain ⟨g, cg, eg, -, -, -⟩ := Kd.R_form HS.out (by rw [HXs.out]; simp)
   subst eg
   obtain ⟨tx, htx⟩ : ∃ tx, tx = (⟨(Lib.join (xs.map (·.data.toList)) [32]).toArray⟩ : ByteArray) := ⟨_, rfl⟩
   have hlb : lineBytes wd ps = (tx ++ (⟨#[10]⟩ : ByteArray)).data.toList := by
    rw [ByteArray.data_append, Array.toList_append, htx]
    unfold lineBytes
    rw [HXs.out, hip, List.take_length]
    first | done | rfl
   have hts : tx.size + 1 ≤ 1000000000 := by
    have := HLen.out
    rw [hlb, ByteArray.data_append, Array.toList_append, List.length_append] at this
    have e2 : (⟨#[10]⟩ : ByteArray).data.toList.length = 1 := rfl
    have e3 : tx.data.toList.length = tx.size := by simp
    omega
   have htj : (Lib.join (xs.map (·.data.toList)) [32]).length ≤ 140737488355328 := by
    have e3 : tx.data.toList.length = tx.size := by simp
    have e4 : tx.data.toList = Lib.join (xs.map (·.data.toList)) [32] := by rw [htx]
    rw [← e4]; omega
   have HLB := zA hlb
   have HTX := zA htx
   have HJ := zA htj
   have HBl2 := HBl.out
   clear hlb htx htj
   have hsz1 : (9223372036854775807 < tx.size + 1) = False := eq_false (by omega)
   go_wp2_with fail
   have HPd := zA (HP.out.below (below_drew (Below.refl _ _)))
   have HBd := zA (below_step HB.out (below_drew (Below.refl _ _)))
   have HTd := zA (HT.out.below (below_drew (Below.refl _ _)))
   have HSd := zA (Kd.R_drew HS.out)
   clear HP HB HT HS
   go_region_with (first
    | (go_at_call 29; refine (joinR_calls HSd.out (by omega) HJ.out).mono ?_; rw [← HTX.out]; rintro e w5 ⟨rfl, hb⟩; have HP5 := zA (HPd.out.below hb); have HB5 := zA (below_step HBd.out hb); have HT5 := zA (HTd.out.below hb); clear hb)
    | (go_at_call 28; refine (writeString_calls HP5.out HB5.out (tx ++ (⟨#[10]⟩ : ByteArray)) ?hz).mono ?_; (case hz => rw [ByteArray.size_append]; show _ + (_ + 1) ≤ _; omega); rw [← HLB.out]; rintro e w6 ⟨rfl, hp, hb, ht⟩; have HP6 := zA hp; have HB6 := zA hb; have HT6 := zA (HT5.out.trans ht); clear hp hb ht))
   all_goals go_end0
   all_goals exact ⟨rfl, by rw [HE.out, hip, List.take_length] at HP6; exact HP6.out, HB6.out, HT6.out⟩
  | succ k1 =>
   have hi : i < ps.length := by have := HK.out; omega
   have d1b := zF (show ((i : Int) < (ps.length : Int)) by omega)
   have d1c := zF hi
   obtain ⟨p, hp⟩ : ∃ p, ps[i]? = some p := ⟨_, List.getElem?_eq_getElem hi⟩
   obtain ⟨bp, cs, rfl, hk, hcs⟩ : ∃ (bp : Nat) (cs : Array Value), A = some ⟨bp, 0, none⟩ ∧ wr.heap[bp]? = some (.cells cs 53 (0, 0)) ∧ ∀ (j : Nat) p, ps[j]? = some p → ∃ v, cs[j]? = some v ∧ PartAt gp wr v p := by
    rcases HQ.out.kept HPw.out HT.out with h | h
    ·rw [h] at hi; simp at hi
    ·exact h
   obtain ⟨v, hv, hpa⟩ := hcs i p hp
   have hx1 : wr.cell? ⟨bp, i, none⟩ = some v := (blk_cell hk i).trans hv
   have hpok := HOk.out p (List.mem_of_getElem? hp)
   have hnx : Aside0 (wd :: (ps.take (i + 1)).map Part.str = xs ++ [p.str]) := ⟨by rw [HXs.out, List.take_add_one, hp]; simp⟩
   have hne : Aside0 (errsOf e0 (ps.take (i + 1)) = keepE e1 p.err) := ⟨by rw [HE.out, List.take_add_one, hp]; simp [errsOf]⟩
   clear hcs hv hp hk
   cases p with
   | nm s =>
    obtain ⟨b, rfl, h1⟩ := hpa
    have HB1 := zA h1
    clear h1 hpok
    go_wp2_with (first
     | (go_at_call 32; refine (name1_calls s b HB1.out).mono ?_; rintro e w' ⟨rfl, rfl⟩)
     | ((with_reducible refine gate_builtin (b := .append) (xs := #[.tmp 17, .tmp 20]) rfl ?_); at_builtin; (refine Kd.R_append Kd.string (w0 := wr) w.heap.size rfl (.tmp 17) (.tmp 20) 70 9 (.string ⟨#[]⟩) 16 rfl Tryz.underlying70 info9 rfl (by decide) (by omega) u6 xs s [.string s] (fun _ => True) (fun _ => False) rfl rfl ?aP (fun _ hk => hk.elim) ?aF ?aO ?aB ?aS ?aL ?_; (case aP => exact rfl); (case aF => exact fun _ _ => trivial); (case aO => exact HS.out); (case aB => exact Below.refl _ _); (case aS => exact HT.out.1); (case aL => omega); intro v1 w3 ho3 hb3 hg3 _; have HP3 := zA (HP.out.grown HS.out hg3 (by decide) (by decide)); have HS3 := zA ho3; have HT3 := zA (HT.out.later hb3); have HB3 := zA (HB.out.trans (hb3.mono (below_size HBw.out))); clear ho3 hb3 hg3)))
    go_roundg k1
    case measure => have := HK.out; omega
    case rel => exact ⟨i + 1, _, _, by go_num, ⟨by have := HK.out; omega⟩, ⟨hnx.out.symm⟩, ⟨by rw [hne.out]; exact (keep_zero e1).symm⟩, HS3, HP3, HB3, HT3⟩
   | num n =>
    obtain ⟨b1, b2, rfl, h1, h2⟩ := hpa
    have HB1 := zA h1
    have HB2 := zA h2
    have HN := zA (show -9223372036854775808 ≤ n ∧ n ≤ 9223372036854775807 from hpok)
    have hnx : Aside0 (wd :: (ps.take (i + 1)).map Part.str = xs ++ [(⟨(Lib.itoa n).toArray⟩ : ByteArray)]) := hnx
    obtain ⟨u, hu⟩ : ∃ u, u = (⟨(Lib.itoa n).toArray⟩ : ByteArray) := ⟨_, rfl⟩
    rw [← hu] at hnx
    have HU := zA hu
    clear h1 h2 hpok hu
    go_wp2_with (first
     | (go_at_call 33; refine (number1_calls HP.out HB.out HLd.out n HN.out b1 b2 HB1.out HB2.out).mono ?_; rw [← HU.out]; rintro e w2 ⟨rfl, hp2, hb2, ht2⟩; replace HS := zA (R_keptT HS.out HP.out ht2 (by decide)); replace HP := zA hp2; replace HB := zA hb2; replace HT := zA (HT.out.trans ht2); clear hp2 hb2 ht2 hx1)
     | ((with_reducible refine gate_builtin (b := .append) (xs := #[.tmp 17, .tmp 20]) rfl ?_); at_builtin; (refine Kd.R_append Kd.string (w0 := w2) w.heap.size rfl (.tmp 17) (.tmp 20) 70 9 (.string ⟨#[]⟩) 16 rfl Tryz.underlying70 info9 rfl (by decide) (by omega) u6 xs u [.string u] (fun _ => True) (fun _ => False) rfl rfl ?aP (fun _ hk => hk.elim) ?aF ?aO ?aB ?aS ?aL ?_; (case aP => exact rfl); (case aF => exact fun _ _ => trivial); (case aO => exact HS.out); (case aB => exact Below.refl _ _); (case aS => exact HT.out.1); (case aL => omega); intro v1 w3 ho3 hb3 hg3 _; have HP3 := zA (HP.out.grown HS.out hg3 (by decide) (by decide)); have HS3 := zA ho3; have HT3 := zA (HT.out.later hb3); have HB3 := zA (HB.out.trans (hb3.mono (below_size HBw.out))); clear ho3 hb3 hg3)))
    go_roundg k1
    case measure => have := HK.out; omega
    case rel => exact ⟨i + 1, _, _, by go_num, ⟨by have := HK.out; omega⟩, ⟨hnx.out.symm⟩, ⟨hne.out.symm⟩, HS3, HP3, HB3, HT3⟩
end
end Go.Proofs.YtniknpjeknmpjaaGreatDoor.Q
namespace Go.Proofs.YtniknpjeknmpjaaGreatDoor.Q
open Go.RowKit Go.Proofs.YtniknpjeknmpjaaGreatDoorW.PrintWords Go.Proofs.YtniknpjeknmpjaaGreatDoorW.PrintLast Go.Proofs.YtniknpjeknmpjaaGreatDoorW.PrintMore
attribute [local go_sem] max2_int min2_int max_two min_two max_three min_three max_four min_four
set_option linter.unusedVariables false
set_option linter.unusedSimpArgs false

def text_of.f (a0 : Int) (a1 : Bool) : Option (Int × ByteArray × ByteArray × Bool) := if a0 = 1 then (some (a0, (⟨#[99, 111, 110, 115, 116]⟩ : ByteArray), (⟨#[68, 65]⟩ : ByteArray), true)) else (if a0 = 2 then (some (a0, (⟨#[99, 111, 112, 121]⟩ : ByteArray), (⟨#[68, 65]⟩ : ByteArray), true)) else (if a0 = 3 then (some (a0, (⟨#[97, 100, 100]⟩ : ByteArray), (⟨#[68, 65, 66]⟩ : ByteArray), true)) else (if a0 = 4 then (some (a0, (⟨#[115, 117, 98]⟩ : ByteArray), (⟨#[68, 65, 66]⟩ : ByteArray), true)) else (if a0 = 5 then (some (a0, (⟨#[109, 117, 108]⟩ : ByteArray), (⟨#[68, 65, 66]⟩ : ByteArray), true)) else (if a0 = 6 then (some (a0, (⟨#[108, 101, 115, 115]⟩ : ByteArray), (⟨#[68, 65, 66]⟩ : ByteArray), true)) else (if a0 = 7 then (some (a0, (⟨#[100, 105, 118]⟩ : ByteArray), (⟨#[68, 65, 66]⟩ : ByteArray), true)) else (if a0 = 8 then (some (a0, (⟨#[108, 111, 97, 100]⟩ : ByteArray), (⟨#[68, 65]⟩ : ByteArray), true)) else (if a0 = 9 then (some (a0, (⟨#[115, 116, 111, 114, 101]⟩ : ByteArray), (⟨#[65, 66]⟩ : ByteArray), true)) else (if a0 = 10 then (some (a0, (⟨#[111, 117, 116]⟩ : ByteArray), (⟨#[65]⟩ : ByteArray), true)) else (if a0 = 11 then (if a1 = true then (some (a0, (⟨#[99, 97, 108, 108]⟩ : ByteArray), (⟨#[68, 78, 65]⟩ : ByteArray), true)) else (some (a0, (⟨#[99, 97, 108, 108]⟩ : ByteArray), (⟨#[68, 78, 76]⟩ : ByteArray), true))) else (if a0 = 12 then (some (a0, (⟨#[106, 117, 109, 112]⟩ : ByteArray), (⟨#[65]⟩ : ByteArray), true)) else (if a0 = 13 then (some (a0, (⟨#[98, 114, 97, 110, 99, 104]⟩ : ByteArray), (⟨#[65, 66, 68]⟩ : ByteArray), true)) else (if a0 = 14 then (some (a0, (⟨#[114, 101, 116]⟩ : ByteArray), (⟨#[65]⟩ : ByteArray), true)) else (if a0 = 21 then (some (a0, (⟨#[102, 101, 116, 99, 104]⟩ : ByteArray), (⟨#[68, 65]⟩ : ByteArray), a1)) else (if a0 = 22 then (some (a0, (⟨#[115, 97, 118, 101]⟩ : ByteArray), (⟨#[68, 65]⟩ : ByteArray), a1)) else (some (0, (⟨#[]⟩ : ByteArray), (⟨#[]⟩ : ByteArray), false)))))))))))))))))
set_option maxHeartbeats 8000000 in
set_option maxRecDepth 100000 in
theorem text_of.calls (a0 : Int) (a1 : Bool) (r1 : Int) (r2 : ByteArray) (r3 : ByteArray) (r4 : Bool) (w : World) (h : text_of.f a0 a1 = some (r1, r2, r3, r4)) :
 Calls Tryz.prog 59 #[.int .i64 a0, .bool a1] w fun e w' => e = .returned (.tuple #[.agg #[.int .i64 r1, .string r2, .string r3], .bool r4]) ∧ Below w.heap.size w w' := by
 have hu102 := Tryz.underlying102
 have HB := zA (Below.refl w.heap.size w)
 have H := h; clear h; unfold text_of.f at H
 by_cases c3 : a0 = 1
 ·rw [zC c3] at H
  obtain ⟨c3b0, c3b1⟩ := qe c3; clear c3
  simp only [Option.some.injEq, Prod.mk.injEq] at H
  obtain ⟨rfl, rfl, rfl, rfl⟩ := H
  go_enter Tryz.func59, Tryz.ntmps59
  go_wp2_with (first | ((with_reducible refine gate_dst (N := 4) rfl ?_); refine box_event (by rfl) (N := 4) (by rfl) (cs := #[.int .i64 0, .string (⟨#[]⟩ : ByteArray), .string (⟨#[]⟩ : ByteArray)]) (t := 102) ?hr ?_; (case hr => go_simp <;> rfl); intro gb110 hg w4 hbox hb; have BK110 := zA (hbox); have GW110 := qG hg; have GE110 := GW110; replace HB := qH hb; clear hb hbox hg; have z5_0 := bk3 BK110.out))
  refine bodyPost_ret (results_ct rfl _ _ gb110 102 #[.int .i64 a0, .string (⟨#[99, 111, 110, 115, 116]⟩ : ByteArray), .string (⟨#[68, 65]⟩ : ByteArray)] (0, 0) _ rfl (by (with_reducible repeat (first | refine blk_drewN ?_ _ | refine blk_drew ?_ | refine blk_alloc ?_ _)); refine blk_put (cs := #[.int .i64 a0, .string (⟨#[99, 111, 110, 115, 116]⟩ : ByteArray), .string (⟨#[]⟩ : ByteArray)]) ?_ 2 _ rfl; (with_reducible repeat (first | refine blk_drewN ?_ _ | refine blk_drew ?_ | refine blk_alloc ?_ _)); refine blk_put (cs := #[.int .i64 a0, .string (⟨#[]⟩ : ByteArray), .string (⟨#[]⟩ : ByteArray)]) ?_ 1 _ rfl; (with_reducible repeat (first | refine blk_drewN ?_ _ | refine blk_drew ?_ | refine blk_alloc ?_ _)); refine blk_put (cs := #[.int .i64 0, .string (⟨#[]⟩ : ByteArray), .string (⟨#[]⟩ : ByteArray)]) ?_ 0 _ rfl; (with_reducible repeat (first | refine blk_drewN ?_ _ | refine blk_drew ?_ | refine blk_alloc ?_ _)); exact BK110.out) Tryz.underlying102 rfl (by kernel_rfl)) rfl ?_
  exact ⟨qE, qB⟩
 ·rw [zD c3] at H
  obtain ⟨c3b0, c3b1⟩ := qn c3
  by_cases c6 : a0 = 2
  ·rw [zC c6] at H
   obtain ⟨c6b0, c6b1⟩ := qe c6; clear c6
   simp only [Option.some.injEq, Prod.mk.injEq] at H
   obtain ⟨rfl, rfl, rfl, rfl⟩ := H
   go_enter Tryz.func59, Tryz.ntmps59
   go_wp2_with (first | ((with_reducible refine gate_dst (N := 4) rfl ?_); refine box_event (by rfl) (N := 4) (by rfl) (cs := #[.int .i64 0, .string (⟨#[]⟩ : ByteArray), .string (⟨#[]⟩ : ByteArray)]) (t := 102) ?hr ?_; (case hr => go_simp <;> rfl); intro gb110 hg w7 hbox hb; have BK110 := zA (hbox); have GW110 := qG hg; have GE110 := GW110; replace HB := qH hb; clear hb hbox hg; have z8_0 := bk3 BK110.out))
   refine bodyPost_ret (results_ct rfl _ _ gb110 102 #[.int .i64 a0, .string (⟨#[99, 111, 112, 121]⟩ : ByteArray), .string (⟨#[68, 65]⟩ : ByteArray)] (0, 0) _ rfl (by (with_reducible repeat (first | refine blk_drewN ?_ _ | refine blk_drew ?_ | refine blk_alloc ?_ _)); refine blk_put (cs := #[.int .i64 a0, .string (⟨#[99, 111, 112, 121]⟩ : ByteArray), .string (⟨#[]⟩ : ByteArray)]) ?_ 2 _ rfl; (with_reducible repeat (first | refine blk_drewN ?_ _ | refine blk_drew ?_ | refine blk_alloc ?_ _)); refine blk_put (cs := #[.int .i64 a0, .string (⟨#[]⟩ : ByteArray), .string (⟨#[]⟩ : ByteArray)]) ?_ 1 _ rfl; (with_reducible repeat (first | refine blk_drewN ?_ _ | refine blk_drew ?_ | refine blk_alloc ?_ _)); refine blk_put (cs := #[.int .i64 0, .string (⟨#[]⟩ : ByteArray), .string (⟨#[]⟩ : ByteArray)]) ?_ 0 _ rfl; (with_reducible repeat (first | refine blk_drewN ?_ _ | refine blk_drew ?_ | refine blk_alloc ?_ _)); exact BK110.out) Tryz.underlying102 rfl (by kernel_rfl)) rfl ?_
   exact ⟨qE, qB⟩
  ·rw [zD c6] at H
   obtain ⟨c6b0, c6b1⟩ := qn c6
   by_cases c9 : a0 = 3
   ·rw [zC c9] at H
    obtain ⟨c9b0, c9b1⟩ := qe c9; clear c9
    simp only [Option.some.injEq, Prod.mk.injEq] at H
    obtain ⟨rfl, rfl, rfl, rfl⟩ := H
    go_enter Tryz.func59, Tryz.ntmps59
    go_wp2_with (first | ((with_reducible refine gate_dst (N := 4) rfl ?_); refine box_event (by rfl) (N := 4) (by rfl) (cs := #[.int .i64 0, .string (⟨#[]⟩ : ByteArray), .string (⟨#[]⟩ : ByteArray)]) (t := 102) ?hr ?_; (case hr => go_simp <;> rfl); intro gb110 hg w10 hbox hb; have BK110 := zA (hbox); have GW110 := qG hg; have GE110 := GW110; replace HB := qH hb; clear hb hbox hg; have z11_0 := bk3 BK110.out))
    refine bodyPost_ret (results_ct rfl _ _ gb110 102 #[.int .i64 a0, .string (⟨#[97, 100, 100]⟩ : ByteArray), .string (⟨#[68, 65, 66]⟩ : ByteArray)] (0, 0) _ rfl (by (with_reducible repeat (first | refine blk_drewN ?_ _ | refine blk_drew ?_ | refine blk_alloc ?_ _)); refine blk_put (cs := #[.int .i64 a0, .string (⟨#[97, 100, 100]⟩ : ByteArray), .string (⟨#[]⟩ : ByteArray)]) ?_ 2 _ rfl; (with_reducible repeat (first | refine blk_drewN ?_ _ | refine blk_drew ?_ | refine blk_alloc ?_ _)); refine blk_put (cs := #[.int .i64 a0, .string (⟨#[]⟩ : ByteArray), .string (⟨#[]⟩ : ByteArray)]) ?_ 1 _ rfl; (with_reducible repeat (first | refine blk_drewN ?_ _ | refine blk_drew ?_ | refine blk_alloc ?_ _)); refine blk_put (cs := #[.int .i64 0, .string (⟨#[]⟩ : ByteArray), .string (⟨#[]⟩ : ByteArray)]) ?_ 0 _ rfl; (with_reducible repeat (first | refine blk_drewN ?_ _ | refine blk_drew ?_ | refine blk_alloc ?_ _)); exact BK110.out) Tryz.underlying102 rfl (by kernel_rfl)) rfl ?_
    exact ⟨qE, qB⟩
   ·rw [zD c9] at H
    obtain ⟨c9b0, c9b1⟩ := qn c9
    by_cases c12 : a0 = 4
    ·rw [zC c12] at H
     obtain ⟨c12b0, c12b1⟩ := qe c12; clear c12
     simp only [Option.some.injEq, Prod.mk.injEq] at H
     obtain ⟨rfl, rfl, rfl, rfl⟩ := H
     go_enter Tryz.func59, Tryz.ntmps59
     go_wp2_with (first | ((with_reducible refine gate_dst (N := 4) rfl ?_); refine box_event (by rfl) (N := 4) (by rfl) (cs := #[.int .i64 0, .string (⟨#[]⟩ : ByteArray), .string (⟨#[]⟩ : ByteArray)]) (t := 102) ?hr ?_; (case hr => go_simp <;> rfl); intro gb110 hg w13 hbox hb; have BK110 := zA (hbox); have GW110 := qG hg; have GE110 := GW110; replace HB := qH hb; clear hb hbox hg; have z14_0 := bk3 BK110.out))
     refine bodyPost_ret (results_ct rfl _ _ gb110 102 #[.int .i64 a0, .string (⟨#[115, 117, 98]⟩ : ByteArray), .string (⟨#[68, 65, 66]⟩ : ByteArray)] (0, 0) _ rfl (by (with_reducible repeat (first | refine blk_drewN ?_ _ | refine blk_drew ?_ | refine blk_alloc ?_ _)); refine blk_put (cs := #[.int .i64 a0, .string (⟨#[115, 117, 98]⟩ : ByteArray), .string (⟨#[]⟩ : ByteArray)]) ?_ 2 _ rfl; (with_reducible repeat (first | refine blk_drewN ?_ _ | refine blk_drew ?_ | refine blk_alloc ?_ _)); refine blk_put (cs := #[.int .i64 a0, .string (⟨#[]⟩ : ByteArray), .string (⟨#[]⟩ : ByteArray)]) ?_ 1 _ rfl; (with_reducible repeat (first | refine blk_drewN ?_ _ | refine blk_drew ?_ | refine blk_alloc ?_ _)); refine blk_put (cs := #[.int .i64 0, .string (⟨#[]⟩ : ByteArray), .string (⟨#[]⟩ : ByteArray)]) ?_ 0 _ rfl; (with_reducible repeat (first | refine blk_drewN ?_ _ | refine blk_drew ?_ | refine blk_alloc ?_ _)); exact BK110.out) Tryz.underlying102 rfl (by kernel_rfl)) rfl ?_
     exact ⟨qE, qB⟩
    ·rw [zD c12] at H
     obtain ⟨c12b0, c12b1⟩ := qn c12
     by_cases c15 : a0 = 5
     ·rw [zC c15] at H
      obtain ⟨c15b0, c15b1⟩ := qe c15; clear c15
      simp only [Option.some.injEq, Prod.mk.injEq] at H
      obtain ⟨rfl, rfl, rfl, rfl⟩ := H
      go_enter Tryz.func59, Tryz.ntmps59
      go_wp2_with (first | ((with_reducible refine gate_dst (N := 4) rfl ?_); refine box_event (by rfl) (N := 4) (by rfl) (cs := #[.int .i64 0, .string (⟨#[]⟩ : ByteArray), .string (⟨#[]⟩ : ByteArray)]) (t := 102) ?hr ?_; (case hr => go_simp <;> rfl); intro gb110 hg w16 hbox hb; have BK110 := zA (hbox); have GW110 := qG hg; have GE110 := GW110; replace HB := qH hb; clear hb hbox hg; have z17_0 := bk3 BK110.out))
      refine bodyPost_ret (results_ct rfl _ _ gb110 102 #[.int .i64 a0, .string (⟨#[109, 117, 108]⟩ : ByteArray), .string (⟨#[68, 65, 66]⟩ : ByteArray)] (0, 0) _ rfl (by (with_reducible repeat (first | refine blk_drewN ?_ _ | refine blk_drew ?_ | refine blk_alloc ?_ _)); refine blk_put (cs := #[.int .i64 a0, .string (⟨#[109, 117, 108]⟩ : ByteArray), .string (⟨#[]⟩ : ByteArray)]) ?_ 2 _ rfl; (with_reducible repeat (first | refine blk_drewN ?_ _ | refine blk_drew ?_ | refine blk_alloc ?_ _)); refine blk_put (cs := #[.int .i64 a0, .string (⟨#[]⟩ : ByteArray), .string (⟨#[]⟩ : ByteArray)]) ?_ 1 _ rfl; (with_reducible repeat (first | refine blk_drewN ?_ _ | refine blk_drew ?_ | refine blk_alloc ?_ _)); refine blk_put (cs := #[.int .i64 0, .string (⟨#[]⟩ : ByteArray), .string (⟨#[]⟩ : ByteArray)]) ?_ 0 _ rfl; (with_reducible repeat (first | refine blk_drewN ?_ _ | refine blk_drew ?_ | refine blk_alloc ?_ _)); exact BK110.out) Tryz.underlying102 rfl (by kernel_rfl)) rfl ?_
      exact ⟨qE, qB⟩
     ·rw [zD c15] at H
      obtain ⟨c15b0, c15b1⟩ := qn c15
      by_cases c18 : a0 = 6
      ·rw [zC c18] at H
       obtain ⟨c18b0, c18b1⟩ := qe c18; clear c18
       simp only [Option.some.injEq, Prod.mk.injEq] at H
       obtain ⟨rfl, rfl, rfl, rfl⟩ := H
       go_enter Tryz.func59, Tryz.ntmps59
       go_wp2_with (first | ((with_reducible refine gate_dst (N := 4) rfl ?_); refine box_event (by rfl) (N := 4) (by rfl) (cs := #[.int .i64 0, .string (⟨#[]⟩ : ByteArray), .string (⟨#[]⟩ : ByteArray)]) (t := 102) ?hr ?_; (case hr => go_simp <;> rfl); intro gb110 hg w19 hbox hb; have BK110 := zA (hbox); have GW110 := qG hg; have GE110 := GW110; replace HB := qH hb; clear hb hbox hg; have z20_0 := bk3 BK110.out))
       refine bodyPost_ret (results_ct rfl _ _ gb110 102 #[.int .i64 a0, .string (⟨#[108, 101, 115, 115]⟩ : ByteArray), .string (⟨#[68, 65, 66]⟩ : ByteArray)] (0, 0) _ rfl (by (with_reducible repeat (first | refine blk_drewN ?_ _ | refine blk_drew ?_ | refine blk_alloc ?_ _)); refine blk_put (cs := #[.int .i64 a0, .string (⟨#[108, 101, 115, 115]⟩ : ByteArray), .string (⟨#[]⟩ : ByteArray)]) ?_ 2 _ rfl; (with_reducible repeat (first | refine blk_drewN ?_ _ | refine blk_drew ?_ | refine blk_alloc ?_ _)); refine blk_put (cs := #[.int .i64 a0, .string (⟨#[]⟩ : ByteArray), .string (⟨#[]⟩ : ByteArray)]) ?_ 1 _ rfl; (with_reducible repeat (first | refine blk_drewN ?_ _ | refine blk_drew ?_ | refine blk_alloc ?_ _)); refine blk_put (cs := #[.int .i64 0, .string (⟨#[]⟩ : ByteArray), .string (⟨#[]⟩ : ByteArray)]) ?_ 0 _ rfl; (with_reducible repeat (first | refine blk_drewN ?_ _ | refine blk_drew ?_ | refine blk_alloc ?_ _)); exact BK110.out) Tryz.underlying102 rfl (by kernel_rfl)) rfl ?_
       exact ⟨qE, qB⟩
      ·rw [zD c18] at H
       obtain ⟨c18b0, c18b1⟩ := qn c18
       by_cases c21 : a0 = 7
       ·rw [zC c21] at H
        obtain ⟨c21b0, c21b1⟩ := qe c21; clear c21
        simp only [Option.some.injEq, Prod.mk.injEq] at H
        obtain ⟨rfl, rfl, rfl, rfl⟩ := H
        go_enter Tryz.func59, Tryz.ntmps59
        go_wp2_with (first | ((with_reducible refine gate_dst (N := 4) rfl ?_); refine box_event (by rfl) (N := 4) (by rfl) (cs := #[.int .i64 0, .string (⟨#[]⟩ : ByteArray), .string (⟨#[]⟩ : ByteArray)]) (t := 102) ?hr ?_; (case hr => go_simp <;> rfl); intro gb110 hg w22 hbox hb; have BK110 := zA (hbox); have GW110 := qG hg; have GE110 := GW110; replace HB := qH hb; clear hb hbox hg; have z23_0 := bk3 BK110.out))
        refine bodyPost_ret (results_ct rfl _ _ gb110 102 #[.int .i64 a0, .string (⟨#[100, 105, 118]⟩ : ByteArray), .string (⟨#[68, 65, 66]⟩ : ByteArray)] (0, 0) _ rfl (by (with_reducible repeat (first | refine blk_drewN ?_ _ | refine blk_drew ?_ | refine blk_alloc ?_ _)); refine blk_put (cs := #[.int .i64 a0, .string (⟨#[100, 105, 118]⟩ : ByteArray), .string (⟨#[]⟩ : ByteArray)]) ?_ 2 _ rfl; (with_reducible repeat (first | refine blk_drewN ?_ _ | refine blk_drew ?_ | refine blk_alloc ?_ _)); refine blk_put (cs := #[.int .i64 a0, .string (⟨#[]⟩ : ByteArray), .string (⟨#[]⟩ : ByteArray)]) ?_ 1 _ rfl; (with_reducible repeat (first | refine blk_drewN ?_ _ | refine blk_drew ?_ | refine blk_alloc ?_ _)); refine blk_put (cs := #[.int .i64 0, .string (⟨#[]⟩ : ByteArray), .string (⟨#[]⟩ : ByteArray)]) ?_ 0 _ rfl; (with_reducible repeat (first | refine blk_drewN ?_ _ | refine blk_drew ?_ | refine blk_alloc ?_ _)); exact BK110.out) Tryz.underlying102 rfl (by kernel_rfl)) rfl ?_
        exact ⟨qE, qB⟩
       ·rw [zD c21] at H
        obtain ⟨c21b0, c21b1⟩ := qn c21
        by_cases c24 : a0 = 8
        ·rw [zC c24] at H
         obtain ⟨c24b0, c24b1⟩ := qe c24; clear c24
         simp only [Option.some.injEq, Prod.mk.injEq] at H
         obtain ⟨rfl, rfl, rfl, rfl⟩ := H
         go_enter Tryz.func59, Tryz.ntmps59
         go_wp2_with (first | ((with_reducible refine gate_dst (N := 4) rfl ?_); refine box_event (by rfl) (N := 4) (by rfl) (cs := #[.int .i64 0, .string (⟨#[]⟩ : ByteArray), .string (⟨#[]⟩ : ByteArray)]) (t := 102) ?hr ?_; (case hr => go_simp <;> rfl); intro gb110 hg w25 hbox hb; have BK110 := zA (hbox); have GW110 := qG hg; have GE110 := GW110; replace HB := qH hb; clear hb hbox hg; have z26_0 := bk3 BK110.out))
         refine bodyPost_ret (results_ct rfl _ _ gb110 102 #[.int .i64 a0, .string (⟨#[108, 111, 97, 100]⟩ : ByteArray), .string (⟨#[68, 65]⟩ : ByteArray)] (0, 0) _ rfl (by (with_reducible repeat (first | refine blk_drewN ?_ _ | refine blk_drew ?_ | refine blk_alloc ?_ _)); refine blk_put (cs := #[.int .i64 a0, .string (⟨#[108, 111, 97, 100]⟩ : ByteArray), .string (⟨#[]⟩ : ByteArray)]) ?_ 2 _ rfl; (with_reducible repeat (first | refine blk_drewN ?_ _ | refine blk_drew ?_ | refine blk_alloc ?_ _)); refine blk_put (cs := #[.int .i64 a0, .string (⟨#[]⟩ : ByteArray), .string (⟨#[]⟩ : ByteArray)]) ?_ 1 _ rfl; (with_reducible repeat (first | refine blk_drewN ?_ _ | refine blk_drew ?_ | refine blk_alloc ?_ _)); refine blk_put (cs := #[.int .i64 0, .string (⟨#[]⟩ : ByteArray), .string (⟨#[]⟩ : ByteArray)]) ?_ 0 _ rfl; (with_reducible repeat (first | refine blk_drewN ?_ _ | refine blk_drew ?_ | refine blk_alloc ?_ _)); exact BK110.out) Tryz.underlying102 rfl (by kernel_rfl)) rfl ?_
         exact ⟨qE, qB⟩
        ·rw [zD c24] at H
         obtain ⟨c24b0, c24b1⟩ := qn c24
         by_cases c27 : a0 = 9
         ·rw [zC c27] at H
          obtain ⟨c27b0, c27b1⟩ := qe c27; clear c27
          simp only [Option.some.injEq, Prod.mk.injEq] at H
          obtain ⟨rfl, rfl, rfl, rfl⟩ := H
          go_enter Tryz.func59, Tryz.ntmps59
          go_wp2_with (first | ((with_reducible refine gate_dst (N := 4) rfl ?_); refine box_event (by rfl) (N := 4) (by rfl) (cs := #[.int .i64 0, .string (⟨#[]⟩ : ByteArray), .string (⟨#[]⟩ : ByteArray)]) (t := 102) ?hr ?_; (case hr => go_simp <;> rfl); intro gb110 hg w28 hbox hb; have BK110 := zA (hbox); have GW110 := qG hg; have GE110 := GW110; replace HB := qH hb; clear hb hbox hg; have z29_0 := bk3 BK110.out))
          refine bodyPost_ret (results_ct rfl _ _ gb110 102 #[.int .i64 a0, .string (⟨#[115, 116, 111, 114, 101]⟩ : ByteArray), .string (⟨#[65, 66]⟩ : ByteArray)] (0, 0) _ rfl (by (with_reducible repeat (first | refine blk_drewN ?_ _ | refine blk_drew ?_ | refine blk_alloc ?_ _)); refine blk_put (cs := #[.int .i64 a0, .string (⟨#[115, 116, 111, 114, 101]⟩ : ByteArray), .string (⟨#[]⟩ : ByteArray)]) ?_ 2 _ rfl; (with_reducible repeat (first | refine blk_drewN ?_ _ | refine blk_drew ?_ | refine blk_alloc ?_ _)); refine blk_put (cs := #[.int .i64 a0, .string (⟨#[]⟩ : ByteArray), .string (⟨#[]⟩ : ByteArray)]) ?_ 1 _ rfl; (with_reducible repeat (first | refine blk_drewN ?_ _ | refine blk_drew ?_ | refine blk_alloc ?_ _)); refine blk_put (cs := #[.int .i64 0, .string (⟨#[]⟩ : ByteArray), .string (⟨#[]⟩ : ByteArray)]) ?_ 0 _ rfl; (with_reducible repeat (first | refine blk_drewN ?_ _ | refine blk_drew ?_ | refine blk_alloc ?_ _)); exact BK110.out) Tryz.underlying102 rfl (by kernel_rfl)) rfl ?_
          exact ⟨qE, qB⟩
         ·rw [zD c27] at H
          obtain ⟨c27b0, c27b1⟩ := qn c27
          by_cases c30 : a0 = 10
          ·rw [zC c30] at H
           obtain ⟨c30b0, c30b1⟩ := qe c30; clear c30
           simp only [Option.some.injEq, Prod.mk.injEq] at H
           obtain ⟨rfl, rfl, rfl, rfl⟩ := H
           go_enter Tryz.func59, Tryz.ntmps59
           go_wp2_with (first | ((with_reducible refine gate_dst (N := 4) rfl ?_); refine box_event (by rfl) (N := 4) (by rfl) (cs := #[.int .i64 0, .string (⟨#[]⟩ : ByteArray), .string (⟨#[]⟩ : ByteArray)]) (t := 102) ?hr ?_; (case hr => go_simp <;> rfl); intro gb110 hg w31 hbox hb; have BK110 := zA (hbox); have GW110 := qG hg; have GE110 := GW110; replace HB := qH hb; clear hb hbox hg; have z32_0 := bk3 BK110.out))
           refine bodyPost_ret (results_ct rfl _ _ gb110 102 #[.int .i64 a0, .string (⟨#[111, 117, 116]⟩ : ByteArray), .string (⟨#[65]⟩ : ByteArray)] (0, 0) _ rfl (by (with_reducible repeat (first | refine blk_drewN ?_ _ | refine blk_drew ?_ | refine blk_alloc ?_ _)); refine blk_put (cs := #[.int .i64 a0, .string (⟨#[111, 117, 116]⟩ : ByteArray), .string (⟨#[]⟩ : ByteArray)]) ?_ 2 _ rfl; (with_reducible repeat (first | refine blk_drewN ?_ _ | refine blk_drew ?_ | refine blk_alloc ?_ _)); refine blk_put (cs := #[.int .i64 a0, .string (⟨#[]⟩ : ByteArray), .string (⟨#[]⟩ : ByteArray)]) ?_ 1 _ rfl; (with_reducible repeat (first | refine blk_drewN ?_ _ | refine blk_drew ?_ | refine blk_alloc ?_ _)); refine blk_put (cs := #[.int .i64 0, .string (⟨#[]⟩ : ByteArray), .string (⟨#[]⟩ : ByteArray)]) ?_ 0 _ rfl; (with_reducible repeat (first | refine blk_drewN ?_ _ | refine blk_drew ?_ | refine blk_alloc ?_ _)); exact BK110.out) Tryz.underlying102 rfl (by kernel_rfl)) rfl ?_
           exact ⟨qE, qB⟩
          ·rw [zD c30] at H
           obtain ⟨c30b0, c30b1⟩ := qn c30
           by_cases c33 : a0 = 11
           ·rw [zC c33] at H
            obtain ⟨c33b0, c33b1⟩ := qe c33; clear c33
            by_cases c34 : a1 = true
            ·subst c34
             have H1 : (some (a0, (⟨#[99, 97, 108, 108]⟩ : ByteArray), (⟨#[68, 78, 65]⟩ : ByteArray), true)) = some (r1, r2, r3, r4) := by rw [zC rfl] at H; exact H
             clear H
             have H := H1
             clear H1
             simp only [Option.some.injEq, Prod.mk.injEq] at H
             obtain ⟨rfl, rfl, rfl, rfl⟩ := H
             go_enter Tryz.func59, Tryz.ntmps59
             go_wp2_with (first | ((with_reducible refine gate_dst (N := 4) rfl ?_); refine box_event (by rfl) (N := 4) (by rfl) (cs := #[.int .i64 0, .string (⟨#[]⟩ : ByteArray), .string (⟨#[]⟩ : ByteArray)]) (t := 102) ?hr ?_; (case hr => go_simp <;> rfl); intro gb110 hg w35 hbox hb; have BK110 := zA (hbox); have GW110 := qG hg; have GE110 := GW110; replace HB := qH hb; clear hb hbox hg; have z36_0 := bk3 BK110.out))
             refine bodyPost_ret (results_ct rfl _ _ gb110 102 #[.int .i64 a0, .string (⟨#[99, 97, 108, 108]⟩ : ByteArray), .string (⟨#[68, 78, 65]⟩ : ByteArray)] (0, 0) _ rfl (by (with_reducible repeat (first | refine blk_drewN ?_ _ | refine blk_drew ?_ | refine blk_alloc ?_ _)); refine blk_put (cs := #[.int .i64 a0, .string (⟨#[99, 97, 108, 108]⟩ : ByteArray), .string (⟨#[]⟩ : ByteArray)]) ?_ 2 _ rfl; (with_reducible repeat (first | refine blk_drewN ?_ _ | refine blk_drew ?_ | refine blk_alloc ?_ _)); refine blk_put (cs := #[.int .i64 a0, .string (⟨#[]⟩ : ByteArray), .string (⟨#[]⟩ : ByteArray)]) ?_ 1 _ rfl; (with_reducible repeat (first | refine blk_drewN ?_ _ | refine blk_drew ?_ | refine blk_alloc ?_ _)); refine blk_put (cs := #[.int .i64 0, .string (⟨#[]⟩ : ByteArray), .string (⟨#[]⟩ : ByteArray)]) ?_ 0 _ rfl; (with_reducible repeat (first | refine blk_drewN ?_ _ | refine blk_drew ?_ | refine blk_alloc ?_ _)); exact BK110.out) Tryz.underlying102 rfl (by kernel_rfl)) rfl ?_
             exact ⟨qE, qB⟩
            ·replace c34 := Bool.eq_false_iff.mpr c34
             subst c34
             have H1 : (some (a0, (⟨#[99, 97, 108, 108]⟩ : ByteArray), (⟨#[68, 78, 76]⟩ : ByteArray), true)) = some (r1, r2, r3, r4) := by rw [zD (show ¬ (false = true) by decide)] at H; exact H
             clear H
             have H := H1
             clear H1
             simp only [Option.some.injEq, Prod.mk.injEq] at H
             obtain ⟨rfl, rfl, rfl, rfl⟩ := H
             go_enter Tryz.func59, Tryz.ntmps59
             go_wp2_with (first | ((with_reducible refine gate_dst (N := 4) rfl ?_); refine box_event (by rfl) (N := 4) (by rfl) (cs := #[.int .i64 0, .string (⟨#[]⟩ : ByteArray), .string (⟨#[]⟩ : ByteArray)]) (t := 102) ?hr ?_; (case hr => go_simp <;> rfl); intro gb110 hg w37 hbox hb; have BK110 := zA (hbox); have GW110 := qG hg; have GE110 := GW110; replace HB := qH hb; clear hb hbox hg; have z38_0 := bk3 BK110.out))
             refine bodyPost_ret (results_ct rfl _ _ gb110 102 #[.int .i64 a0, .string (⟨#[99, 97, 108, 108]⟩ : ByteArray), .string (⟨#[68, 78, 76]⟩ : ByteArray)] (0, 0) _ rfl (by (with_reducible repeat (first | refine blk_drewN ?_ _ | refine blk_drew ?_ | refine blk_alloc ?_ _)); refine blk_put (cs := #[.int .i64 a0, .string (⟨#[99, 97, 108, 108]⟩ : ByteArray), .string (⟨#[]⟩ : ByteArray)]) ?_ 2 _ rfl; (with_reducible repeat (first | refine blk_drewN ?_ _ | refine blk_drew ?_ | refine blk_alloc ?_ _)); refine blk_put (cs := #[.int .i64 a0, .string (⟨#[]⟩ : ByteArray), .string (⟨#[]⟩ : ByteArray)]) ?_ 1 _ rfl; (with_reducible repeat (first | refine blk_drewN ?_ _ | refine blk_drew ?_ | refine blk_alloc ?_ _)); refine blk_put (cs := #[.int .i64 0, .string (⟨#[]⟩ : ByteArray), .string (⟨#[]⟩ : ByteArray)]) ?_ 0 _ rfl; (with_reducible repeat (first | refine blk_drewN ?_ _ | refine blk_drew ?_ | refine blk_alloc ?_ _)); exact BK110.out) Tryz.underlying102 rfl (by kernel_rfl)) rfl ?_
             exact ⟨qE, qB⟩
           ·rw [zD c33] at H
            obtain ⟨c33b0, c33b1⟩ := qn c33
            by_cases c39 : a0 = 12
            ·rw [zC c39] at H
             obtain ⟨c39b0, c39b1⟩ := qe c39; clear c39
             simp only [Option.some.injEq, Prod.mk.injEq] at H
             obtain ⟨rfl, rfl, rfl, rfl⟩ := H
             go_enter Tryz.func59, Tryz.ntmps59
             go_wp2_with (first | ((with_reducible refine gate_dst (N := 4) rfl ?_); refine box_event (by rfl) (N := 4) (by rfl) (cs := #[.int .i64 0, .string (⟨#[]⟩ : ByteArray), .string (⟨#[]⟩ : ByteArray)]) (t := 102) ?hr ?_; (case hr => go_simp <;> rfl); intro gb110 hg w40 hbox hb; have BK110 := zA (hbox); have GW110 := qG hg; have GE110 := GW110; replace HB := qH hb; clear hb hbox hg; have z41_0 := bk3 BK110.out))
             refine bodyPost_ret (results_ct rfl _ _ gb110 102 #[.int .i64 a0, .string (⟨#[106, 117, 109, 112]⟩ : ByteArray), .string (⟨#[65]⟩ : ByteArray)] (0, 0) _ rfl (by (with_reducible repeat (first | refine blk_drewN ?_ _ | refine blk_drew ?_ | refine blk_alloc ?_ _)); refine blk_put (cs := #[.int .i64 a0, .string (⟨#[106, 117, 109, 112]⟩ : ByteArray), .string (⟨#[]⟩ : ByteArray)]) ?_ 2 _ rfl; (with_reducible repeat (first | refine blk_drewN ?_ _ | refine blk_drew ?_ | refine blk_alloc ?_ _)); refine blk_put (cs := #[.int .i64 a0, .string (⟨#[]⟩ : ByteArray), .string (⟨#[]⟩ : ByteArray)]) ?_ 1 _ rfl; (with_reducible repeat (first | refine blk_drewN ?_ _ | refine blk_drew ?_ | refine blk_alloc ?_ _)); refine blk_put (cs := #[.int .i64 0, .string (⟨#[]⟩ : ByteArray), .string (⟨#[]⟩ : ByteArray)]) ?_ 0 _ rfl; (with_reducible repeat (first | refine blk_drewN ?_ _ | refine blk_drew ?_ | refine blk_alloc ?_ _)); exact BK110.out) Tryz.underlying102 rfl (by kernel_rfl)) rfl ?_
             exact ⟨qE, qB⟩
            ·rw [zD c39] at H
             obtain ⟨c39b0, c39b1⟩ := qn c39
             by_cases c42 : a0 = 13
             ·rw [zC c42] at H
              obtain ⟨c42b0, c42b1⟩ := qe c42; clear c42
              simp only [Option.some.injEq, Prod.mk.injEq] at H
              obtain ⟨rfl, rfl, rfl, rfl⟩ := H
              go_enter Tryz.func59, Tryz.ntmps59
              go_wp2_with (first | ((with_reducible refine gate_dst (N := 4) rfl ?_); refine box_event (by rfl) (N := 4) (by rfl) (cs := #[.int .i64 0, .string (⟨#[]⟩ : ByteArray), .string (⟨#[]⟩ : ByteArray)]) (t := 102) ?hr ?_; (case hr => go_simp <;> rfl); intro gb110 hg w43 hbox hb; have BK110 := zA (hbox); have GW110 := qG hg; have GE110 := GW110; replace HB := qH hb; clear hb hbox hg; have z44_0 := bk3 BK110.out))
              refine bodyPost_ret (results_ct rfl _ _ gb110 102 #[.int .i64 a0, .string (⟨#[98, 114, 97, 110, 99, 104]⟩ : ByteArray), .string (⟨#[65, 66, 68]⟩ : ByteArray)] (0, 0) _ rfl (by (with_reducible repeat (first | refine blk_drewN ?_ _ | refine blk_drew ?_ | refine blk_alloc ?_ _)); refine blk_put (cs := #[.int .i64 a0, .string (⟨#[98, 114, 97, 110, 99, 104]⟩ : ByteArray), .string (⟨#[]⟩ : ByteArray)]) ?_ 2 _ rfl; (with_reducible repeat (first | refine blk_drewN ?_ _ | refine blk_drew ?_ | refine blk_alloc ?_ _)); refine blk_put (cs := #[.int .i64 a0, .string (⟨#[]⟩ : ByteArray), .string (⟨#[]⟩ : ByteArray)]) ?_ 1 _ rfl; (with_reducible repeat (first | refine blk_drewN ?_ _ | refine blk_drew ?_ | refine blk_alloc ?_ _)); refine blk_put (cs := #[.int .i64 0, .string (⟨#[]⟩ : ByteArray), .string (⟨#[]⟩ : ByteArray)]) ?_ 0 _ rfl; (with_reducible repeat (first | refine blk_drewN ?_ _ | refine blk_drew ?_ | refine blk_alloc ?_ _)); exact BK110.out) Tryz.underlying102 rfl (by kernel_rfl)) rfl ?_
              exact ⟨qE, qB⟩
             ·rw [zD c42] at H
              obtain ⟨c42b0, c42b1⟩ := qn c42
              by_cases c45 : a0 = 14
              ·rw [zC c45] at H
               obtain ⟨c45b0, c45b1⟩ := qe c45; clear c45
               simp only [Option.some.injEq, Prod.mk.injEq] at H
               obtain ⟨rfl, rfl, rfl, rfl⟩ := H
               go_enter Tryz.func59, Tryz.ntmps59
               go_wp2_with (first | ((with_reducible refine gate_dst (N := 4) rfl ?_); refine box_event (by rfl) (N := 4) (by rfl) (cs := #[.int .i64 0, .string (⟨#[]⟩ : ByteArray), .string (⟨#[]⟩ : ByteArray)]) (t := 102) ?hr ?_; (case hr => go_simp <;> rfl); intro gb110 hg w46 hbox hb; have BK110 := zA (hbox); have GW110 := qG hg; have GE110 := GW110; replace HB := qH hb; clear hb hbox hg; have z47_0 := bk3 BK110.out))
               refine bodyPost_ret (results_ct rfl _ _ gb110 102 #[.int .i64 a0, .string (⟨#[114, 101, 116]⟩ : ByteArray), .string (⟨#[65]⟩ : ByteArray)] (0, 0) _ rfl (by (with_reducible repeat (first | refine blk_drewN ?_ _ | refine blk_drew ?_ | refine blk_alloc ?_ _)); refine blk_put (cs := #[.int .i64 a0, .string (⟨#[114, 101, 116]⟩ : ByteArray), .string (⟨#[]⟩ : ByteArray)]) ?_ 2 _ rfl; (with_reducible repeat (first | refine blk_drewN ?_ _ | refine blk_drew ?_ | refine blk_alloc ?_ _)); refine blk_put (cs := #[.int .i64 a0, .string (⟨#[]⟩ : ByteArray), .string (⟨#[]⟩ : ByteArray)]) ?_ 1 _ rfl; (with_reducible repeat (first | refine blk_drewN ?_ _ | refine blk_drew ?_ | refine blk_alloc ?_ _)); refine blk_put (cs := #[.int .i64 0, .string (⟨#[]⟩ : ByteArray), .string (⟨#[]⟩ : ByteArray)]) ?_ 0 _ rfl; (with_reducible repeat (first | refine blk_drewN ?_ _ | refine blk_drew ?_ | refine blk_alloc ?_ _)); exact BK110.out) Tryz.underlying102 rfl (by kernel_rfl)) rfl ?_
               exact ⟨qE, qB⟩
              ·rw [zD c45] at H
               obtain ⟨c45b0, c45b1⟩ := qn c45
               by_cases c48 : a0 = 21
               ·rw [zC c48] at H
                obtain ⟨c48b0, c48b1⟩ := qe c48; clear c48
                simp only [Option.some.injEq, Prod.mk.injEq] at H
                obtain ⟨rfl, rfl, rfl, rfl⟩ := H
                go_enter Tryz.func59, Tryz.ntmps59
                go_wp2_with (first | ((with_reducible refine gate_dst (N := 4) rfl ?_); refine box_event (by rfl) (N := 4) (by rfl) (cs := #[.int .i64 0, .string (⟨#[]⟩ : ByteArray), .string (⟨#[]⟩ : ByteArray)]) (t := 102) ?hr ?_; (case hr => go_simp <;> rfl); intro gb110 hg w49 hbox hb; have BK110 := zA (hbox); have GW110 := qG hg; have GE110 := GW110; replace HB := qH hb; clear hb hbox hg; have z50_0 := bk3 BK110.out))
                refine bodyPost_ret (results_ct rfl _ _ gb110 102 #[.int .i64 a0, .string (⟨#[102, 101, 116, 99, 104]⟩ : ByteArray), .string (⟨#[68, 65]⟩ : ByteArray)] (0, 0) _ rfl (by (with_reducible repeat (first | refine blk_drewN ?_ _ | refine blk_drew ?_ | refine blk_alloc ?_ _)); refine blk_put (cs := #[.int .i64 a0, .string (⟨#[102, 101, 116, 99, 104]⟩ : ByteArray), .string (⟨#[]⟩ : ByteArray)]) ?_ 2 _ rfl; (with_reducible repeat (first | refine blk_drewN ?_ _ | refine blk_drew ?_ | refine blk_alloc ?_ _)); refine blk_put (cs := #[.int .i64 a0, .string (⟨#[]⟩ : ByteArray), .string (⟨#[]⟩ : ByteArray)]) ?_ 1 _ rfl; (with_reducible repeat (first | refine blk_drewN ?_ _ | refine blk_drew ?_ | refine blk_alloc ?_ _)); refine blk_put (cs := #[.int .i64 0, .string (⟨#[]⟩ : ByteArray), .string (⟨#[]⟩ : ByteArray)]) ?_ 0 _ rfl; (with_reducible repeat (first | refine blk_drewN ?_ _ | refine blk_drew ?_ | refine blk_alloc ?_ _)); exact BK110.out) Tryz.underlying102 rfl (by kernel_rfl)) rfl ?_
                exact ⟨qE, qB⟩
               ·rw [zD c48] at H
                obtain ⟨c48b0, c48b1⟩ := qn c48
                by_cases c51 : a0 = 22
                ·rw [zC c51] at H
                 obtain ⟨c51b0, c51b1⟩ := qe c51; clear c51
                 simp only [Option.some.injEq, Prod.mk.injEq] at H
                 obtain ⟨rfl, rfl, rfl, rfl⟩ := H
                 go_enter Tryz.func59, Tryz.ntmps59
                 go_wp2_with (first | ((with_reducible refine gate_dst (N := 4) rfl ?_); refine box_event (by rfl) (N := 4) (by rfl) (cs := #[.int .i64 0, .string (⟨#[]⟩ : ByteArray), .string (⟨#[]⟩ : ByteArray)]) (t := 102) ?hr ?_; (case hr => go_simp <;> rfl); intro gb110 hg w52 hbox hb; have BK110 := zA (hbox); have GW110 := qG hg; have GE110 := GW110; replace HB := qH hb; clear hb hbox hg; have z53_0 := bk3 BK110.out))
                 refine bodyPost_ret (results_ct rfl _ _ gb110 102 #[.int .i64 a0, .string (⟨#[115, 97, 118, 101]⟩ : ByteArray), .string (⟨#[68, 65]⟩ : ByteArray)] (0, 0) _ rfl (by (with_reducible repeat (first | refine blk_drewN ?_ _ | refine blk_drew ?_ | refine blk_alloc ?_ _)); refine blk_put (cs := #[.int .i64 a0, .string (⟨#[115, 97, 118, 101]⟩ : ByteArray), .string (⟨#[]⟩ : ByteArray)]) ?_ 2 _ rfl; (with_reducible repeat (first | refine blk_drewN ?_ _ | refine blk_drew ?_ | refine blk_alloc ?_ _)); refine blk_put (cs := #[.int .i64 a0, .string (⟨#[]⟩ : ByteArray), .string (⟨#[]⟩ : ByteArray)]) ?_ 1 _ rfl; (with_reducible repeat (first | refine blk_drewN ?_ _ | refine blk_drew ?_ | refine blk_alloc ?_ _)); refine blk_put (cs := #[.int .i64 0, .string (⟨#[]⟩ : ByteArray), .string (⟨#[]⟩ : ByteArray)]) ?_ 0 _ rfl; (with_reducible repeat (first | refine blk_drewN ?_ _ | refine blk_drew ?_ | refine blk_alloc ?_ _)); exact BK110.out) Tryz.underlying102 rfl (by kernel_rfl)) rfl ?_
                 exact ⟨qE, qB⟩
                ·rw [zD c51] at H
                 obtain ⟨c51b0, c51b1⟩ := qn c51
                 simp only [Option.some.injEq, Prod.mk.injEq] at H
                 obtain ⟨rfl, rfl, rfl, rfl⟩ := H
                 go_enter Tryz.func59, Tryz.ntmps59
                 go_wp2_with (first | ((with_reducible refine gate_dst (N := 4) rfl ?_); refine box_event (by rfl) (N := 4) (by rfl) (cs := #[.int .i64 0, .string (⟨#[]⟩ : ByteArray), .string (⟨#[]⟩ : ByteArray)]) (t := 102) ?hr ?_; (case hr => go_simp <;> rfl); intro gb110 hg w54 hbox hb; have BK110 := zA (hbox); have GW110 := qG hg; have GE110 := GW110; replace HB := qH hb; clear hb hbox hg; have z55_0 := bk3 BK110.out))
                 refine bodyPost_ret (results_ct rfl _ _ gb110 102 #[.int .i64 0, .string (⟨#[]⟩ : ByteArray), .string (⟨#[]⟩ : ByteArray)] (0, 0) _ rfl (by (with_reducible repeat (first | refine blk_drewN ?_ _ | refine blk_drew ?_ | refine blk_alloc ?_ _)); refine blk_put (cs := #[.int .i64 0, .string (⟨#[]⟩ : ByteArray), .string (⟨#[]⟩ : ByteArray)]) ?_ 2 _ rfl; (with_reducible repeat (first | refine blk_drewN ?_ _ | refine blk_drew ?_ | refine blk_alloc ?_ _)); refine blk_put (cs := #[.int .i64 0, .string (⟨#[]⟩ : ByteArray), .string (⟨#[]⟩ : ByteArray)]) ?_ 1 _ rfl; (with_reducible repeat (first | refine blk_drewN ?_ _ | refine blk_drew ?_ | refine blk_alloc ?_ _)); refine blk_put (cs := #[.int .i64 0, .string (⟨#[]⟩ : ByteArray), .string (⟨#[]⟩ : ByteArray)]) ?_ 0 _ rfl; (with_reducible repeat (first | refine blk_drewN ?_ _ | refine blk_drew ?_ | refine blk_alloc ?_ _)); exact BK110.out) Tryz.underlying102 rfl (by kernel_rfl)) rfl ?_
                 exact ⟨qE, qB⟩
end Go.Proofs.YtniknpjeknmpjaaGreatDoor.Q
