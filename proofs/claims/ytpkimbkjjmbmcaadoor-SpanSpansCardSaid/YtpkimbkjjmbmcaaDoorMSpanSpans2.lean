/- SpanSpans: parts of the proofs, put together. -/
import Derived.SizedLaws
import Derived.Deep.Slices
import Derived.ProofKit
import Derived.Test.YtpkimbkjjmbmcaaDoorProg
import Derived.Below
import Derived.Deep.Draws
import Derived.Deep.AppendLies
import Derived.Maps.AppendAt
import Derived.OwnWalk
import Derived.Laws.BytesArg
import Derived.Laws.MakeOwn
import Derived.Laws.OwnMore
import Derived.Deep.OwnRows
import Derived.Tactics
import Derived.Lib.ConvBytes
import Derived.Laws.Slices
import Derived.WalkKit
import Derived.KernelRfl
import Derived.RowKit3
import Derived.Deep.LoopGhost
import Derived.Deep.QuietTactic
import Derived.BigQuiet
import Derived.WideLaws
import Derived.Deep.DeepCutAuto
import Derived.Deep.CutBlock
import Derived.Deep.RegionHeld3
import Derived.Laws.Rows
import Derived.Lib.AppendStr
import Derived.ArgAppend
import Derived.Laws.IdiomCopy
import Derived.OrdersHeld
import Derived.Laws.BitsLemmas
import Derived.RowKit
import Derived.Ground.NamesProg
import Derived.Ground.SlgfProg
import Derived.Shelf.SlGeneric
import Derived.Shelf.Strings.SlTrimAscii
import Derived.Shelf.SlicesE.IndexFunc
import Derived.Shelf.Spec.TrailingZeros
import Derived.Lib.LaidU8
import Derived.OpenShut
import Derived.Lib.LaidTab
import Derived.Test.YtpkimbkjjmbmcaaDoorMSpanSpans1
namespace Go.Proofs.YtpkimbkjjmbmcaaDoor.Open
open Go Go.Proofs.YtpkimbkjjmbmcaaDoorW.PrintWords
def Opens (P : Program) (t : TypeId) {α : Type} (d : Kd α) (G : α → Prop) : Prop :=
 P.cellsOf t = d.sz ∧ ∀ {H : Type} (enc : TypeId × Value → H) (w : World) (fuel : Nat) (cs : List Value) (x : DataW H × List MemPlace),
  DataW.trod enc P w 0 (fun _ => true) true fuel t cs = some x → (∀ n ∈ x.1.weights P t, n ≤ 140737488351232) → ∃ y, d.K w y cs ∧ G y
theorem Opens.int {P : Program} {t : TypeId} {k : IntKind} (ht : P.underlying t = some (.int k)) (hc : P.cellsOf t = 1) : Opens P t (Kd.int k) (fun n => (Lit.int k n).wf = true) := by
 refine ⟨hc, fun enc w fuel cs x h _ => ?_⟩
 obtain ⟨n, rfl, _, hw⟩ := DataW.trod_int ht h
 exact ⟨n, rfl, hw⟩
theorem Opens.bool {P : Program} {t : TypeId} (ht : P.underlying t = some .bool) (hc : P.cellsOf t = 1) : Opens P t Kd.bool (fun _ => True) := by
 refine ⟨hc, fun enc w fuel cs x h _ => ?_⟩
 obtain ⟨b, rfl, _⟩ := DataW.trod_bool ht h
 exact ⟨b, rfl, trivial⟩
theorem Opens.string {P : Program} {t : TypeId} (ht : P.underlying t = some .string) (hc : P.cellsOf t = 1) : Opens P t Kd.string (fun s => s.size ≤ 140737488351232) := by
 refine ⟨hc, fun enc w fuel cs x h hz => ?_⟩
 obtain ⟨s, rfl, rfl, _⟩ := DataW.trod_string ht h
 refine ⟨s, rfl, ?_⟩
 have := hz s.data.toList.length (by simp [DataW.weights])
 simpa using this
theorem weightsAll_mem {H : Type} {P : Program} {e : TypeId} : ∀ {l : List (DataW H)} {d : DataW H}, d ∈ l → ∀ n ∈ d.weights P e, n ∈ DataW.weightsAll P e l
 | a :: l, d, hd, n, hn => by
  simp only [DataW.weightsAll, List.mem_append]
  rcases List.mem_cons.1 hd with rfl | hd
  ·exact Or.inl hn
  ·exact Or.inr (weightsAll_mem hd n hn)
theorem choose_list {α : Type} {Q : Nat → α → Prop} : ∀ (n : Nat), (∀ i, i < n → ∃ y, Q i y) → ∃ ys : List α, ys.length = n ∧ ∀ i y, ys[i]? = some y → Q i y
 | 0, _ => ⟨[], rfl, fun i y h => by simp at h⟩
 | n + 1, h => by
  obtain ⟨ys, hl, hq⟩ := choose_list n (fun i hi => h i (by omega))
  obtain ⟨y, hy⟩ := h n (by omega)
  refine ⟨ys ++ [y], by simp [hl], fun i z hz => ?_⟩
  rcases Nat.lt_or_ge i n with hi | hi
  ·rw [List.getElem?_append_left (by omega)] at hz
   exact hq i z hz
  ·rw [List.getElem?_append_right (by omega)] at hz
   have : i = n := by
    have := (List.getElem?_eq_some_iff.1 hz).1
    simp at this
    omega
   subst this
   rw [hl, Nat.sub_self] at hz
   simp at hz
   subst hz
   exact hy
theorem Opens.slice {P : Program} {t e : TypeId} {α : Type} {d : Kd α} {G : α → Prop} {B : Nat} (ht : P.underlying t = some (.slice e)) (hc : P.cellsOf t = 1) (hB : P.bytesOf e = B) (hd : Opens P e d G) :
 Opens P t (Kd.slice e d) (fun xs => xs.length * B ≤ 140737488351232 ∧ xs.length ≤ maxLen ∧ ∀ x ∈ xs, G x) := by
 refine ⟨hc, fun enc w fuel cs x h hz => ?_⟩
 rcases Go.Deep.open_slice ht h with ⟨rfl, rfl⟩ | ⟨a, len, cap, m, n, D, Pl, rfl, _, hl, hm, hmc, rfl, hel⟩
 ·refine ⟨[], ⟨none, 0, rfl, Nat.le_refl _, ?_⟩, by simp [maxLen]⟩
  exact ⟨rfl, by simp, fun h => absurd h (by simp)⟩
 ·replace hmc : m = cap := by rw [hmc]; rfl
  subst hmc
  have hw : ∀ i, i < len → ∀ q ∈ (D i).weights P e, q ≤ 140737488351232 := by
   intro i hi q hq
   apply hz
   simp only [DataW.weights, ht, List.mem_cons, List.mem_append]
   right; left
   exact weightsAll_mem (d := D i) (List.mem_map.2 ⟨i, by simpa using hi, rfl⟩) q hq
  have hbig : (len + (m - len)) * B ≤ 140737488351232 := by
   apply hz
   simp only [DataW.weights, ht, List.mem_cons, List.length_map, List.length_range, hB]
   left; trivial
  obtain ⟨ys, hyl, hys⟩ := choose_list (Q := fun i y => ∃ c, w.cells? 0 (a.add (i * P.cellsOf e)) (P.cellsOf e) = some c ∧ d.K w y c ∧ G y) len (fun i hi => by
   obtain ⟨c, h1, h2⟩ := hel i (by omega)
   obtain ⟨y, hk, hg⟩ := hd.2 enc w _ _ _ h2 (hw i hi)
   exact ⟨y, c, h1, hk, hg⟩)
  refine ⟨ys, ⟨some a, m, by rw [hyl], by omega, ?_⟩, ?_, by omega, ?_⟩
  ·refine ⟨rfl, by unfold maxLen at hm; omega, fun _ => ⟨a, rfl, fun j p hj => ?_⟩⟩
   obtain ⟨c, h1, hk, hg⟩ := hys j p hj
   obtain ⟨_, h3, h4⟩ := World.cells?_some h1
   refine ⟨c, by rw [h3, hd.1], hk, fun i u hu => ?_⟩
   have hi : i < P.cellsOf e := by
    have := (List.getElem?_eq_some_iff.1 hu).1
    omega
   have h5 := h4 i hi
   rw [hu] at h5
   rw [← h5, ← hd.1]
   congr 1
   rw [Addr.add_add]
  ·rw [hyl]
   exact Nat.le_trans (Nat.mul_le_mul_right _ (by omega)) hbig
  ·intro y hy
   obtain ⟨i, hi⟩ := List.getElem?_of_mem hy
   obtain ⟨_, _, _, hg⟩ := hys i y hi
   exact hg
structure OpensFs (P : Program) (fs : List Field) (off : Nat) {α : Type} (d : Kd α) (G : α → Prop) : Prop where
 out : ∀ (H : Type) (enc : TypeId × Value → H) (w : World) (fuel : Nat) (cs : List Value) (xs : List (DataW H × List MemPlace)), cs.length = off + d.sz → xs.length = fs.length →
  (∀ (i : Nat) (f : Field), fs[i]? = some f → DataW.trod enc P w 0 (fun _ => true) true fuel f.type ((cs.drop f.offset).take (P.cellsOf f.type)) = xs[i]?) →
  (∀ n ∈ DataW.weightsEach P (fs.map (·.type)) (xs.map (·.1)), n ≤ 140737488351232) → ∃ y, d.K w y (cs.drop off) ∧ G y
theorem OpensFs.one {P : Program} {f : Field} {off : Nat} {α : Type} {d : Kd α} {G : α → Prop} (ho : f.offset = off) (hd : Opens P f.type d G) : OpensFs P [f] off d G := by
 refine ⟨fun H enc w fuel cs xs hl hx hf hz => ?_⟩
 have h0 := hf 0 f rfl
 obtain ⟨x, rfl⟩ : ∃ x, xs = [x] := by
  match xs, hx with
  | [x], _ => exact ⟨x, rfl⟩
 have h1 : (cs.drop f.offset).take (P.cellsOf f.type) = cs.drop off := by
  rw [ho, hd.1, List.take_of_length_le (by simp; omega)]
 rw [h1] at h0
 exact hd.2 enc w fuel _ x h0 (fun n hn => hz n (by simpa [DataW.weightsEach] using hn))
theorem OpensFs.cons {P : Program} {f : Field} {fs : List Field} {off : Nat} {α β : Type} {d : Kd α} {d2 : Kd β} {G : α → Prop} {G2 : β → Prop} (ho : f.offset = off) (hd : Opens P f.type d G) (h2 : OpensFs P fs (off + d.sz) d2 G2) :
 OpensFs P (f :: fs) off (Kd.pair d d2) (fun y => G y.1 ∧ G2 y.2) := by
 refine ⟨fun H enc w fuel cs xs hl hx hf hz => ?_⟩
 have hp : (Kd.pair d d2).sz = d.sz + d2.sz := rfl
 match xs, hx with
 | x :: xs, hx =>
  have h0 := hf 0 f rfl
  simp only [List.getElem?_cons_zero] at h0
  obtain ⟨y, hk, hg⟩ := hd.2 enc w fuel _ x h0 (fun n hn => hz n (by simp only [List.map_cons, DataW.weightsEach, List.mem_append]; exact Or.inl hn))
  obtain ⟨y2, hk2, hg2⟩ := h2.out H enc w fuel cs xs (by omega) (by simpa using hx) (fun i g hi => by simpa using hf (i + 1) g (by simpa using hi)) (fun n hn => hz n (by simp only [List.map_cons, DataW.weightsEach, List.mem_append]; exact Or.inr hn))
  refine ⟨(y, y2), ⟨_, _, ?_, hk, hk2⟩, hg, hg2⟩
  rw [ho, hd.1, ← List.drop_drop, List.take_append_drop]
theorem Opens.struct {P : Program} {t : TypeId} {fs : Array Field} {α : Type} {d : Kd α} {G : α → Prop} (ht : P.underlying t = some (.struct fs)) (hc : P.cellsOf t = d.sz) (hf : OpensFs P fs.toList 0 d G) : Opens P t d G := by
 refine ⟨hc, fun enc w fuel cs x h hz => ?_⟩
 obtain ⟨xs, n, rfl, rfl, hl, hx, hi⟩ := DataW.trod_struct ht h
 have := hf.out _ enc w n cs xs (by omega) (by simpa using hx) (fun i f h => hi i f (by simpa using h)) (fun q hq => hz q (by simpa [DataW.weights, ht] using hq))
 simpa using this
theorem Opens.iso {P : Program} {t : TypeId} {α β : Type} {d : Kd α} {G : α → Prop} (f : β → α) (g : α → β) (hg : ∀ y, f (g y) = y) (h : Opens P t d G) : Opens P t (Kd.iso d f) (fun x => G (f x)) := by
 refine ⟨h.1, fun enc w fuel cs x hx hz => ?_⟩
 obtain ⟨y, hk, hy⟩ := h.2 enc w fuel cs x hx hz
 exact ⟨g y, by show d.K w (f (g y)) cs; rw [hg]; exact hk, by show G (f (g y)); rw [hg]; exact hy⟩
theorem Opens.imp {P : Program} {t : TypeId} {α : Type} {d : Kd α} {G G' : α → Prop} (h : Opens P t d G) (hG : ∀ y, G y → G' y) : Opens P t d G' :=
 ⟨h.1, fun enc w fuel cs x hx hz => by
  obtain ⟨y, hk, hy⟩ := h.2 enc w fuel cs x hx hz
  exact ⟨y, hk, hG y hy⟩⟩
theorem Opens.arg {P : Program} {t : TypeId} {α : Type} {d : Kd α} {G : α → Prop} (h : Opens P t d G) {H : Type} {enc : TypeId × Value → H} {w : World} {v : Value} {x : DataW H} {ps : List MemPlace} (ht : DataW.Trod enc P w 0 (fun _ => true) true t v x ps)
 {ts : List TypeId} {ds : List (DataW H)} (hsz : (DataW.weightsEach P ts ds).all (· ≤ reachBytes) = true) {j : Nat} (h1 : ts[j]? = some t) (h2 : ds[j]? = some x) : ∃ y, d.K w y v.cells.toList ∧ G y := by
 obtain ⟨fuel, hf⟩ := ht
 refine h.2 enc w fuel _ _ hf (fun n hn => ?_)
 have := List.all_eq_true.1 hsz _ (DataW.weights_mem_each h1 h2 n hn)
 exact zB this
end Go.Proofs.YtpkimbkjjmbmcaaDoor.Open
namespace Go.Proofs.YtpkimbkjjmbmcaaDoor.Q
open Go.RowKit Go.Proofs.YtpkimbkjjmbmcaaDoorW.PrintWords Go.Proofs.YtpkimbkjjmbmcaaDoorW.PrintLast Go.Proofs.YtpkimbkjjmbmcaaDoorW.PrintMore
attribute [local go_sem] max2_int min2_int max_two min_two max_three min_three max_four min_four
set_option linter.unusedVariables false
set_option linter.unusedSimpArgs false
def errW : Option Int → Value
 | none => .nilIface
 | some c => .iface 207 (.int .i64 c)
theorem errW_none : errW none = .nilIface := rfl
theorem errW_some (c : Int) : errW (some c) = .iface 207 (.int .i64 c) := rfl
theorem info3 : (Tryd.prog.info? 3).map (fun i => (i.zero, i.size, i.bytes)) = some (some (.int .i64 0), 1, 8) := by kernel_rfl
theorem info4 : (Tryd.prog.info? 4).map (fun i => (i.zero, i.size, i.bytes)) = some (some (.bool false), 1, 1) := by kernel_rfl
theorem info28 : (Tryd.prog.info? 28).map (fun i => (i.zero, i.size, i.bytes)) = some (some (.agg #[(.int .i64 0), (.int .i64 0)]), 2, 16) := by kernel_rfl
theorem info35 : (Tryd.prog.info? 35).map (fun i => (i.zero, i.size, i.bytes)) = some (some (.slice none 0 0), 1, 24) := by kernel_rfl
theorem info121 : (Tryd.prog.info? 121).map (fun i => (i.zero, i.size, i.bytes)) = some (some (.int .u64 0), 1, 8) := by kernel_rfl
-- the values' own types
def rd_LInt (xs : List (List Int)) (i : Int) : (List Int) := xs.getD i.toNat ([] : List Int)
theorem at_LInt {w : World} {A : Option Addr} {n : Nat} {xs : List (List Int)} (h : Kd.C (Kd.slice 3 (Kd.int .i64)) w A n xs) (i : Int) (h0 : 0 ≤ i) (h1 : i < n) : ∃ ad A0 c0, A = some ad ∧ w.cell? (ad.add i.toNat) = some (.slice A0 (rd_LInt xs i).length c0) ∧ (rd_LInt xs i).length ≤ c0 ∧ (Kd.int .i64).C w A0 (rd_LInt xs i).length (rd_LInt xs i) := by
 obtain ⟨ad, c, e, _, hK, hc0⟩ := Kd.C_get h ([] : List Int) i h0 h1
 have hc : ∀ j u, c[j]? = some u → w.cell? (ad.add (i.toNat * 1 + j)) = some u := hc0
 obtain ⟨A0, c0, rfl, l0, g0⟩ := hK
 exact ⟨ad, A0, c0, e, by have hq := hc 0 _ rfl; rwa [Nat.mul_one, Nat.add_zero] at hq, l0, g0⟩

structure SIns where
 f0 : Int
 f1 : Int
 f2 : Int
 f3 : Int
 f4 : ByteArray
 f5 : (List Int)
def zIns : SIns := ⟨(0 : Int), (0 : Int), (0 : Int), (0 : Int), (⟨#[]⟩ : ByteArray), ([] : List Int)⟩
def kIns : Kd SIns := Kd.iso (Kd.pair (Kd.int .i64) (Kd.pair (Kd.int .i64) (Kd.pair (Kd.int .i64) (Kd.pair (Kd.int .i64) (Kd.pair Kd.string (Kd.slice 3 (Kd.int .i64))))))) (fun x : SIns => (x.f0, x.f1, x.f2, x.f3, x.f4, x.f5))
theorem kIns_open {w : World} {x : SIns} {cs : List Value} (h : kIns.K w x cs) : ∃ A5 c5, cs = [.int .i64 x.f0, .int .i64 x.f1, .int .i64 x.f2, .int .i64 x.f3, .string x.f4, .slice A5 x.f5.length c5] ∧ x.f5.length ≤ c5 ∧ (Kd.int .i64).C w A5 x.f5.length x.f5 := by
 obtain ⟨_, _, rfl, rfl, ⟨_, _, rfl, rfl, ⟨_, _, rfl, rfl, ⟨_, _, rfl, rfl, ⟨_, _, rfl, rfl, ⟨A5, c5, rfl, l5, g5⟩⟩⟩⟩⟩⟩ := h
 exact ⟨A5, c5, rfl, l5, g5⟩
def rd_TIns (xs : List SIns) (i : Int) : SIns := xs.getD i.toNat zIns
theorem at_TIns {w : World} {A : Option Addr} {n : Nat} {xs : List SIns} (h : Kd.C kIns w A n xs) (i : Int) (h0 : 0 ≤ i) (h1 : i < n) : ∃ ad A5 c5, A = some ad ∧ w.cell? (ad.add (i.toNat * 6)) = some (.int .i64 (rd_TIns xs i).f0) ∧ w.cell? ⟨(ad.add (i.toNat * 6)).block, (ad.add (i.toNat * 6)).off + 1, none⟩ = some (.int .i64 (rd_TIns xs i).f1) ∧ w.cell? ⟨(ad.add (i.toNat * 6)).block, (ad.add (i.toNat * 6)).off + 2, none⟩ = some (.int .i64 (rd_TIns xs i).f2) ∧ w.cell? ⟨(ad.add (i.toNat * 6)).block, (ad.add (i.toNat * 6)).off + 3, none⟩ = some (.int .i64 (rd_TIns xs i).f3) ∧ w.cell? ⟨(ad.add (i.toNat * 6)).block, (ad.add (i.toNat * 6)).off + 4, none⟩ = some (.string (rd_TIns xs i).f4) ∧ w.cell? ⟨(ad.add (i.toNat * 6)).block, (ad.add (i.toNat * 6)).off + 5, none⟩ = some (.slice A5 (rd_TIns xs i).f5.length c5) ∧ (rd_TIns xs i).f5.length ≤ c5 ∧ (Kd.int .i64).C w A5 (rd_TIns xs i).f5.length (rd_TIns xs i).f5 := by
 obtain ⟨ad, c, e, _, hK, hc0⟩ := Kd.C_get h zIns i h0 h1
 have hc : ∀ j u, c[j]? = some u → w.cell? (ad.add (i.toNat * 6 + j)) = some u := hc0
 obtain ⟨A5, c5, rfl, l5, g5⟩ := kIns_open hK
 exact ⟨ad, A5, c5, e, hc 0 _ rfl, by rw [← add_field _ _ 1 (by omega)]; exact hc 1 _ rfl, by rw [← add_field _ _ 2 (by omega)]; exact hc 2 _ rfl, by rw [← add_field _ _ 3 (by omega)]; exact hc 3 _ rfl, by rw [← add_field _ _ 4 (by omega)]; exact hc 4 _ rfl, by rw [← add_field _ _ 5 (by omega)]; exact hc 5 _ rfl, l5, g5⟩
def rd_LIns (xs : List (List SIns)) (i : Int) : (List SIns) := xs.getD i.toNat ([] : List SIns)
theorem at_LIns {w : World} {A : Option Addr} {n : Nat} {xs : List (List SIns)} (h : Kd.C (Kd.slice 38 kIns) w A n xs) (i : Int) (h0 : 0 ≤ i) (h1 : i < n) : ∃ ad A0 c0, A = some ad ∧ w.cell? (ad.add i.toNat) = some (.slice A0 (rd_LIns xs i).length c0) ∧ (rd_LIns xs i).length ≤ c0 ∧ kIns.C w A0 (rd_LIns xs i).length (rd_LIns xs i) := by
 obtain ⟨ad, c, e, _, hK, hc0⟩ := Kd.C_get h ([] : List SIns) i h0 h1
 have hc : ∀ j u, c[j]? = some u → w.cell? (ad.add (i.toNat * 1 + j)) = some u := hc0
 obtain ⟨A0, c0, rfl, l0, g0⟩ := hK
 exact ⟨ad, A0, c0, e, by have hq := hc 0 _ rfl; rwa [Nat.mul_one, Nat.add_zero] at hq, l0, g0⟩


structure SSpan where
 f0 : Int
 f1 : Int
def zSpan : SSpan := ⟨(0 : Int), (0 : Int)⟩
def kSpan : Kd SSpan := Kd.iso (Kd.pair (Kd.int .i64) (Kd.int .i64)) (fun x : SSpan => (x.f0, x.f1))
theorem kSpan_open {w : World} {x : SSpan} {cs : List Value} (h : kSpan.K w x cs) : cs = [.int .i64 x.f0, .int .i64 x.f1] := by
 obtain ⟨_, _, rfl, rfl, rfl⟩ := h
 exact rfl
theorem kSpan_openM {w : World} {base : Nat} {ok : Nat → Prop} {x : SSpan} {cs : List Value} (h : kSpan.M w base ok x cs) : cs = [.int .i64 x.f0, .int .i64 x.f1] := by
 obtain ⟨_, _, rfl, rfl, rfl⟩ := h
 exact rfl
theorem kSpan_mkM (w : World) (base : Nat) (ok : Nat → Prop) (x : SSpan)  : kSpan.M w base ok x [.int .i64 x.f0, .int .i64 x.f1] := ⟨[.int .i64 x.f0], [.int .i64 x.f1], rfl, rfl, rfl⟩
def rd_TSpan (xs : List SSpan) (i : Int) : SSpan := xs.getD i.toNat zSpan
theorem at_TSpan {w : World} {A : Option Addr} {n : Nat} {xs : List SSpan} (h : Kd.C kSpan w A n xs) (i : Int) (h0 : 0 ≤ i) (h1 : i < n) : ∃ ad , A = some ad ∧ w.cell? (ad.add (i.toNat * 2)) = some (.int .i64 (rd_TSpan xs i).f0) ∧ w.cell? ⟨(ad.add (i.toNat * 2)).block, (ad.add (i.toNat * 2)).off + 1, none⟩ = some (.int .i64 (rd_TSpan xs i).f1) := by
 obtain ⟨ad, c, e, _, hK, hc0⟩ := Kd.C_get h zSpan i h0 h1
 have hc : ∀ j u, c[j]? = some u → w.cell? (ad.add (i.toNat * 2 + j)) = some u := hc0
 obtain rfl := kSpan_open hK
 exact ⟨ad, e, hc 0 _ rfl, by rw [← add_field _ _ 1 (by omega)]; exact hc 1 _ rfl⟩
end Go.Proofs.YtpkimbkjjmbmcaaDoor.Q
namespace Go.Proofs.YtpkimbkjjmbmcaaDoor.Q
open Go.RowKit Go.Proofs.YtpkimbkjjmbmcaaDoorW.PrintWords Go.Proofs.YtpkimbkjjmbmcaaDoorW.PrintLast Go.Proofs.YtpkimbkjjmbmcaaDoorW.PrintMore
set_option linter.unusedVariables false
section
variable {P Q : Prop}
theorem qB (h : P := by repeat (first | (with_reducible first | exact HB.out | apply below_alloc | apply pw_below_drewN | apply below_drew1 | refine below_set ?_ (Aside0.out (by assumption))) | exact HB.out)) : P := h
theorem qA (h : P := by first | (with_reducible assumption) | assumption) : P := h
theorem qE (h : P := by first | rfl | (simp [errW_none, errW_some] <;> rfl) | (simp [*, errW_none, errW_some] <;> rfl)) : P := h
theorem qT (h : P := by first | rfl | (simp; done) | (simp [*]; done)) : P := h
theorem qO (h : P := by first | omega | exact Nat.le_refl _) : P := h
theorem qD (h : P := by repeat (first | exact Drawn0.refl _ | apply Drawn0.step)) : P := h
theorem qL (h : P := by (try simp only [List.map_toArray, List.map_cons, List.map_nil]); first | done | rfl | (simp only [List.length_drop, List.length_take]; rfl)) : P := h
theorem qK (q : Q) (h : Q → P := by intro h_; (with_reducible repeat (first | refine blk_drewN ?_ _ | refine blk_drew ?_ | refine blk_alloc ?_ _)); exact h_) : P := h q
theorem qR (q : Q) (h : Q → P := by intro h_; (with_reducible repeat (first | apply Kd.R_alloc | apply Kd.R_drewN | apply Kd.R_drew)); exact h_) : P := h q
theorem qS (q : Q) (h : Q → P := by intro h_; (with_reducible repeat (first | apply Kd.S_alloc | apply Kd.S_drewN | apply Kd.S_drew)); exact h_) : P := h q
theorem qV (q : Q) (h : Q → P := by intro h_; (with_reducible repeat (first | apply Kd.V_alloc | apply Kd.V_drewN | apply Kd.V_drew)); exact h_) : P := h q
theorem qCB (q : Q) (h : Q → P := by intro h_; repeat (first | exact (Kd.C_below h_ HB.out) | (with_reducible refine Kd.C_alloc ?_ _) | (with_reducible refine Kd.C_drewN ?_ _) | (with_reducible refine Kd.C_drew ?_))) : P := h q
end
theorem qW {w0 w w1 : World} {g : Nat} {o : Obj} (bk : Aside0 (w0.heap[g]? = some o)) (hb : Below w.heap.size w w1) (h : w0.heap[g]? = some o → w.heap[g]? = some o := by intro h_; (with_reducible repeat (first | refine blk_drewN ?_ _ | refine blk_drew ?_ | refine blk_alloc ?_ _)); exact h_) : Aside0 (w1.heap[g]? = some o) := ⟨blk_below (h bk.out) hb⟩
theorem qH {w W w2 : World} (hb : Below W.heap.size W w2) (h : Below w.heap.size w W := by repeat (first | (with_reducible first | exact HB.out | apply below_alloc | apply pw_below_drewN | apply below_drew1 | refine below_set ?_ (Aside0.out (by assumption))) | exact HB.out)) : Aside0 (Below w.heap.size w w2) := ⟨below_step h hb⟩
theorem qG {w W : World} {g : Nat} (hg : g = W.heap.size) (h : Below w.heap.size w W := by repeat (first | (with_reducible first | exact HB.out | apply below_alloc | apply pw_below_drewN | apply below_drew1 | refine below_set ?_ (Aside0.out (by assumption))) | exact HB.out)) : Aside0 (w.heap.size ≤ g) := ⟨by rw [hg]; exact below_size h⟩
theorem qb {α β : Type} {x : Option α} {f : α → Option β} {r : β} (h : x.bind f = some r) : ∃ t, Aside0 (x = some t) ∧ f t = some r := by
 obtain ⟨t, h1, h2⟩ := Option.bind_eq_some_iff.mp h
 exact ⟨t, ⟨h1⟩, h2⟩
theorem qe {α : Type} [BEq α] [LawfulBEq α] {a b : α} (h : a = b) : (a == b) = true ∧ (a != b) = false := ⟨beq_iff_eq.mpr h, bne_eq_false_iff_eq.mpr h⟩
theorem qn {α : Type} [BEq α] [LawfulBEq α] {a b : α} (h : ¬ a = b) : (a == b) = false ∧ (a != b) = true := ⟨beq_eq_false_iff_ne.mpr h, bne_iff_ne.mpr h⟩
theorem bk2 {w : World} {g : Nat} {t : TypeId} {c0 c1 : Value} (h : w.heap[g]? = some (.cells #[c0, c1] t (0, 0))) : w.cell? ⟨g, 0, none⟩ = some c0 ∧ w.cell? ⟨g, 1, none⟩ = some c1 ∧ w.frozen? ⟨g, 0, none⟩ = false ∧ w.frozen? ⟨g, 1, none⟩ = false := ⟨(blk_cell h 0).trans rfl, (blk_cell h 1).trans rfl, blk_frozen h 0, blk_frozen h 1⟩
theorem bk4 {w : World} {g : Nat} {t : TypeId} {c0 c1 c2 c3 : Value} (h : w.heap[g]? = some (.cells #[c0, c1, c2, c3] t (0, 0))) : w.cell? ⟨g, 0, none⟩ = some c0 ∧ w.cell? ⟨g, 1, none⟩ = some c1 ∧ w.cell? ⟨g, 2, none⟩ = some c2 ∧ w.cell? ⟨g, 3, none⟩ = some c3 ∧ w.frozen? ⟨g, 0, none⟩ = false ∧ w.frozen? ⟨g, 1, none⟩ = false ∧ w.frozen? ⟨g, 2, none⟩ = false ∧ w.frozen? ⟨g, 3, none⟩ = false := ⟨(blk_cell h 0).trans rfl, (blk_cell h 1).trans rfl, (blk_cell h 2).trans rfl, (blk_cell h 3).trans rfl, blk_frozen h 0, blk_frozen h 1, blk_frozen h 2, blk_frozen h 3⟩
theorem bk6 {w : World} {g : Nat} {t : TypeId} {c0 c1 c2 c3 c4 c5 : Value} (h : w.heap[g]? = some (.cells #[c0, c1, c2, c3, c4, c5] t (0, 0))) : w.cell? ⟨g, 0, none⟩ = some c0 ∧ w.cell? ⟨g, 1, none⟩ = some c1 ∧ w.cell? ⟨g, 2, none⟩ = some c2 ∧ w.cell? ⟨g, 3, none⟩ = some c3 ∧ w.cell? ⟨g, 4, none⟩ = some c4 ∧ w.cell? ⟨g, 5, none⟩ = some c5 ∧ w.frozen? ⟨g, 0, none⟩ = false ∧ w.frozen? ⟨g, 1, none⟩ = false ∧ w.frozen? ⟨g, 2, none⟩ = false ∧ w.frozen? ⟨g, 3, none⟩ = false ∧ w.frozen? ⟨g, 4, none⟩ = false ∧ w.frozen? ⟨g, 5, none⟩ = false := ⟨(blk_cell h 0).trans rfl, (blk_cell h 1).trans rfl, (blk_cell h 2).trans rfl, (blk_cell h 3).trans rfl, (blk_cell h 4).trans rfl, (blk_cell h 5).trans rfl, blk_frozen h 0, blk_frozen h 1, blk_frozen h 2, blk_frozen h 3, blk_frozen h 4, blk_frozen h 5⟩
def bA (n m : Nat) : Array Bool := ((List.range n).map m.testBit).toArray
section
variable {P : Program} {ops : Array Oper} {Q : Exit → Act → World → Prop} {md : Region.Mode} {S : World → Prop} {ds : List Nat}
theorem pu_ {i : Nat} {N : Option Tmp} {oi : Oper} {v : Value} {fuel : Nat} {l : Array Bool} {a a' : Act} {w : World} (l' : Array Bool) (h : wpAnyLast P md ops Q S ds fuel l' a' w) (hi : ops[i]? = some oi := by rfl) (hN : oi.dst = N := by rfl) (hc : anyB md ops l l' i = true := by exact any_of HT_.out (by kernel_rfl)) (hQ : ∀ c a w, Q (.panic c) (a.put oi.dst v) w → Q (.panic c) a w := by exact fun _ _ _ h => h) (hy : Yields P ops oi v a := by exact Or.inl ⟨by rfl, by intro w'; first | (go_simp; done) | (go_simp; with_reducible rfl)⟩) (ha : a.put N v = a' := by (conv => lhs; simp only [Act.put, List.setIfInBounds_toArray, List.set_cons_zero, List.set_cons_succ, i64_w, i32_w]); try rfl) : wpAnyLast P md ops Q S ds (fuel + 1) l a w := pure_ l' hi hN hc hQ hy ha h
theorem tk_ {i : Nat} {N : Option Tmp} {oi : Oper} {v : Value} {fuel : Nat} {l : Array Bool} {a a' : Act} {w : World} (l' : Array Bool) (h : wpAnyLast P md ops Q S ds fuel l' a' w) (hi : ops[i]? = some oi := by rfl) (hN : oi.dst = N := by rfl) (hc : takeB md ops ds l l' i = true := by exact take_ofW HT_.out HW_.out (by kernel_rfl)) (hQ : ∀ c a w, Q (.panic c) (a.put oi.dst v) w → Q (.panic c) a w := by exact fun _ _ _ h => h) (hy : YieldsIf P ops S oi v a := by refine Or.inl ⟨by rfl, ?_⟩; intro w' s_; repeat (obtain ⟨s0_, s_⟩ : _ ∧ _ := s_); first | (go_simp; done) | (go_simp; with_reducible rfl)) (hS : S w := by exact hHeld) (ha : a.put N v = a' := by (conv => lhs; simp only [Act.put, List.setIfInBounds_toArray, List.set_cons_zero, List.set_cons_succ, i64_w, i32_w]); try rfl) : wpAnyLast P md ops Q S ds (fuel + 1) l a w := take_ l' hi hN hc hQ hy hS ha h
end
end Go.Proofs.YtpkimbkjjmbmcaaDoor.Q
namespace Go.Proofs
open Go.Shelf
def Tryd.lays160_ren : Go.Shelf.Ren := ⟨fun | 160 => 132 | 232 => 162 | 231 => 161 | 227 => 163 | 234 => 165 | 233 => 164 | 236 => 167 | 235 => 166 | 228 => 189 | 271 => 192 | 151 => 191 | 197 => 190 | 120 => 206 | 152 => 205 | 260 => 204 | 137 => 146 | 119 => 217 | 224 => 213 | 225 => 212 | 217 => 182 | 266 => 203 | n => n, fun | 9 => 9 | 4 => 4 | 3 => 3 | 5 => 5 | 117 => 199 | 116 => 198 | 0 => 0 | 124 => 202 | 21 => 21 | 105 => 220 | 46 => 124 | 119 => 245 | 139 => 248 | 138 => 247 | n => n, fun | 3 => 6 | 4 => 7 | n => n⟩
theorem Tryd.lays160 : Go.Proofs.Lays.n160 Tryd.prog Tryd.lays160_ren := {
 mixed := by kernel_rfl
 f119 := Tryd.func217.trans (congrArg some (by kernel_rfl))
 f120 := Tryd.func206.trans (congrArg some (by kernel_rfl))
 f137 := Tryd.func146.trans (congrArg some (by kernel_rfl))
 f151 := Tryd.func191.trans (congrArg some (by kernel_rfl))
 f152 := Tryd.func205.trans (congrArg some (by kernel_rfl))
 f160 := Tryd.func132.trans (congrArg some (by kernel_rfl))
 f197 := Tryd.func190.trans (congrArg some (by kernel_rfl))
 f217 := Tryd.func182.trans (congrArg some (by kernel_rfl))
 f224 := Tryd.func213.trans (congrArg some (by kernel_rfl))
 f225 := Tryd.func212.trans (congrArg some (by kernel_rfl))
 f227 := Tryd.func163.trans (congrArg some (by kernel_rfl))
 f228 := Tryd.func189.trans (congrArg some (by kernel_rfl))
 f231 := Tryd.func161.trans (congrArg some (by kernel_rfl))
 f232 := Tryd.func162.trans (congrArg some (by kernel_rfl))
 f233 := Tryd.func164.trans (congrArg some (by kernel_rfl))
 f234 := Tryd.func165.trans (congrArg some (by kernel_rfl))
 f235 := Tryd.func166.trans (congrArg some (by kernel_rfl))
 f236 := Tryd.func167.trans (congrArg some (by kernel_rfl))
 f260 := Tryd.func204.trans (congrArg some (by kernel_rfl))
 f266 := Tryd.func203.trans (congrArg some (by kernel_rfl))
 f271 := Tryd.func192.trans (congrArg some (by kernel_rfl))
 t0 := Tryd.underlying0
 a0 := Tryd.isAgg0
 z0 := Tryd.sizeOf0
 v0 := Tryd.zeroValue0
 t3 := Tryd.underlying3
 a3 := Tryd.isAgg3
 z3 := Tryd.sizeOf3
 v3 := Tryd.zeroValue3
 t4 := Tryd.underlying4
 a4 := Tryd.isAgg4
 z4 := Tryd.sizeOf4
 v4 := Tryd.zeroValue4
 t5 := Tryd.underlying5
 a5 := Tryd.isAgg5
 z5 := Tryd.sizeOf5
 v5 := Tryd.zeroValue5
 t9 := Tryd.underlying9
 a9 := Tryd.isAgg9
 z9 := Tryd.sizeOf9
 v9 := Tryd.zeroValue9
 t21 := Tryd.underlying21
 a21 := Tryd.isAgg21
 z21 := Tryd.sizeOf21
 v21 := Tryd.zeroValue21
 t46 := Tryd.underlying124
 a46 := Tryd.isAgg124
 z46 := Tryd.sizeOf124
 v46 := Tryd.zeroValue124
 t105 := Tryd.underlying220
 a105 := Tryd.isAgg220
 z105 := Tryd.sizeOf220
 v105 := Tryd.zeroValue220
 t116 := Tryd.underlying198
 a116 := Tryd.isAgg198
 z116 := Tryd.sizeOf198
 t117 := Tryd.underlying199
 a117 := Tryd.isAgg199
 z117 := Tryd.sizeOf199
 v117 := Tryd.zeroValue199
 t119 := Tryd.underlying245
 a119 := Tryd.isAgg245
 z119 := Tryd.sizeOf245
 t124 := Tryd.underlying202
 a124 := Tryd.isAgg202
 z124 := Tryd.sizeOf202
 v124 := Tryd.zeroValue202
 t138 := Tryd.underlying247
 a138 := Tryd.isAgg247
 z138 := Tryd.sizeOf247
 v138 := Tryd.zeroValue247
 t139 := Tryd.underlying248
 a139 := Tryd.isAgg248
 z139 := Tryd.sizeOf248
 v139 := Tryd.zeroValue248
 g3 := by kernel_rfl
 g4 := by kernel_rfl }
def Tryd.l8_ren : Go.Shelf.Ren := ⟨fun | 8 => 154 | 6 => 184 | n => n, fun | 22 => 35 | 23 => 3 | 25 => 110 | 4 => 4 | 3 => 3 | 0 => 0 | n => n, fun | n => n⟩
theorem Tryd.l8 : Go.Proofs.SlLaysH.n8 Tryd.prog Tryd.l8_ren := {
 mixed := by kernel_rfl
 f6 := ⟨Tryd.f184.name, by decide, Tryd.func184.trans (congrArg some (by kernel_rfl))⟩
 f8 := ⟨Tryd.f154.name, by decide, Tryd.func154.trans (congrArg some (by kernel_rfl))⟩
 t0 := Tryd.underlying0
 a0 := Tryd.isAgg0
 z0 := Tryd.sizeOf0
 v0 := Tryd.zeroValue0
 t3 := Tryd.underlying3
 a3 := Tryd.isAgg3
 z3 := Tryd.sizeOf3
 v3 := Tryd.zeroValue3
 t4 := Tryd.underlying4
 a4 := Tryd.isAgg4
 z4 := Tryd.sizeOf4
 v4 := Tryd.zeroValue4
 t22 := Tryd.underlying35
 a22 := Tryd.isAgg35
 z22 := Tryd.sizeOf35
 v22 := Tryd.zeroValue35
 a23 := Tryd.isAgg3
 z23 := Tryd.sizeOf3
 t25 := Tryd.underlying110
 a25 := Tryd.isAgg110
 z25 := Tryd.sizeOf110
 v25 := Tryd.zeroValue110 }
def Tryd.laysTz_ren : Go.Shelf.Ren := ⟨fun | 29 => 157 | n => n, fun | 22 => 120 | 3 => 3 | 4 => 4 | 25 => 124 | 54 => 217 | 0 => 0 | 5 => 5 | n => n, fun | 1 => 1 | n => n⟩
theorem Tryd.laysTz : Go.Proofs.Lays7.n29 Tryd.prog Tryd.laysTz_ren := {
 mixed := by kernel_rfl
 f29 := Tryd.func157.trans (congrArg some (by kernel_rfl))
 t0 := Tryd.underlying0
 a0 := Tryd.isAgg0
 z0 := Tryd.sizeOf0
 v0 := Tryd.zeroValue0
 i0 := by kernel_rfl
 t3 := Tryd.underlying3
 a3 := Tryd.isAgg3
 z3 := Tryd.sizeOf3
 v3 := Tryd.zeroValue3
 i3 := by kernel_rfl
 t4 := Tryd.underlying4
 a4 := Tryd.isAgg4
 z4 := Tryd.sizeOf4
 v4 := Tryd.zeroValue4
 i4 := by kernel_rfl
 t5 := Tryd.underlying5
 a5 := Tryd.isAgg5
 z5 := Tryd.sizeOf5
 v5 := Tryd.zeroValue5
 i5 := by kernel_rfl
 t22 := Tryd.underlying120
 a22 := Tryd.isAgg120
 z22 := Tryd.sizeOf120
 v22 := Tryd.zeroValue120
 i22 := by kernel_rfl
 t25 := Tryd.underlying124
 a25 := Tryd.isAgg124
 z25 := Tryd.sizeOf124
 v25 := Tryd.zeroValue124
 i25 := by kernel_rfl
 t54 := Tryd.underlying217
 a54 := Tryd.isAgg217
 z54 := Tryd.sizeOf217
 g1 := by kernel_rfl }
end Go.Proofs
namespace Go.Proofs.YtpkimbkjjmbmcaaDoor.Q
open Go.RowKit Go.Shelf Go.Proofs.YtpkimbkjjmbmcaaDoorW.PrintWords Go.Proofs.YtpkimbkjjmbmcaaDoorW.PrintLast Go.Proofs.YtpkimbkjjmbmcaaDoorW.PrintMore
set_option linter.unusedVariables false
def shapesT : List ByteArray := [⟨#[]⟩, ⟨#[114, 110, 32]⟩, ⟨#[114, 114, 32]⟩, ⟨#[114, 114, 114]⟩, ⟨#[114, 114, 114]⟩, ⟨#[114, 114, 114]⟩, ⟨#[114, 114, 114]⟩, ⟨#[114, 114, 114]⟩, ⟨#[114, 114, 32]⟩, ⟨#[32, 114, 114]⟩, ⟨#[32, 114, 32]⟩, ⟨#[114, 32, 32]⟩, ⟨#[32, 116, 32]⟩, ⟨#[116, 114, 116]⟩, ⟨#[32, 114, 32]⟩]
def shapesD : DataW Unit := .agg (shapesT.map fun s => .lit (.string s.data.toList))
def ShapesW (w : World) : Prop := ∀ i, i < 15 → w.cell? ⟨0, i, none⟩ = some (.string (shapesT.getD i ⟨#[]⟩))
theorem ShapesW.of_reads {w : World} (h : Lib.VarReads Tryd.prog w "cubby/ir.shapes" shapesD) : ShapesW w := by
 obtain ⟨g, t, cs, fuel, p, hg, ht, hv, hd⟩ := h
 obtain rfl := zI ((show Tryd.prog.globalNamed "cubby/ir.shapes" = some 0 by kernel_rfl).symm.trans hg)
 obtain rfl := zI ((show (Tryd.prog.globals[0]?).map (·.type) = some 166 by kernel_rfl).symm.trans ht)
 obtain ⟨xs, m, _, ex, _, hl, hel⟩ := DataW.trod_array Tryd.underlying166 hd
 have c1 : Tryd.prog.cellsOf 9 = 1 := by kernel_rfl
 intro i hi
 have hE := hel i hi
 rw [c1, Nat.mul_one, List.getElem?_eq_getElem (by omega)] at hE
 obtain ⟨s, e1, e2, _⟩ := DataW.trod_string Tryd.underlying9 hE
 have hlen : shapesT.length = 15 := rfl
 have e3 : (xs.map (·.1)) = shapesT.map fun s => .lit (.string s.data.toList) := (DataW.agg.inj (Prod.mk.inj ex).1).symm
 have e4 : (xs.map (·.1))[i]? = (shapesT.map fun s => (DataW.lit (.string s.data.toList) : DataW Unit))[i]? := by rw [e3]
 rw [List.getElem?_map, List.getElem?_map, List.getElem?_eq_getElem (by omega : i < xs.length), List.getElem?_eq_getElem (by omega : i < shapesT.length), e2] at e4
 have hs : s = shapesT.getD i ⟨#[]⟩ := by
  simp only [Option.map_some, Option.some.injEq, DataW.lit.injEq, Lit.string.injEq] at e4
  rw [List.getD_eq_getElem?_getD, List.getElem?_eq_getElem (by omega : i < shapesT.length)]
  have := congrArg List.toArray e4
  simp only [Array.toArray_toList] at this
  cases s
  simp at this ⊢
  rw [this]
 rw [World.var?_cell hg hv i, ← hs]
 have : cs.toList[i]? = some (.string s) := by
  have h0 : ((cs.toList.drop i).take 1)[0]? = some (.string s) := by rw [e1]; rfl
  simpa using h0
 simpa using this
def tabZ : List Int := Lib.deBruijn64tab.map fun n : Nat => (n : Int)
def tabD : DataW Unit := Lib.tabData .u8 tabZ
theorem tab_of_reads {w : World} (h : Lib.VarReads Tryd.prog w "math/bits.deBruijn64tab" tabD) : TabAt 1 Lib.deBruijn64tab w := by
 obtain ⟨g, t, cs, fuel, p, hg, ht, hv, hd⟩ := h
 obtain rfl := zI ((show Tryd.prog.globalNamed "math/bits.deBruijn64tab" = some 1 by kernel_rfl).symm.trans hg)
 obtain rfl := zI ((show (Tryd.prog.globals[1]?).map (·.type) = some 217 by kernel_rfl).symm.trans ht)
 have hc := Lib.cells_of_tab Tryd.underlying217 Tryd.underlying5 (by kernel_rfl) (by kernel_rfl) hd
 intro j hj
 rw [World.var?_cell hg hv j]
 have h1 : cs.toList[j]? = some (.int .u8 (Lib.deBruijn64tab.getD j 0)) := by
  rw [hc, List.getElem?_map, tabZ, List.getElem?_map, List.getElem?_eq_getElem hj]
  rw [List.getD_eq_getElem?_getD, List.getElem?_eq_getElem hj]
  rfl
 simpa using h1
def LaidW (w : World) : Prop := ShapesW w ∧ TabAt 1 Lib.deBruijn64tab w
theorem LaidW.below {w w1 : World} (h : LaidW w) (hb : Below w.heap.size w w1) : LaidW w1 := ⟨fun i hi => pw_cell_below hb (h.1 i hi), fun j hj => pw_cell_below hb (h.2 j hj)⟩
theorem LaidW.alloc {w : World} (h : LaidW w) (o : Obj) : LaidW (w.alloc o) := h.below (below_alloc (Below.refl _ _) o)
theorem LaidW.drewN {w : World} (h : LaidW w) (n : Nat) : LaidW (w.drewN n) := h
theorem LaidW.drew {w : World} (h : LaidW w) : LaidW w.drew := h
theorem LaidW.of_reads2 {w : World} (h : Lib.VarReads Tryd.prog w "cubby/ir.shapes" shapesD) (h2 : Lib.VarReads Tryd.prog w "math/bits.deBruijn64tab" tabD) : LaidW w := ⟨ShapesW.of_reads h, tab_of_reads h2⟩
def bits_TrailingZeros64.f (a0 : Int) : Option Int := if 0 ≤ a0 ∧ a0 < 18446744073709551616 then some (Lib.ctz 64 a0.toNat : Int) else none
theorem bits_TrailingZeros64.calls (a0 : Int) (r : Int) (w : World) (hL : LaidW w) (h : bits_TrailingZeros64.f a0 = some r) :
 Calls Tryd.prog 157 #[.int .u64 a0] w fun e w' => e = .returned (.int .i64 r) ∧ Drawn0 w w' := by
 unfold bits_TrailingZeros64.f at h
 split at h
 ·next c =>
  obtain rfl := zI h
  have := Any7.bits_TrailingZeros64 Tryd.laysTz a0.toNat (by omega) w (fun _ => hL.2)
  rw [show ((a0.toNat : Nat) : Int) = a0 by omega] at this
  refine this.mono ?_
  rintro e w' ⟨rfl, rfl⟩
  exact ⟨rfl, Drawn0.refl _⟩
 ·exact absurd h (by simp)
def ir_shape.f (a0 : Int) : Option ByteArray := some (if 0 ≤ a0 ∧ a0 < 15 then shapesT.getD a0.toNat ⟨#[]⟩ else ⟨#[]⟩)
set_option maxHeartbeats 8000000 in
set_option maxRecDepth 100000 in
theorem ir_shape.calls (a0 : Int) (r : ByteArray) (w : World) (hL : LaidW w) (h : ir_shape.f a0 = some r) :
 Calls Tryd.prog 85 #[.int .i64 a0] w fun e w' => e = .returned (.string r) ∧ Drawn0 w w' := by
 obtain rfl := zI h
 clear h
 by_cases c0 : a0 < 0
 ·rw [zD (by omega)]
  have c0b : decide (a0 < 0) = true := zF c0
  clear hL
  go_enter Tryd.func85, Tryd.ntmps85
  go_wp2
  go_ret
  exact ⟨rfl, by repeat (first | exact Drawn0.refl _ | apply Drawn0.step)⟩
 ·by_cases c1 : a0 < 15
  ·rw [zC ⟨by omega, c1⟩]
   have hc := hL.1 a0.toNat (by omega)
   have c0b : decide (a0 < 0) = false := zG c0
   have c1b : decide (15 ≤ a0) = false := zG (by omega)
   clear hL
   have p0 : 0 ≤ a0 := by omega
   go_enter Tryd.func85, Tryd.ntmps85
   go_wp2
   go_ret
   exact ⟨rfl, by repeat (first | exact Drawn0.refl _ | apply Drawn0.step)⟩
  ·rw [zD (by omega)]
   have c0b : decide (a0 < 0) = false := zG c0
   have c1b : decide (15 ≤ a0) = true := zF (by omega)
   clear hL
   go_enter Tryd.func85, Tryd.ntmps85
   go_wp2
   go_ret
   exact ⟨rfl, by repeat (first | exact Drawn0.refl _ | apply Drawn0.step)⟩
end Go.Proofs.YtpkimbkjjmbmcaaDoor.Q
namespace Go.Proofs.YtpkimbkjjmbmcaaDoor.Q
open Go.RowKit Go.Proofs.YtpkimbkjjmbmcaaDoorW.PrintWords Go.Proofs.YtpkimbkjjmbmcaaDoorW.PrintLast Go.Proofs.YtpkimbkjjmbmcaaDoorW.PrintMore
attribute [local go_sem] max2_int min2_int max_two min_two max_three min_three max_four min_four
set_option linter.unusedVariables false
set_option linter.unusedSimpArgs false
theorem eqASpan (d : Nat) (w : World) (x0 y0 : Int) (x1 y1 : Int) :
 (Op.equalIn (d + 2) 28 (.agg #[.int .i64 x0, .int .i64 x1]) (.agg #[.int .i64 y0, .int .i64 y1])).run Tryd.prog w = .ok (x0 == y0 && (x1 == y1)) w := by
 refine eqA_of Tryd.underlying28 (by kernel_rfl) ?_
 refine eqf_cons (by rfl) (by go_simp; rfl) (by go_simp; rfl) (by go_simp) ?_
 exact eqf_last (by rfl) (by go_simp; rfl) (by go_simp; rfl) (by go_simp)

mutual
def cubbyref07_Name.j0 : Nat → ByteArray → Bool → Option (Bool)
 | 0, _, _ => none
 | k + 1, x0, x13 => if x13 = true then (some false) else (cubbyref07_Name.l0 k x0 0)
def cubbyref07_Name.l0 : Nat → ByteArray → Int → Option (Bool)
 | 0, _, _ => none
 | k + 1, x0, x3 => if x3 < (x0.size : Int) then (if 0 ≤ x3 then (if (bt x0 x3) ≥ 97 then (if (bt x0 x3) ≥ 48 then (if ((bt x0 x3) ≤ 122) then (cubbyref07_Name.l0 k x0 (wrap64 (x3 + 1))) else (if ((bt x0 x3) ≤ 57) then (if x3 = 0 then (some false) else (cubbyref07_Name.l0 k x0 (wrap64 (x3 + 1)))) else (some false))) else (if ((bt x0 x3) ≤ 122) then (cubbyref07_Name.l0 k x0 (wrap64 (x3 + 1))) else (some false))) else (if (bt x0 x3) ≥ 48 then (if ((bt x0 x3) ≤ 57) then (if x3 = 0 then (some false) else (cubbyref07_Name.l0 k x0 (wrap64 (x3 + 1)))) else (some false)) else (some false))) else (none)) else (some true)
end
def cubbyref07_Name.f (k : Nat) (a0 : ByteArray) : Option (Bool) := if (a0.size : Int) < 1 then (cubbyref07_Name.j0 k a0 true) else (cubbyref07_Name.j0 k a0 (decide ((a0.size : Int) > 12)))
set_option maxHeartbeats 8000000 in
set_option maxRecDepth 100000 in
theorem cubbyref07_Name.calls (k : Nat) (a0 : ByteArray) (r : Bool) (w : World) (h : cubbyref07_Name.f k a0 = some r) :
 Calls Tryd.prog 61 #[.string a0] w fun e w' => e = .returned (.bool r) ∧ Drawn0 w w' := by
 have H := h; clear h; unfold cubbyref07_Name.f at H
 have HC2 := zA H
 clear H
 go_enter Tryd.func61, Tryd.ntmps61
 go_upto_region 1 with (fail)
 go_cut [13] (fun v13 wc => ∃ (kq : Nat) (x13_1 : Bool), v13 = .bool x13_1 ∧ Aside0 (cubbyref07_Name.j0 kq a0 x13_1 = some r) ∧ Aside0 (kq ≤ k) ∧ Drawn0 w wc)
 case first =>
  have H := HC2.out
  clear HC2
  by_cases c3 : (a0.size : Int) < 1
  ·rw [zC c3] at H
   have c3b0 := zF c3
   have c3b1 : decide (a0.size < 1) = true := zF (by omega)
   clear c3
   (first | rw [c3b0] | (simp only [i64_w, i32_w]; rw [c3b0]) | skip)
   have H' := zA H
   clear H
   go_wp2
   go_meet
   case rel => exact ⟨_, (true), qT, H', ⟨qO⟩, qD⟩
  ·rw [zD c3] at H
   have c3b0 := zG c3
   have c3b1 : decide (a0.size < 1) = false := zG (by omega)
   clear c3
   (first | rw [c3b0] | (simp only [i64_w, i32_w]; rw [c3b0]) | skip)
   have H' := zA H
   clear H
   go_wp2
   go_meet
   case rel => exact ⟨_, (decide ((a0.size : Int) > 12)), qT, H', ⟨qO⟩, qD⟩
 case rest =>
  clear HC2
  obtain ⟨kq, x13_1, rfl, HA, HJ1, ⟨mc1, rfl⟩⟩ := hcut
  cases kq with
  | zero => exact absurd HA.out (by simp [cubbyref07_Name.j0])
  | succ kj1 =>
   have H := HA.out
   clear HA
   simp only [cubbyref07_Name.j0] at H
   by_cases c4 : x13_1 = true
   ·subst c4
    have H1 : (some false) = some r := by rw [zC rfl] at H; exact H
    clear H
    have H := H1
    clear H1
    obtain rfl := zI H
    go_wp2
    go_ret
    exact ⟨by first | rfl | (simp; done) | (simp [*]; done), qD⟩
   ·replace c4 := Bool.eq_false_iff.mpr c4
    subst c4
    have H1 : (cubbyref07_Name.l0 kj1 a0 0) = some r := by rw [zD (show ¬ (false = true) by decide)] at H; exact H
    clear H
    have H := H1
    clear H1
    have H' := zA H
    clear H
    go_wp2
    go_loopg [3] kj1 (fun kq v3 w' => ∃ (x3_2 : Int), v3 = .int .i64 x3_2 ∧ Aside0 (cubbyref07_Name.l0 kq a0 x3_2 = some r) ∧ Aside0 (kq ≤ kj1) ∧ Drawn0 w w')
    case atStart => exact ⟨(0), qT, H', ⟨Nat.le_refl _⟩, qD⟩
    case round =>
     clear H'
     obtain ⟨x3_2, rfl, HA, HK2, ⟨m2, rfl⟩⟩ := hrel
     cases gk with
     | zero => exact absurd HA.out (by simp [cubbyref07_Name.l0])
     | succ k2 =>
      have H := HA.out
      clear HA
      simp only [cubbyref07_Name.l0] at H
      by_cases c5 : x3_2 < (a0.size : Int)
      ·rw [zC c5] at H
       have c5b0 := zF c5
       clear c5
       by_cases c6 : 0 ≤ x3_2
       ·rw [zC c6] at H
        have c6b0 := zF c6
        clear c6
        by_cases c8 : (bt a0 x3_2) ≥ 97
        ·rw [zC c8] at H
         have c8b0 : decide (97 ≤ (bt a0 x3_2)) = true := zF c8
         clear c8
         by_cases c11 : (bt a0 x3_2) ≥ 48
         ·rw [zC c11] at H
          have c11b0 : decide (48 ≤ (bt a0 x3_2)) = true := zF c11
          clear c11
          by_cases c13 : ((bt a0 x3_2) ≤ 122)
          ·rw [zC c13] at H
           have c13b0 : decide ((bt a0 x3_2) ≤ 122) = true := zF c13
           clear c13
           have H' := zA H
           clear H
           have p7 : 0 ≤ (x3_2 : Int) := zB qA
           have q7 : x3_2 < (a0.size : Int) := zB qA
           have hx7 := bt_at a0 x3_2
           replace p7 := eq_true p7
           replace q7 := eq_true q7
           have p9 : 0 ≤ (x3_2 : Int) := zB qA
           have q9 : x3_2 < (a0.size : Int) := zB qA
           have hx9 := bt_at a0 x3_2
           replace p9 := eq_true p9
           replace q9 := eq_true q9
           have p10 : 0 ≤ (x3_2 : Int) := zB qA
           have q10 : x3_2 < (a0.size : Int) := zB qA
           have hx10 := bt_at a0 x3_2
           replace p10 := eq_true p10
           replace q10 := eq_true q10
           have p12 : 0 ≤ (x3_2 : Int) := zB qA
           have q12 : x3_2 < (a0.size : Int) := zB qA
           have hx12 := bt_at a0 x3_2
           replace p12 := eq_true p12
           replace q12 := eq_true q12
           go_wp2
           go_roundg k2
           case measure => have := HJ1.out; have := HK2.out; omega
           case rel => exact ⟨(wrap64 (x3_2 + 1)), qT, H', ⟨by have := HJ1.out; have := HK2.out; omega⟩, qD⟩
          ·rw [zD c13] at H
           have c13b0 : decide ((bt a0 x3_2) ≤ 122) = false := zG c13
           clear c13
           by_cases c14 : ((bt a0 x3_2) ≤ 57)
           ·rw [zC c14] at H
            have c14b0 : decide ((bt a0 x3_2) ≤ 57) = true := zF c14
            clear c14
            by_cases c15 : x3_2 = 0
            ·rw [zC c15] at H
             obtain ⟨c15b0, c15b1⟩ := qe c15; clear c15
             obtain rfl := zI H
             have p7 : 0 ≤ (x3_2 : Int) := zB qA
             have q7 : x3_2 < (a0.size : Int) := zB qA
             have hx7 := bt_at a0 x3_2
             replace p7 := eq_true p7
             replace q7 := eq_true q7
             have p9 : 0 ≤ (x3_2 : Int) := zB qA
             have q9 : x3_2 < (a0.size : Int) := zB qA
             have hx9 := bt_at a0 x3_2
             replace p9 := eq_true p9
             replace q9 := eq_true q9
             have p10 : 0 ≤ (x3_2 : Int) := zB qA
             have q10 : x3_2 < (a0.size : Int) := zB qA
             have hx10 := bt_at a0 x3_2
             replace p10 := eq_true p10
             replace q10 := eq_true q10
             have p12 : 0 ≤ (x3_2 : Int) := zB qA
             have q12 : x3_2 < (a0.size : Int) := zB qA
             have hx12 := bt_at a0 x3_2
             replace p12 := eq_true p12
             replace q12 := eq_true q12
             go_wp2
             go_ret
             exact ⟨by first | rfl | (simp; done) | (simp [*]; done), qD⟩
            ·rw [zD c15] at H
             obtain ⟨c15b0, c15b1⟩ := qn c15
             have H' := zA H
             clear H
             have p7 : 0 ≤ (x3_2 : Int) := zB qA
             have q7 : x3_2 < (a0.size : Int) := zB qA
             have hx7 := bt_at a0 x3_2
             replace p7 := eq_true p7
             replace q7 := eq_true q7
             have p9 : 0 ≤ (x3_2 : Int) := zB qA
             have q9 : x3_2 < (a0.size : Int) := zB qA
             have hx9 := bt_at a0 x3_2
             replace p9 := eq_true p9
             replace q9 := eq_true q9
             have p10 : 0 ≤ (x3_2 : Int) := zB qA
             have q10 : x3_2 < (a0.size : Int) := zB qA
             have hx10 := bt_at a0 x3_2
             replace p10 := eq_true p10
             replace q10 := eq_true q10
             have p12 : 0 ≤ (x3_2 : Int) := zB qA
             have q12 : x3_2 < (a0.size : Int) := zB qA
             have hx12 := bt_at a0 x3_2
             replace p12 := eq_true p12
             replace q12 := eq_true q12
             go_wp2
             go_roundg k2
             case measure => have := HJ1.out; have := HK2.out; omega
             case rel => exact ⟨(wrap64 (x3_2 + 1)), qT, H', ⟨by have := HJ1.out; have := HK2.out; omega⟩, qD⟩
           ·rw [zD c14] at H
            have c14b0 : decide ((bt a0 x3_2) ≤ 57) = false := zG c14
            clear c14
            obtain rfl := zI H
            have p7 : 0 ≤ (x3_2 : Int) := zB qA
            have q7 : x3_2 < (a0.size : Int) := zB qA
            have hx7 := bt_at a0 x3_2
            replace p7 := eq_true p7
            replace q7 := eq_true q7
            have p9 : 0 ≤ (x3_2 : Int) := zB qA
            have q9 : x3_2 < (a0.size : Int) := zB qA
            have hx9 := bt_at a0 x3_2
            replace p9 := eq_true p9
            replace q9 := eq_true q9
            have p10 : 0 ≤ (x3_2 : Int) := zB qA
            have q10 : x3_2 < (a0.size : Int) := zB qA
            have hx10 := bt_at a0 x3_2
            replace p10 := eq_true p10
            replace q10 := eq_true q10
            have p12 : 0 ≤ (x3_2 : Int) := zB qA
            have q12 : x3_2 < (a0.size : Int) := zB qA
            have hx12 := bt_at a0 x3_2
            replace p12 := eq_true p12
            replace q12 := eq_true q12
            go_wp2
            go_ret
            exact ⟨by first | rfl | (simp; done) | (simp [*]; done), qD⟩
         ·rw [zD c11] at H
          have c11b0 : decide (48 ≤ (bt a0 x3_2)) = false := zG c11
          clear c11
          by_cases c16 : ((bt a0 x3_2) ≤ 122)
          ·rw [zC c16] at H
           have c16b0 : decide ((bt a0 x3_2) ≤ 122) = true := zF c16
           clear c16
           have H' := zA H
           clear H
           have p7 : 0 ≤ (x3_2 : Int) := zB qA
           have q7 : x3_2 < (a0.size : Int) := zB qA
           have hx7 := bt_at a0 x3_2
           replace p7 := eq_true p7
           replace q7 := eq_true q7
           have p9 : 0 ≤ (x3_2 : Int) := zB qA
           have q9 : x3_2 < (a0.size : Int) := zB qA
           have hx9 := bt_at a0 x3_2
           replace p9 := eq_true p9
           replace q9 := eq_true q9
           have p10 : 0 ≤ (x3_2 : Int) := zB qA
           have q10 : x3_2 < (a0.size : Int) := zB qA
           have hx10 := bt_at a0 x3_2
           replace p10 := eq_true p10
           replace q10 := eq_true q10
           go_wp2
           go_roundg k2
           case measure => have := HJ1.out; have := HK2.out; omega
           case rel => exact ⟨(wrap64 (x3_2 + 1)), qT, H', ⟨by have := HJ1.out; have := HK2.out; omega⟩, qD⟩
          ·rw [zD c16] at H
           have c16b0 : decide ((bt a0 x3_2) ≤ 122) = false := zG c16
           clear c16
           obtain rfl := zI H
           have p7 : 0 ≤ (x3_2 : Int) := zB qA
           have q7 : x3_2 < (a0.size : Int) := zB qA
           have hx7 := bt_at a0 x3_2
           replace p7 := eq_true p7
           replace q7 := eq_true q7
           have p9 : 0 ≤ (x3_2 : Int) := zB qA
           have q9 : x3_2 < (a0.size : Int) := zB qA
           have hx9 := bt_at a0 x3_2
           replace p9 := eq_true p9
           replace q9 := eq_true q9
           have p10 : 0 ≤ (x3_2 : Int) := zB qA
           have q10 : x3_2 < (a0.size : Int) := zB qA
           have hx10 := bt_at a0 x3_2
           replace p10 := eq_true p10
           replace q10 := eq_true q10
           go_wp2
           go_ret
           exact ⟨by first | rfl | (simp; done) | (simp [*]; done), qD⟩
        ·rw [zD c8] at H
         have c8b0 : decide (97 ≤ (bt a0 x3_2)) = false := zG c8
         clear c8
         by_cases c18 : (bt a0 x3_2) ≥ 48
         ·rw [zC c18] at H
          have c18b0 : decide (48 ≤ (bt a0 x3_2)) = true := zF c18
          clear c18
          by_cases c20 : ((bt a0 x3_2) ≤ 57)
          ·rw [zC c20] at H
           have c20b0 : decide ((bt a0 x3_2) ≤ 57) = true := zF c20
           clear c20
           by_cases c21 : x3_2 = 0
           ·rw [zC c21] at H
            obtain ⟨c21b0, c21b1⟩ := qe c21; clear c21
            obtain rfl := zI H
            have p7 : 0 ≤ (x3_2 : Int) := zB qA
            have q7 : x3_2 < (a0.size : Int) := zB qA
            have hx7 := bt_at a0 x3_2
            replace p7 := eq_true p7
            replace q7 := eq_true q7
            have p17 : 0 ≤ (x3_2 : Int) := zB qA
            have q17 : x3_2 < (a0.size : Int) := zB qA
            have hx17 := bt_at a0 x3_2
            replace p17 := eq_true p17
            replace q17 := eq_true q17
            have p19 : 0 ≤ (x3_2 : Int) := zB qA
            have q19 : x3_2 < (a0.size : Int) := zB qA
            have hx19 := bt_at a0 x3_2
            replace p19 := eq_true p19
            replace q19 := eq_true q19
            go_wp2
            go_ret
            exact ⟨by first | rfl | (simp; done) | (simp [*]; done), qD⟩
           ·rw [zD c21] at H
            obtain ⟨c21b0, c21b1⟩ := qn c21
            have H' := zA H
            clear H
            have p7 : 0 ≤ (x3_2 : Int) := zB qA
            have q7 : x3_2 < (a0.size : Int) := zB qA
            have hx7 := bt_at a0 x3_2
            replace p7 := eq_true p7
            replace q7 := eq_true q7
            have p17 : 0 ≤ (x3_2 : Int) := zB qA
            have q17 : x3_2 < (a0.size : Int) := zB qA
            have hx17 := bt_at a0 x3_2
            replace p17 := eq_true p17
            replace q17 := eq_true q17
            have p19 : 0 ≤ (x3_2 : Int) := zB qA
            have q19 : x3_2 < (a0.size : Int) := zB qA
            have hx19 := bt_at a0 x3_2
            replace p19 := eq_true p19
            replace q19 := eq_true q19
            go_wp2
            go_roundg k2
            case measure => have := HJ1.out; have := HK2.out; omega
            case rel => exact ⟨(wrap64 (x3_2 + 1)), qT, H', ⟨by have := HJ1.out; have := HK2.out; omega⟩, qD⟩
          ·rw [zD c20] at H
           have c20b0 : decide ((bt a0 x3_2) ≤ 57) = false := zG c20
           clear c20
           obtain rfl := zI H
           have p7 : 0 ≤ (x3_2 : Int) := zB qA
           have q7 : x3_2 < (a0.size : Int) := zB qA
           have hx7 := bt_at a0 x3_2
           replace p7 := eq_true p7
           replace q7 := eq_true q7
           have p17 : 0 ≤ (x3_2 : Int) := zB qA
           have q17 : x3_2 < (a0.size : Int) := zB qA
           have hx17 := bt_at a0 x3_2
           replace p17 := eq_true p17
           replace q17 := eq_true q17
           have p19 : 0 ≤ (x3_2 : Int) := zB qA
           have q19 : x3_2 < (a0.size : Int) := zB qA
           have hx19 := bt_at a0 x3_2
           replace p19 := eq_true p19
           replace q19 := eq_true q19
           go_wp2
           go_ret
           exact ⟨by first | rfl | (simp; done) | (simp [*]; done), qD⟩
         ·rw [zD c18] at H
          have c18b0 : decide (48 ≤ (bt a0 x3_2)) = false := zG c18
          clear c18
          obtain rfl := zI H
          have p7 : 0 ≤ (x3_2 : Int) := zB qA
          have q7 : x3_2 < (a0.size : Int) := zB qA
          have hx7 := bt_at a0 x3_2
          replace p7 := eq_true p7
          replace q7 := eq_true q7
          have p17 : 0 ≤ (x3_2 : Int) := zB qA
          have q17 : x3_2 < (a0.size : Int) := zB qA
          have hx17 := bt_at a0 x3_2
          replace p17 := eq_true p17
          replace q17 := eq_true q17
          go_wp2
          go_ret
          exact ⟨by first | rfl | (simp; done) | (simp [*]; done), qD⟩
       ·rw [zD c6] at H
        exact absurd H (by simp)
      ·rw [zD c5] at H
       have c5b0 := zG c5
       clear c5
       obtain rfl := zI H
       go_wp2
       go_ret
       exact ⟨by first | rfl | (simp; done) | (simp [*]; done), qD⟩

def cubbyref07_Def.f (a0_0 : Int) (a0_1 : Int) (a0_2 : Int) (a0_3 : Int) (a0_4 : ByteArray) (l0_5 : List Int) : Option (Int) := if a0_0 = 1 then (some a0_1) else (if a0_0 = 2 then (some a0_1) else (if a0_0 = 8 then (some a0_1) else (if a0_0 = 3 then (some a0_1) else (if a0_0 = 4 then (some a0_1) else (if a0_0 = 5 then (some a0_1) else (if a0_0 = 6 then (some a0_1) else (if a0_0 = 7 then (some a0_1) else (if a0_0 = 11 then (some a0_1) else (some (-1))))))))))
set_option maxHeartbeats 8000000 in
set_option maxRecDepth 100000 in
theorem cubbyref07_Def.calls (a0_0 : Int) (a0_1 : Int) (a0_2 : Int) (a0_3 : Int) (a0_4 : ByteArray) (A0_5 : Option Addr) (c0_5 : Nat) (l0_5 : List Int) (r : Int) (w : World) (hr0_5 : Kd.C (Kd.int .i64) w A0_5 l0_5.length l0_5) (hc0_5 : l0_5.length ≤ c0_5) (h : cubbyref07_Def.f a0_0 a0_1 a0_2 a0_3 a0_4 l0_5 = some r) :
 Calls Tryd.prog 18 #[.agg #[.int .i64 a0_0, .int .i64 a0_1, .int .i64 a0_2, .int .i64 a0_3, .string a0_4, .slice A0_5 l0_5.length c0_5]] w fun e w' => e = .returned (.int .i64 r) ∧ Below w.heap.size w w' := by
 have hu38 := Tryd.underlying38
 have HR0_5 := zA hr0_5
 have HC0_5 := zA hc0_5
 clear hr0_5 hc0_5
 have HB := zA (Below.refl w.heap.size w)
 have H := h; clear h; unfold cubbyref07_Def.f at H
 by_cases c2 : a0_0 = 1
 ·rw [zC c2] at H
  obtain ⟨c2b0, c2b1⟩ := qe c2; clear c2
  obtain rfl := zI H
  go_enter Tryd.func18, Tryd.ntmps18
  go_wp2_with (first | ((with_reducible refine gate_dst (N := 1) rfl ?_); refine box_event (by rfl) (N := 1) (by rfl) (cs := #[.int .i64 a0_0, .int .i64 a0_1, .int .i64 a0_2, .int .i64 a0_3, .string a0_4, .slice A0_5 l0_5.length c0_5]) (t := 38) ?hr ?_; (case hr => go_simp <;> rfl); intro gb120 hg w3 hbox hb; have BK120 := zA (hbox); have GW120 := qG hg; have GE120 := GW120; replace HB := qH hb; clear hb hbox hg; have z4_0 := bk6 BK120.out))
  go_ret
  exact ⟨qE, qB⟩
 ·rw [zD c2] at H
  obtain ⟨c2b0, c2b1⟩ := qn c2
  by_cases c5 : a0_0 = 2
  ·rw [zC c5] at H
   obtain ⟨c5b0, c5b1⟩ := qe c5; clear c5
   obtain rfl := zI H
   go_enter Tryd.func18, Tryd.ntmps18
   go_wp2_with (first | ((with_reducible refine gate_dst (N := 1) rfl ?_); refine box_event (by rfl) (N := 1) (by rfl) (cs := #[.int .i64 a0_0, .int .i64 a0_1, .int .i64 a0_2, .int .i64 a0_3, .string a0_4, .slice A0_5 l0_5.length c0_5]) (t := 38) ?hr ?_; (case hr => go_simp <;> rfl); intro gb120 hg w6 hbox hb; have BK120 := zA (hbox); have GW120 := qG hg; have GE120 := GW120; replace HB := qH hb; clear hb hbox hg; have z7_0 := bk6 BK120.out))
   go_ret
   exact ⟨qE, qB⟩
  ·rw [zD c5] at H
   obtain ⟨c5b0, c5b1⟩ := qn c5
   by_cases c8 : a0_0 = 8
   ·rw [zC c8] at H
    obtain ⟨c8b0, c8b1⟩ := qe c8; clear c8
    obtain rfl := zI H
    go_enter Tryd.func18, Tryd.ntmps18
    go_wp2_with (first | ((with_reducible refine gate_dst (N := 1) rfl ?_); refine box_event (by rfl) (N := 1) (by rfl) (cs := #[.int .i64 a0_0, .int .i64 a0_1, .int .i64 a0_2, .int .i64 a0_3, .string a0_4, .slice A0_5 l0_5.length c0_5]) (t := 38) ?hr ?_; (case hr => go_simp <;> rfl); intro gb120 hg w9 hbox hb; have BK120 := zA (hbox); have GW120 := qG hg; have GE120 := GW120; replace HB := qH hb; clear hb hbox hg; have z10_0 := bk6 BK120.out))
    go_ret
    exact ⟨qE, qB⟩
   ·rw [zD c8] at H
    obtain ⟨c8b0, c8b1⟩ := qn c8
    by_cases c11 : a0_0 = 3
    ·rw [zC c11] at H
     obtain ⟨c11b0, c11b1⟩ := qe c11; clear c11
     obtain rfl := zI H
     go_enter Tryd.func18, Tryd.ntmps18
     go_wp2_with (first | ((with_reducible refine gate_dst (N := 1) rfl ?_); refine box_event (by rfl) (N := 1) (by rfl) (cs := #[.int .i64 a0_0, .int .i64 a0_1, .int .i64 a0_2, .int .i64 a0_3, .string a0_4, .slice A0_5 l0_5.length c0_5]) (t := 38) ?hr ?_; (case hr => go_simp <;> rfl); intro gb120 hg w12 hbox hb; have BK120 := zA (hbox); have GW120 := qG hg; have GE120 := GW120; replace HB := qH hb; clear hb hbox hg; have z13_0 := bk6 BK120.out))
     go_ret
     exact ⟨qE, qB⟩
    ·rw [zD c11] at H
     obtain ⟨c11b0, c11b1⟩ := qn c11
     by_cases c14 : a0_0 = 4
     ·rw [zC c14] at H
      obtain ⟨c14b0, c14b1⟩ := qe c14; clear c14
      obtain rfl := zI H
      go_enter Tryd.func18, Tryd.ntmps18
      go_wp2_with (first | ((with_reducible refine gate_dst (N := 1) rfl ?_); refine box_event (by rfl) (N := 1) (by rfl) (cs := #[.int .i64 a0_0, .int .i64 a0_1, .int .i64 a0_2, .int .i64 a0_3, .string a0_4, .slice A0_5 l0_5.length c0_5]) (t := 38) ?hr ?_; (case hr => go_simp <;> rfl); intro gb120 hg w15 hbox hb; have BK120 := zA (hbox); have GW120 := qG hg; have GE120 := GW120; replace HB := qH hb; clear hb hbox hg; have z16_0 := bk6 BK120.out))
      go_ret
      exact ⟨qE, qB⟩
     ·rw [zD c14] at H
      obtain ⟨c14b0, c14b1⟩ := qn c14
      by_cases c17 : a0_0 = 5
      ·rw [zC c17] at H
       obtain ⟨c17b0, c17b1⟩ := qe c17; clear c17
       obtain rfl := zI H
       go_enter Tryd.func18, Tryd.ntmps18
       go_wp2_with (first | ((with_reducible refine gate_dst (N := 1) rfl ?_); refine box_event (by rfl) (N := 1) (by rfl) (cs := #[.int .i64 a0_0, .int .i64 a0_1, .int .i64 a0_2, .int .i64 a0_3, .string a0_4, .slice A0_5 l0_5.length c0_5]) (t := 38) ?hr ?_; (case hr => go_simp <;> rfl); intro gb120 hg w18 hbox hb; have BK120 := zA (hbox); have GW120 := qG hg; have GE120 := GW120; replace HB := qH hb; clear hb hbox hg; have z19_0 := bk6 BK120.out))
       go_ret
       exact ⟨qE, qB⟩
      ·rw [zD c17] at H
       obtain ⟨c17b0, c17b1⟩ := qn c17
       by_cases c20 : a0_0 = 6
       ·rw [zC c20] at H
        obtain ⟨c20b0, c20b1⟩ := qe c20; clear c20
        obtain rfl := zI H
        go_enter Tryd.func18, Tryd.ntmps18
        go_wp2_with (first | ((with_reducible refine gate_dst (N := 1) rfl ?_); refine box_event (by rfl) (N := 1) (by rfl) (cs := #[.int .i64 a0_0, .int .i64 a0_1, .int .i64 a0_2, .int .i64 a0_3, .string a0_4, .slice A0_5 l0_5.length c0_5]) (t := 38) ?hr ?_; (case hr => go_simp <;> rfl); intro gb120 hg w21 hbox hb; have BK120 := zA (hbox); have GW120 := qG hg; have GE120 := GW120; replace HB := qH hb; clear hb hbox hg; have z22_0 := bk6 BK120.out))
        go_ret
        exact ⟨qE, qB⟩
       ·rw [zD c20] at H
        obtain ⟨c20b0, c20b1⟩ := qn c20
        by_cases c23 : a0_0 = 7
        ·rw [zC c23] at H
         obtain ⟨c23b0, c23b1⟩ := qe c23; clear c23
         obtain rfl := zI H
         go_enter Tryd.func18, Tryd.ntmps18
         go_wp2_with (first | ((with_reducible refine gate_dst (N := 1) rfl ?_); refine box_event (by rfl) (N := 1) (by rfl) (cs := #[.int .i64 a0_0, .int .i64 a0_1, .int .i64 a0_2, .int .i64 a0_3, .string a0_4, .slice A0_5 l0_5.length c0_5]) (t := 38) ?hr ?_; (case hr => go_simp <;> rfl); intro gb120 hg w24 hbox hb; have BK120 := zA (hbox); have GW120 := qG hg; have GE120 := GW120; replace HB := qH hb; clear hb hbox hg; have z25_0 := bk6 BK120.out))
         go_ret
         exact ⟨qE, qB⟩
        ·rw [zD c23] at H
         obtain ⟨c23b0, c23b1⟩ := qn c23
         by_cases c26 : a0_0 = 11
         ·rw [zC c26] at H
          obtain ⟨c26b0, c26b1⟩ := qe c26; clear c26
          obtain rfl := zI H
          go_enter Tryd.func18, Tryd.ntmps18
          go_wp2_with (first | ((with_reducible refine gate_dst (N := 1) rfl ?_); refine box_event (by rfl) (N := 1) (by rfl) (cs := #[.int .i64 a0_0, .int .i64 a0_1, .int .i64 a0_2, .int .i64 a0_3, .string a0_4, .slice A0_5 l0_5.length c0_5]) (t := 38) ?hr ?_; (case hr => go_simp <;> rfl); intro gb120 hg w27 hbox hb; have BK120 := zA (hbox); have GW120 := qG hg; have GE120 := GW120; replace HB := qH hb; clear hb hbox hg; have z28_0 := bk6 BK120.out))
          go_ret
          exact ⟨qE, qB⟩
         ·rw [zD c26] at H
          obtain ⟨c26b0, c26b1⟩ := qn c26
          obtain rfl := zI H
          go_enter Tryd.func18, Tryd.ntmps18
          go_wp2_with (first | ((with_reducible refine gate_dst (N := 1) rfl ?_); refine box_event (by rfl) (N := 1) (by rfl) (cs := #[.int .i64 a0_0, .int .i64 a0_1, .int .i64 a0_2, .int .i64 a0_3, .string a0_4, .slice A0_5 l0_5.length c0_5]) (t := 38) ?hr ?_; (case hr => go_simp <;> rfl); intro gb120 hg w29 hbox hb; have BK120 := zA (hbox); have GW120 := qG hg; have GE120 := GW120; replace HB := qH hb; clear hb hbox hg; have z30_0 := bk6 BK120.out))
          go_ret
          exact ⟨qE, qB⟩

def cubbyref07_Last.f (a0 : Int) : Option (Bool) := if a0 = 12 then (some true) else (if a0 = 13 then (some true) else (some (a0 == 14)))
set_option maxHeartbeats 8000000 in
set_option maxRecDepth 100000 in
theorem cubbyref07_Last.calls (a0 : Int) (r : Bool) (w : World) (h : cubbyref07_Last.f a0 = some r) :
 Calls Tryd.prog 125 #[.int .i64 a0] w fun e w' => e = .returned (.bool r) ∧ Drawn0 w w' := by
 have H := h; clear h; unfold cubbyref07_Last.f at H
 by_cases c2 : a0 = 12
 ·rw [zC c2] at H
  obtain ⟨c2b0, c2b1⟩ := qe c2; clear c2
  obtain rfl := zI H
  go_enter Tryd.func125, Tryd.ntmps125
  go_wp2
  go_ret
  exact ⟨by first | rfl | (simp; done) | (simp [*]; done), qD⟩
 ·rw [zD c2] at H
  obtain ⟨c2b0, c2b1⟩ := qn c2
  by_cases c3 : a0 = 13
  ·rw [zC c3] at H
   obtain ⟨c3b0, c3b1⟩ := qe c3; clear c3
   obtain rfl := zI H
   go_enter Tryd.func125, Tryd.ntmps125
   go_wp2
   go_ret
   exact ⟨by first | rfl | (simp; done) | (simp [*]; done), qD⟩
  ·rw [zD c3] at H
   obtain ⟨c3b0, c3b1⟩ := qn c3
   obtain rfl := zI H
   go_enter Tryd.func125, Tryd.ntmps125
   go_wp2
   go_ret
   exact ⟨by first | rfl | (simp; done) | (simp [*]; done), qD⟩

def cubbyref07_Targets.f (a0_0 : Int) (a0_1 : Int) (a0_2 : Int) (a0_3 : Int) (a0_4 : ByteArray) (l0_5 : List Int) : Option (List Int) := (some (([] : List Int) : List Int)).bind fun y125 => (if a0_0 = 12 then (if y125.length < 17592186044416 then (some (y125 ++ [a0_2])) else (none)) else (if a0_0 = 13 then ((some (([a0_3, a0_1] : List Int) : List Int)).bind fun y131 => (if y125.length + y131.length < 17592186044416 then (some (y125 ++ y131)) else (none))) else (some y125)))
set_option maxHeartbeats 8000000 in
set_option maxRecDepth 100000 in
theorem cubbyref07_Targets.calls (a0_0 : Int) (a0_1 : Int) (a0_2 : Int) (a0_3 : Int) (a0_4 : ByteArray) (A0_5 : Option Addr) (c0_5 : Nat) (l0_5 : List Int) (r : List Int) (w : World) (hr0_5 : Kd.C (Kd.int .i64) w A0_5 l0_5.length l0_5) (hc0_5 : l0_5.length ≤ c0_5) (h : cubbyref07_Targets.f a0_0 a0_1 a0_2 a0_3 a0_4 l0_5 = some r) :
 Calls Tryd.prog 128 #[.agg #[.int .i64 a0_0, .int .i64 a0_1, .int .i64 a0_2, .int .i64 a0_3, .string a0_4, .slice A0_5 l0_5.length c0_5]] w fun e w' => ∃ v0_ : Value, e = .returned (v0_) ∧ Kd.R (Kd.int .i64) 3 w' w.heap.size (fun _ => True) v0_ r ∧ Below w.heap.size w w' := by
 have hu38 := Tryd.underlying38
 have HR0_5 := zA hr0_5
 have HC0_5 := zA hc0_5
 clear hr0_5 hc0_5
 have HB := zA (Below.refl w.heap.size w)
 have H := h; clear h; unfold cubbyref07_Targets.f at H
 obtain ⟨y125, hy125⟩ : ∃ y_ : List Int, y_ = (([] : List Int)) := ⟨_, rfl⟩
 replace H : (if a0_0 = 12 then (if y125.length < 17592186044416 then (some (y125 ++ [a0_2])) else (none)) else (if a0_0 = 13 then ((some (([a0_3, a0_1] : List Int) : List Int)).bind fun y131 => (if y125.length + y131.length < 17592186044416 then (some (y125 ++ y131)) else (none))) else (some y125))) = some r := by (try rw [hy125]); first | with_reducible exact H | exact (zJ _ _).symm.trans H | exact H
 have Ny125 := zA hy125
 clear hy125
 by_cases c2 : a0_0 = 12
 ·rw [zC c2] at H
  obtain ⟨c2b0, c2b1⟩ := qe c2; clear c2
  by_cases c3 : y125.length < 17592186044416
  ·rw [zC c3] at H
   have LMc3 := zA c3
   clear c3
   obtain ⟨y128, hy128⟩ : ∃ y_ : List Int, y_ = (y125 ++ [a0_2]) := ⟨_, rfl⟩
   replace H : (some y128) = some r := by (try rw [hy128]); first | with_reducible exact H | exact (zJ _ _).symm.trans H | exact H
   have Ny128 := zA hy128
   clear hy128
   obtain rfl := zI H
   go_enter Tryd.func128, Tryd.ntmps128
   go_wp2_with (first | ((with_reducible refine gate_dst (N := 1) rfl ?_); refine box_event (by rfl) (N := 1) (by rfl) (cs := #[.int .i64 a0_0, .int .i64 a0_1, .int .i64 a0_2, .int .i64 a0_3, .string a0_4, .slice A0_5 l0_5.length c0_5]) (t := 38) ?hr ?_; (case hr => go_simp <;> rfl); intro gb124 hg w4 hbox hb; have BK124 := zA (hbox); have GW124 := qG hg; have GE124 := GW124; replace HB := qH hb; clear hb hbox hg) | ((with_reducible refine gate_dst (N := 4) rfl ?_); refine Kd.R_lit (Kd.int .i64) _ 3 (by rfl) (N := 4) (by rfl) (xs := ([] : List Int)) (inner := []) (ok := fun _ => True) (okp := fun _ => True) ?hr ?hp (fun _ hk => hk) trivial (Below.refl _ _) (Nat.le_refl _) (by simp) ?_; (case hr => go_simp <;> rfl); (case hp => exact (Reps.none _ _)); intro v126 w5 ho6 hb hg_ hnew_; clear hg_ hnew_; (first | rw [← Ny125.out] at ho6 | (simp only [Int.reduceToNat] at ho6; rw [← Ny125.out] at ho6)); have HO127 := zA (Kd.R_lower ho6 (below_size qB)); replace BK124 := qW BK124 hb; replace HB := qH hb; clear hb ho6; have z7_0 := bk6 BK124.out) | ((with_reducible refine gate_builtin (b := .append) (xs := #[.tmp 8, .tmp 11]) rfl ?_); at_builtin; refine Kd.R_append (Kd.int .i64) (w0 := w) w.heap.size rfl (.tmp 8) (.tmp 11) 35 3 (.int .i64 0) 8 rfl Tryd.underlying35 info3 rfl (by decide) (by omega) v126 y125 a0_2 [.int .i64 a0_2] (fun _ => True) (fun _ => False) rfl rfl ?aP (fun _ hk => hk.elim) ?aF ?aO ?aB ?aS ?aL ?_; (case aP => exact rfl); (case aB => exact qB); (case aF => exact (fun _ _ => trivial)); (case aO => exact (qR HO127.out)); (case aS => exact (below_size qB)); (case aL => have := LMc3.out; omega); intro v129 w8 ho hb hg hat; rw [← Ny128.out] at ho; replace BK124 := zA (blk_grown (qK BK124.out) hg (Kd.R_ne HO127.out BK124.out (by decide))); replace HB := zA (hb); have HO130 := zA (ho); clear HO127; clear ho hb hg hat))
   go_ret
   exact ⟨_, qE, qR HO130.out, qB⟩
  ·rw [zD c3] at H
   exact absurd H (by simp)
 ·rw [zD c2] at H
  obtain ⟨c2b0, c2b1⟩ := qn c2
  by_cases c9 : a0_0 = 13
  ·rw [zC c9] at H
   obtain ⟨c9b0, c9b1⟩ := qe c9; clear c9
   obtain ⟨y131, hy131⟩ : ∃ y_ : List Int, y_ = (([a0_3, a0_1] : List Int)) := ⟨_, rfl⟩
   replace H : (if y125.length + y131.length < 17592186044416 then (some (y125 ++ y131)) else (none)) = some r := by (try rw [hy131]); first | with_reducible exact H | exact (zJ _ _).symm.trans H | exact H
   have Ny131 := zA hy131
   clear hy131
   by_cases c10 : y125.length + y131.length < 17592186044416
   ·rw [zC c10] at H
    have LMc10 := zA c10
    clear c10
    obtain ⟨y134, hy134⟩ : ∃ y_ : List Int, y_ = (y125 ++ y131) := ⟨_, rfl⟩
    replace H : (some y134) = some r := by (try rw [hy134]); first | with_reducible exact H | exact (zJ _ _).symm.trans H | exact H
    have Ny134 := zA hy134
    clear hy134
    obtain rfl := zI H
    go_enter Tryd.func128, Tryd.ntmps128
    go_wp2_with (first | ((with_reducible refine gate_dst (N := 1) rfl ?_); refine box_event (by rfl) (N := 1) (by rfl) (cs := #[.int .i64 a0_0, .int .i64 a0_1, .int .i64 a0_2, .int .i64 a0_3, .string a0_4, .slice A0_5 l0_5.length c0_5]) (t := 38) ?hr ?_; (case hr => go_simp <;> rfl); intro gb124 hg w11 hbox hb; have BK124 := zA (hbox); have GW124 := qG hg; have GE124 := GW124; replace HB := qH hb; clear hb hbox hg) | ((with_reducible refine gate_dst (N := 4) rfl ?_); refine Kd.R_lit (Kd.int .i64) _ 3 (by rfl) (N := 4) (by rfl) (xs := ([] : List Int)) (inner := []) (ok := fun _ => True) (okp := fun _ => True) ?hr ?hp (fun _ hk => hk) trivial (Below.refl _ _) (Nat.le_refl _) (by simp) ?_; (case hr => go_simp <;> rfl); (case hp => exact (Reps.none _ _)); intro v126 w12 ho13 hb hg_ hnew_; clear hg_ hnew_; (first | rw [← Ny125.out] at ho13 | (simp only [Int.reduceToNat] at ho13; rw [← Ny125.out] at ho13)); have HO127 := zA (Kd.R_lower ho13 (below_size qB)); replace BK124 := qW BK124 hb; replace HB := qH hb; clear hb ho13; have z14_0 := bk6 BK124.out) | ((with_reducible refine gate_dst (N := 21) rfl ?_); refine Kd.R_lit (Kd.int .i64) _ 3 (by rfl) (N := 21) (by rfl) (xs := ([a0_3, a0_1] : List Int)) (inner := [.int .i64 a0_3, .int .i64 a0_1]) (ok := fun _ => True) (okp := fun _ => True) ?hr ?hp (fun _ hk => hk) trivial (Below.refl _ _) (Nat.le_refl _) (by simp) ?_; (case hr => go_simp <;> rfl); (case hp => exact (Reps.one (show Kd.M (Kd.int .i64) _ _ _ a0_3 [.int .i64 a0_3] from rfl) (Reps.one (show Kd.M (Kd.int .i64) _ _ _ a0_1 [.int .i64 a0_1] from rfl) (Reps.none _ _)))); intro v132 w15 ho16 hb hg_ hnew_; clear hg_ hnew_; (first | rw [← Ny131.out] at ho16 | (simp only [Int.reduceToNat] at ho16; rw [← Ny131.out] at ho16)); have HO133 := zA (Kd.R_lower (Kd.R_new' ho16 (Kd.R_lt (qR HO127.out))) (below_size qB)); replace HO127 := zA (Kd.R_elder' (qR HO127.out) (Kd.R_base ho16) hb); replace BK124 := qW BK124 hb; replace HB := qH hb; clear hb ho16; obtain ⟨Ao18, co18, eo18⟩ := Kd.R_slice HO133.out; subst eo18) | ((with_reducible refine gate_builtin (b := .append) (xs := #[.tmp 16, .tmp 21]) rfl ?_); at_builtin; refine Kd.R_append_rows (Kd.int .i64) (w0 := w) w.heap.size rfl (.tmp 16) (.tmp 21) 35 3 (.int .i64 0) 8 rfl Tryd.underlying35 info3 rfl (by decide) (by omega) v126 y125 y131 _ _ _ (fun k_ => some k_ ≠ (.slice Ao18 y131.length co18 : Value).ownBlock) (fun _ => False) rfl rfl ?aO ?aR (fun _ _ h => h) (fun _ h => h.elim) ?aF ?aB ?aS ?aL ?_; (case aR => repeat (first | exact (Kd.R_reads' HO133.out).2.2 | (with_reducible refine Kd.C_alloc ?_ _) | (with_reducible refine Kd.C_drewN ?_ _) | (with_reducible refine Kd.C_drew ?_))); (case aB => exact qB); (case aF => exact (fun k_ hk => Kd.fresh' (Kd.R_lt (qR HO133.out)) k_ hk)); (case aO => exact (by (with_reducible repeat (first | apply Kd.R_alloc | apply Kd.R_drewN | apply Kd.R_drew)); exact Kd.R_mono HO127.out (fun _ hk => hk.2))); (case aS => exact (below_size qB)); (case aL => have := LMc10.out; omega); intro v135 w17 ho hb hg hat; rw [← Ny134.out] at ho; replace BK124 := zA (blk_grown (qK BK124.out) hg (Kd.R_ne HO127.out BK124.out (by decide))); replace HO133 := zA (Kd.R_after (ok := (fun _ => True)) (qR HO133.out) hg hat); replace HB := zA (hb); have HO136 := zA (ho); clear HO127; clear ho hb hg hat))
    go_ret
    exact ⟨_, qE, by (with_reducible repeat (first | apply Kd.R_alloc | apply Kd.R_drewN | apply Kd.R_drew)); exact Kd.R_mono HO136.out (fun _ hk => trivial), qB⟩
   ·rw [zD c10] at H
    exact absurd H (by simp)
  ·rw [zD c9] at H
   obtain ⟨c9b0, c9b1⟩ := qn c9
   obtain rfl := zI H
   go_enter Tryd.func128, Tryd.ntmps128
   go_wp2_with (first | ((with_reducible refine gate_dst (N := 1) rfl ?_); refine box_event (by rfl) (N := 1) (by rfl) (cs := #[.int .i64 a0_0, .int .i64 a0_1, .int .i64 a0_2, .int .i64 a0_3, .string a0_4, .slice A0_5 l0_5.length c0_5]) (t := 38) ?hr ?_; (case hr => go_simp <;> rfl); intro gb124 hg w19 hbox hb; have BK124 := zA (hbox); have GW124 := qG hg; have GE124 := GW124; replace HB := qH hb; clear hb hbox hg) | ((with_reducible refine gate_dst (N := 4) rfl ?_); refine Kd.R_lit (Kd.int .i64) _ 3 (by rfl) (N := 4) (by rfl) (xs := ([] : List Int)) (inner := []) (ok := fun _ => True) (okp := fun _ => True) ?hr ?hp (fun _ hk => hk) trivial (Below.refl _ _) (Nat.le_refl _) (by simp) ?_; (case hr => go_simp <;> rfl); (case hp => exact (Reps.none _ _)); intro v126 w20 ho21 hb hg_ hnew_; clear hg_ hnew_; (first | rw [← Ny125.out] at ho21 | (simp only [Int.reduceToNat] at ho21; rw [← Ny125.out] at ho21)); have HO127 := zA (Kd.R_lower ho21 (below_size qB)); replace BK124 := qW BK124 hb; replace HB := qH hb; clear hb ho21; have z22_0 := bk6 BK124.out))
   go_ret
   exact ⟨_, qE, qR HO127.out, qB⟩

mutual
def cubbyref07_Uses.j0 : Nat → List Int → Int → Bool → Int → Int → Int → Int → ByteArray → List Int → Option (List Int)
 | 0, _, _, _, _, _, _, _, _, _ => none
 | k + 1, x3, x6, x7, x105000, x105001, x105002, x105003, x105004, x105005 => if x7 = true then (if x3.length < 17592186044416 then (some (x3 ++ [x105002])) else (none)) else (if x6 = 3 then (cubbyref07_Uses.j1 k x3 x6 (x6 == 3) x105000 x105001 x105002 x105003 x105004 x105005) else (if x6 = 4 then (cubbyref07_Uses.j1 k x3 x6 (x6 == 4) x105000 x105001 x105002 x105003 x105004 x105005) else (if x6 = 5 then (cubbyref07_Uses.j1 k x3 x6 (x6 == 5) x105000 x105001 x105002 x105003 x105004 x105005) else (if x6 = 6 then (cubbyref07_Uses.j1 k x3 x6 (x6 == 6) x105000 x105001 x105002 x105003 x105004 x105005) else (if x6 = 7 then (cubbyref07_Uses.j1 k x3 x6 (x6 == 7) x105000 x105001 x105002 x105003 x105004 x105005) else (cubbyref07_Uses.j1 k x3 x6 (x6 == 9) x105000 x105001 x105002 x105003 x105004 x105005))))))
def cubbyref07_Uses.j1 : Nat → List Int → Int → Bool → Int → Int → Int → Int → ByteArray → List Int → Option (List Int)
 | 0, _, _, _, _, _, _, _, _, _ => none
 | k + 1, x3, x6, x18, x105000, x105001, x105002, x105003, x105004, x105005 => if x18 = true then ((some (([x105002, x105003] : List Int) : List Int)).bind fun y111 => (if x3.length + y111.length < 17592186044416 then (some (x3 ++ y111)) else (none))) else (if x6 = 11 then (if x3.length + x105005.length < 17592186044416 then (some (x3 ++ x105005)) else (none)) else (some x3))
end
def cubbyref07_Uses.f (k : Nat) (a0_0 : Int) (a0_1 : Int) (a0_2 : Int) (a0_3 : Int) (a0_4 : ByteArray) (l0_5 : List Int) : Option (List Int) := (some (([] : List Int) : List Int)).bind fun y105 => (if a0_0 = 2 then (cubbyref07_Uses.j0 k y105 a0_0 (a0_0 == 2) a0_0 a0_1 a0_2 a0_3 a0_4 l0_5) else (if a0_0 = 8 then (cubbyref07_Uses.j0 k y105 a0_0 (a0_0 == 8) a0_0 a0_1 a0_2 a0_3 a0_4 l0_5) else (if a0_0 = 10 then (cubbyref07_Uses.j0 k y105 a0_0 (a0_0 == 10) a0_0 a0_1 a0_2 a0_3 a0_4 l0_5) else (if a0_0 = 14 then (cubbyref07_Uses.j0 k y105 a0_0 (a0_0 == 14) a0_0 a0_1 a0_2 a0_3 a0_4 l0_5) else (cubbyref07_Uses.j0 k y105 a0_0 (a0_0 == 13) a0_0 a0_1 a0_2 a0_3 a0_4 l0_5)))))
set_option maxHeartbeats 8000000 in
set_option maxRecDepth 100000 in
theorem cubbyref07_Uses.calls (k : Nat) (a0_0 : Int) (a0_1 : Int) (a0_2 : Int) (a0_3 : Int) (a0_4 : ByteArray) (A0_5 : Option Addr) (c0_5 : Nat) (l0_5 : List Int) (r : List Int) (w : World) (hr0_5 : Kd.C (Kd.int .i64) w A0_5 l0_5.length l0_5) (hc0_5 : l0_5.length ≤ c0_5) (h : cubbyref07_Uses.f k a0_0 a0_1 a0_2 a0_3 a0_4 l0_5 = some r) :
 Calls Tryd.prog 17 #[.agg #[.int .i64 a0_0, .int .i64 a0_1, .int .i64 a0_2, .int .i64 a0_3, .string a0_4, .slice A0_5 l0_5.length c0_5]] w fun e w' => ∃ v0_ : Value, e = .returned (v0_) ∧ Kd.R (Kd.int .i64) 3 w' w.heap.size (fun _ => True) v0_ r ∧ Below w.heap.size w w' := by
 have hu38 := Tryd.underlying38
 have HR0_5 := zA hr0_5
 have HC0_5 := zA hc0_5
 clear hr0_5 hc0_5
 have HB := zA (Below.refl w.heap.size w)
 have H := h; clear h; unfold cubbyref07_Uses.f at H
 obtain ⟨y105, hy105⟩ : ∃ y_ : List Int, y_ = (([] : List Int)) := ⟨_, rfl⟩
 replace H : (if a0_0 = 2 then (cubbyref07_Uses.j0 k y105 a0_0 (a0_0 == 2) a0_0 a0_1 a0_2 a0_3 a0_4 l0_5) else (if a0_0 = 8 then (cubbyref07_Uses.j0 k y105 a0_0 (a0_0 == 8) a0_0 a0_1 a0_2 a0_3 a0_4 l0_5) else (if a0_0 = 10 then (cubbyref07_Uses.j0 k y105 a0_0 (a0_0 == 10) a0_0 a0_1 a0_2 a0_3 a0_4 l0_5) else (if a0_0 = 14 then (cubbyref07_Uses.j0 k y105 a0_0 (a0_0 == 14) a0_0 a0_1 a0_2 a0_3 a0_4 l0_5) else (cubbyref07_Uses.j0 k y105 a0_0 (a0_0 == 13) a0_0 a0_1 a0_2 a0_3 a0_4 l0_5))))) = some r := by (try rw [hy105]); first | with_reducible exact H | exact (zJ _ _).symm.trans H | exact H
 have Ny105 := zA hy105
 clear hy105
 have HC2 := zA H
 clear H
 go_enter Tryd.func17, Tryd.ntmps17
 go_upto_if 7 with (first | ((with_reducible refine gate_dst (N := 1) rfl ?_); refine box_event (by rfl) (N := 1) (by rfl) (cs := #[.int .i64 a0_0, .int .i64 a0_1, .int .i64 a0_2, .int .i64 a0_3, .string a0_4, .slice A0_5 l0_5.length c0_5]) (t := 38) ?hr ?_; (case hr => go_simp <;> rfl); intro gb104 hg w3 hbox hb; have BK104 := zA (hbox); have GW104 := qG hg; have GE104 := GW104; replace HB := qH hb; clear hb hbox hg) | ((with_reducible refine gate_dst (N := 4) rfl ?_); refine Kd.R_lit (Kd.int .i64) _ 3 (by rfl) (N := 4) (by rfl) (xs := ([] : List Int)) (inner := []) (ok := fun _ => True) (okp := fun _ => True) ?hr ?hp (fun _ hk => hk) trivial (Below.refl _ _) (Nat.le_refl _) (by simp) ?_; (case hr => go_simp <;> rfl); (case hp => exact (Reps.none _ _)); intro v106 w4 ho5 hb hg_ hnew_; clear hg_ hnew_; (first | rw [← Ny105.out] at ho5 | (simp only [Int.reduceToNat] at ho5; rw [← Ny105.out] at ho5)); have HO107 := zA (Kd.R_lower ho5 (below_size qB)); replace BK104 := qW BK104 hb; replace HB := qH hb; clear hb ho5; have z6_0 := bk6 BK104.out))
 (try simp only [Act.put, List.setIfInBounds_toArray, List.set_cons_zero, List.set_cons_succ])
 go_cut [7] (fun v7 wc => ∃ (kq : Nat) (x7_1 : Bool), v7 = .bool x7_1 ∧ Aside0 (cubbyref07_Uses.j0 kq y105 a0_0 x7_1 a0_0 a0_1 a0_2 a0_3 a0_4 l0_5 = some r) ∧ Aside0 (kq ≤ k) ∧ Aside0 (Kd.R (Kd.int .i64) 3 wc w.heap.size (fun _ => True) v106 y105) ∧ Aside0 (wc.heap[gb104]? = some (.cells #[.int .i64 a0_0, .int .i64 a0_1, .int .i64 a0_2, .int .i64 a0_3, .string a0_4, (.slice A0_5 l0_5.length c0_5)] 38 (0, 0))) ∧ Aside0 (Below w.heap.size w wc))
 case first =>
  have H := HC2.out
  clear HC2
  by_cases c7 : a0_0 = 2
  ·rw [zC c7] at H
   obtain ⟨c7b0, c7b1⟩ := qe c7; clear c7
   (first | rw [c7b0] | (simp only [i64_w, i32_w]; rw [c7b0]) | skip)
   have H' := zA H
   clear H
   go_wp2
   go_meet
   case rel => exact ⟨_, ((a0_0 == 2)), qT, H', ⟨qO⟩, ⟨qR HO107.out⟩, ⟨qK BK104.out⟩, ⟨qB⟩⟩
  ·rw [zD c7] at H
   obtain ⟨c7b0, c7b1⟩ := qn c7
   (first | rw [c7b0] | (simp only [i64_w, i32_w]; rw [c7b0]) | skip)
   by_cases c8 : a0_0 = 8
   ·rw [zC c8] at H
    obtain ⟨c8b0, c8b1⟩ := qe c8; clear c8
    have H' := zA H
    clear H
    go_wp2
    go_meet
    case rel => exact ⟨_, ((a0_0 == 8)), qT, H', ⟨qO⟩, ⟨qR HO107.out⟩, ⟨qK BK104.out⟩, ⟨qB⟩⟩
   ·rw [zD c8] at H
    obtain ⟨c8b0, c8b1⟩ := qn c8
    by_cases c9 : a0_0 = 10
    ·rw [zC c9] at H
     obtain ⟨c9b0, c9b1⟩ := qe c9; clear c9
     have H' := zA H
     clear H
     go_wp2
     go_meet
     case rel => exact ⟨_, ((a0_0 == 10)), qT, H', ⟨qO⟩, ⟨qR HO107.out⟩, ⟨qK BK104.out⟩, ⟨qB⟩⟩
    ·rw [zD c9] at H
     obtain ⟨c9b0, c9b1⟩ := qn c9
     by_cases c10 : a0_0 = 14
     ·rw [zC c10] at H
      obtain ⟨c10b0, c10b1⟩ := qe c10; clear c10
      have H' := zA H
      clear H
      go_wp2
      go_meet
      case rel => exact ⟨_, ((a0_0 == 14)), qT, H', ⟨qO⟩, ⟨qR HO107.out⟩, ⟨qK BK104.out⟩, ⟨qB⟩⟩
     ·rw [zD c10] at H
      obtain ⟨c10b0, c10b1⟩ := qn c10
      have H' := zA H
      clear H
      go_wp2
      go_meet
      case rel => exact ⟨_, ((a0_0 == 13)), qT, H', ⟨qO⟩, ⟨qR HO107.out⟩, ⟨qK BK104.out⟩, ⟨qB⟩⟩
 case rest =>
  clear HC2
  obtain ⟨kq, x7_1, rfl, HA, HJ1, HO_3, BK104, HB⟩ := hcut
  cases kq with
  | zero => exact absurd HA.out (by simp [cubbyref07_Uses.j0])
  | succ kj1 =>
   have H := HA.out
   clear HA
   simp only [cubbyref07_Uses.j0] at H
   by_cases c11 : x7_1 = true
   ·subst c11
    have H1 : (if y105.length < 17592186044416 then (some (y105 ++ [a0_2])) else (none)) = some r := by rw [zC rfl] at H; exact H
    clear H
    have H := H1
    clear H1
    by_cases c12 : y105.length < 17592186044416
    ·rw [zC c12] at H
     have LMc12 := zA c12
     clear c12
     obtain ⟨y108, hy108⟩ : ∃ y_ : List Int, y_ = (y105 ++ [a0_2]) := ⟨_, rfl⟩
     replace H : (some y108) = some r := by (try rw [hy108]); first | with_reducible exact H | exact (zJ _ _).symm.trans H | exact H
     have Ny108 := zA hy108
     clear hy108
     obtain rfl := zI H
     have z13_0 := bk6 BK104.out
     go_wp2_with (first | ((with_reducible refine gate_builtin (b := .append) (xs := #[.tmp 13, .tmp 16]) rfl ?_); at_builtin; refine Kd.R_append (Kd.int .i64) (w0 := w) w.heap.size rfl (.tmp 13) (.tmp 16) 35 3 (.int .i64 0) 8 rfl Tryd.underlying35 info3 rfl (by decide) (by omega) v106 y105 a0_2 [.int .i64 a0_2] (fun _ => True) (fun _ => False) rfl rfl ?aP (fun _ hk => hk.elim) ?aF ?aO ?aB ?aS ?aL ?_; (case aP => exact rfl); (case aB => exact qB); (case aF => exact (fun _ _ => trivial)); (case aO => exact (qR HO_3.out)); (case aS => exact (below_size qB)); (case aL => have := LMc12.out; omega); intro v109 w14 ho hb hg hat; rw [← Ny108.out] at ho; replace BK104 := zA (blk_grown (qK BK104.out) hg (Kd.R_ne HO_3.out BK104.out (by decide))); replace HB := zA (hb); have HO110 := zA (ho); clear HO_3; clear ho hb hg hat))
     go_ret
     exact ⟨_, qE, qR HO110.out, qB⟩
    ·rw [zD c12] at H
     exact absurd H (by simp)
   ·replace c11 := Bool.eq_false_iff.mpr c11
    subst c11
    have H1 : (if a0_0 = 3 then (cubbyref07_Uses.j1 kj1 y105 a0_0 (a0_0 == 3) a0_0 a0_1 a0_2 a0_3 a0_4 l0_5) else (if a0_0 = 4 then (cubbyref07_Uses.j1 kj1 y105 a0_0 (a0_0 == 4) a0_0 a0_1 a0_2 a0_3 a0_4 l0_5) else (if a0_0 = 5 then (cubbyref07_Uses.j1 kj1 y105 a0_0 (a0_0 == 5) a0_0 a0_1 a0_2 a0_3 a0_4 l0_5) else (if a0_0 = 6 then (cubbyref07_Uses.j1 kj1 y105 a0_0 (a0_0 == 6) a0_0 a0_1 a0_2 a0_3 a0_4 l0_5) else (if a0_0 = 7 then (cubbyref07_Uses.j1 kj1 y105 a0_0 (a0_0 == 7) a0_0 a0_1 a0_2 a0_3 a0_4 l0_5) else (cubbyref07_Uses.j1 kj1 y105 a0_0 (a0_0 == 9) a0_0 a0_1 a0_2 a0_3 a0_4 l0_5)))))) = some r := by rw [zD (show ¬ (false = true) by decide)] at H; exact H
    clear H
    have H := H1
    clear H1
    have HC15 := zA H
    clear H
    go_upto_if 18 with (fail)
    go_cut [18] (fun v18 wc => ∃ (kq : Nat) (x18_14 : Bool), v18 = .bool x18_14 ∧ Aside0 (cubbyref07_Uses.j1 kq y105 a0_0 x18_14 a0_0 a0_1 a0_2 a0_3 a0_4 l0_5 = some r) ∧ Aside0 (kq ≤ kj1) ∧ Aside0 (Kd.R (Kd.int .i64) 3 wc w.heap.size (fun _ => True) v106 y105) ∧ Aside0 (wc.heap[gb104]? = some (.cells #[.int .i64 a0_0, .int .i64 a0_1, .int .i64 a0_2, .int .i64 a0_3, .string a0_4, (.slice A0_5 l0_5.length c0_5)] 38 (0, 0))) ∧ Aside0 (Below w.heap.size w wc))
    case first =>
     have H := HC15.out
     clear HC15
     by_cases c16 : a0_0 = 3
     ·rw [zC c16] at H
      obtain ⟨c16b0, c16b1⟩ := qe c16; clear c16
      (first | rw [c16b0] | (simp only [i64_w, i32_w]; rw [c16b0]) | skip)
      have H' := zA H
      clear H
      go_wp2
      go_meet
      case rel => exact ⟨_, ((a0_0 == 3)), qT, H', ⟨by have := HJ1.out; first | omega | exact Nat.le_refl _⟩, ⟨qR HO_3.out⟩, ⟨qK BK104.out⟩, ⟨qB⟩⟩
     ·rw [zD c16] at H
      obtain ⟨c16b0, c16b1⟩ := qn c16
      (first | rw [c16b0] | (simp only [i64_w, i32_w]; rw [c16b0]) | skip)
      by_cases c17 : a0_0 = 4
      ·rw [zC c17] at H
       obtain ⟨c17b0, c17b1⟩ := qe c17; clear c17
       have H' := zA H
       clear H
       go_wp2
       go_meet
       case rel => exact ⟨_, ((a0_0 == 4)), qT, H', ⟨by have := HJ1.out; first | omega | exact Nat.le_refl _⟩, ⟨qR HO_3.out⟩, ⟨qK BK104.out⟩, ⟨qB⟩⟩
      ·rw [zD c17] at H
       obtain ⟨c17b0, c17b1⟩ := qn c17
       by_cases c18 : a0_0 = 5
       ·rw [zC c18] at H
        obtain ⟨c18b0, c18b1⟩ := qe c18; clear c18
        have H' := zA H
        clear H
        go_wp2
        go_meet
        case rel => exact ⟨_, ((a0_0 == 5)), qT, H', ⟨by have := HJ1.out; first | omega | exact Nat.le_refl _⟩, ⟨qR HO_3.out⟩, ⟨qK BK104.out⟩, ⟨qB⟩⟩
       ·rw [zD c18] at H
        obtain ⟨c18b0, c18b1⟩ := qn c18
        by_cases c19 : a0_0 = 6
        ·rw [zC c19] at H
         obtain ⟨c19b0, c19b1⟩ := qe c19; clear c19
         have H' := zA H
         clear H
         go_wp2
         go_meet
         case rel => exact ⟨_, ((a0_0 == 6)), qT, H', ⟨by have := HJ1.out; first | omega | exact Nat.le_refl _⟩, ⟨qR HO_3.out⟩, ⟨qK BK104.out⟩, ⟨qB⟩⟩
        ·rw [zD c19] at H
         obtain ⟨c19b0, c19b1⟩ := qn c19
         by_cases c20 : a0_0 = 7
         ·rw [zC c20] at H
          obtain ⟨c20b0, c20b1⟩ := qe c20; clear c20
          have H' := zA H
          clear H
          go_wp2
          go_meet
          case rel => exact ⟨_, ((a0_0 == 7)), qT, H', ⟨by have := HJ1.out; first | omega | exact Nat.le_refl _⟩, ⟨qR HO_3.out⟩, ⟨qK BK104.out⟩, ⟨qB⟩⟩
         ·rw [zD c20] at H
          obtain ⟨c20b0, c20b1⟩ := qn c20
          have H' := zA H
          clear H
          go_wp2
          go_meet
          case rel => exact ⟨_, ((a0_0 == 9)), qT, H', ⟨by have := HJ1.out; first | omega | exact Nat.le_refl _⟩, ⟨qR HO_3.out⟩, ⟨qK BK104.out⟩, ⟨qB⟩⟩
    case rest =>
     clear HC15
     obtain ⟨kq, x18_14, rfl, HA, HJ14, HO_3, BK104, HB⟩ := hcut
     cases kq with
     | zero => exact absurd HA.out (by simp [cubbyref07_Uses.j1])
     | succ kj14 =>
      have H := HA.out
      clear HA
      simp only [cubbyref07_Uses.j1] at H
      by_cases c21 : x18_14 = true
      ·subst c21
       have H1 : ((some (([a0_2, a0_3] : List Int) : List Int)).bind fun y111 => (if y105.length + y111.length < 17592186044416 then (some (y105 ++ y111)) else (none))) = some r := by rw [zC rfl] at H; exact H
       clear H
       have H := H1
       clear H1
       obtain ⟨y111, hy111⟩ : ∃ y_ : List Int, y_ = (([a0_2, a0_3] : List Int)) := ⟨_, rfl⟩
       replace H : (if y105.length + y111.length < 17592186044416 then (some (y105 ++ y111)) else (none)) = some r := by (try rw [hy111]); first | with_reducible exact H | exact (zJ _ _).symm.trans H | exact H
       have Ny111 := zA hy111
       clear hy111
       by_cases c22 : y105.length + y111.length < 17592186044416
       ·rw [zC c22] at H
        have LMc22 := zA c22
        clear c22
        obtain ⟨y114, hy114⟩ : ∃ y_ : List Int, y_ = (y105 ++ y111) := ⟨_, rfl⟩
        replace H : (some y114) = some r := by (try rw [hy114]); first | with_reducible exact H | exact (zJ _ _).symm.trans H | exact H
        have Ny114 := zA hy114
        clear hy114
        obtain rfl := zI H
        have z23_0 := bk6 BK104.out
        go_wp2_with (first | ((with_reducible refine gate_dst (N := 30) rfl ?_); refine Kd.R_lit (Kd.int .i64) _ 3 (by rfl) (N := 30) (by rfl) (xs := ([a0_2, a0_3] : List Int)) (inner := [.int .i64 a0_2, .int .i64 a0_3]) (ok := fun _ => True) (okp := fun _ => True) ?hr ?hp (fun _ hk => hk) trivial (Below.refl _ _) (Nat.le_refl _) (by simp) ?_; (case hr => go_simp <;> rfl); (case hp => exact (Reps.one (show Kd.M (Kd.int .i64) _ _ _ a0_2 [.int .i64 a0_2] from rfl) (Reps.one (show Kd.M (Kd.int .i64) _ _ _ a0_3 [.int .i64 a0_3] from rfl) (Reps.none _ _)))); intro v112 w24 ho25 hb hg_ hnew_; clear hg_ hnew_; (first | rw [← Ny111.out] at ho25 | (simp only [Int.reduceToNat] at ho25; rw [← Ny111.out] at ho25)); have HO113 := zA (Kd.R_lower (Kd.R_new' ho25 (Kd.R_lt (qR HO_3.out))) (below_size qB)); replace HO_3 := zA (Kd.R_elder' (qR HO_3.out) (Kd.R_base ho25) hb); replace BK104 := qW BK104 hb; replace HB := qH hb; clear hb ho25; obtain ⟨Ao27, co27, eo27⟩ := Kd.R_slice HO113.out; subst eo27) | ((with_reducible refine gate_builtin (b := .append) (xs := #[.tmp 25, .tmp 30]) rfl ?_); at_builtin; refine Kd.R_append_rows (Kd.int .i64) (w0 := w) w.heap.size rfl (.tmp 25) (.tmp 30) 35 3 (.int .i64 0) 8 rfl Tryd.underlying35 info3 rfl (by decide) (by omega) v106 y105 y111 _ _ _ (fun k_ => some k_ ≠ (.slice Ao27 y111.length co27 : Value).ownBlock) (fun _ => False) rfl rfl ?aO ?aR (fun _ _ h => h) (fun _ h => h.elim) ?aF ?aB ?aS ?aL ?_; (case aR => repeat (first | exact (Kd.R_reads' HO113.out).2.2 | (with_reducible refine Kd.C_alloc ?_ _) | (with_reducible refine Kd.C_drewN ?_ _) | (with_reducible refine Kd.C_drew ?_))); (case aB => exact qB); (case aF => exact (fun k_ hk => Kd.fresh' (Kd.R_lt (qR HO113.out)) k_ hk)); (case aO => exact (by (with_reducible repeat (first | apply Kd.R_alloc | apply Kd.R_drewN | apply Kd.R_drew)); exact Kd.R_mono HO_3.out (fun _ hk => hk.2))); (case aS => exact (below_size qB)); (case aL => have := LMc22.out; omega); intro v115 w26 ho hb hg hat; rw [← Ny114.out] at ho; replace BK104 := zA (blk_grown (qK BK104.out) hg (Kd.R_ne HO_3.out BK104.out (by decide))); replace HO113 := zA (Kd.R_after (ok := (fun _ => True)) (qR HO113.out) hg hat); replace HB := zA (hb); have HO116 := zA (ho); clear HO_3; clear ho hb hg hat))
        go_ret
        exact ⟨_, qE, by (with_reducible repeat (first | apply Kd.R_alloc | apply Kd.R_drewN | apply Kd.R_drew)); exact Kd.R_mono HO116.out (fun _ hk => trivial), qB⟩
       ·rw [zD c22] at H
        exact absurd H (by simp)
      ·replace c21 := Bool.eq_false_iff.mpr c21
       subst c21
       have H1 : (if a0_0 = 11 then (if y105.length + l0_5.length < 17592186044416 then (some (y105 ++ l0_5)) else (none)) else (some y105)) = some r := by rw [zD (show ¬ (false = true) by decide)] at H; exact H
       clear H
       have H := H1
       clear H1
       by_cases c28 : a0_0 = 11
       ·rw [zC c28] at H
        obtain ⟨c28b0, c28b1⟩ := qe c28; clear c28
        by_cases c29 : y105.length + l0_5.length < 17592186044416
        ·rw [zC c29] at H
         have LMc29 := zA c29
         clear c29
         obtain ⟨y117, hy117⟩ : ∃ y_ : List Int, y_ = (y105 ++ l0_5) := ⟨_, rfl⟩
         replace H : (some y117) = some r := by (try rw [hy117]); first | with_reducible exact H | exact (zJ _ _).symm.trans H | exact H
         have Ny117 := zA hy117
         clear hy117
         obtain rfl := zI H
         have z30_0 := bk6 BK104.out
         go_wp2_with (first | ((with_reducible refine gate_builtin (b := .append) (xs := #[.tmp 34, .tmp 36]) rfl ?_); at_builtin; refine Kd.R_append_rows (Kd.int .i64) (w0 := w) w.heap.size rfl (.tmp 34) (.tmp 36) 35 3 (.int .i64 0) 8 rfl Tryd.underlying35 info3 rfl (by decide) (by omega) v106 y105 l0_5 _ _ _ (fun _ => True) (fun _ => False) rfl rfl ?aO ?aR (fun _ _ h => h) (fun _ h => h.elim) ?aF ?aB ?aS ?aL ?_; (case aR => exact qCB HR0_5.out); (case aB => exact qB); (case aF => exact (fun _ _ => trivial)); (case aO => exact (qR HO_3.out)); (case aS => exact (below_size qB)); (case aL => have := LMc29.out; omega); intro v118 w31 ho hb hg hat; rw [← Ny117.out] at ho; replace BK104 := zA (blk_grown (qK BK104.out) hg (Kd.R_ne HO_3.out BK104.out (by decide))); replace HB := zA (hb); have HO119 := zA (ho); clear HO_3; clear ho hb hg hat))
         go_ret
         exact ⟨_, qE, qR HO119.out, qB⟩
        ·rw [zD c29] at H
         exact absurd H (by simp)
       ·rw [zD c28] at H
        obtain ⟨c28b0, c28b1⟩ := qn c28
        obtain rfl := zI H
        go_wp2
        go_ret
        exact ⟨_, qE, qR HO_3.out, qB⟩

mutual
def cubbyref07_bare.j0 : Nat → Bool → Int → Int → Int → Int → ByteArray → List Int → Option (Bool)
 | 0, _, _, _, _, _, _, _ => none
 | k + 1, x16, x122000, x122001, x122002, x122003, x122004, x122005 => if x16 = true then (some false) else (if x122000 = 1 then (cubbyref07_bare.j1 k x122000 (x122000 == 1) x122000 x122001 x122002 x122003 x122004 x122005) else (if x122000 = 2 then (cubbyref07_bare.j1 k x122000 (x122000 == 2) x122000 x122001 x122002 x122003 x122004 x122005) else (cubbyref07_bare.j1 k x122000 (x122000 == 8) x122000 x122001 x122002 x122003 x122004 x122005)))
def cubbyref07_bare.j1 : Nat → Int → Bool → Int → Int → Int → Int → ByteArray → List Int → Option (Bool)
 | 0, _, _, _, _, _, _, _, _ => none
 | k + 1, x18, x19, x122000, x122001, x122002, x122003, x122004, x122005 => if x19 = true then (some (x122003 == 0)) else (if x18 = 3 then (cubbyref07_bare.j2 k x18 (x18 == 3) x122000 x122001 x122002 x122003 x122004 x122005) else (if x18 = 4 then (cubbyref07_bare.j2 k x18 (x18 == 4) x122000 x122001 x122002 x122003 x122004 x122005) else (if x18 = 5 then (cubbyref07_bare.j2 k x18 (x18 == 5) x122000 x122001 x122002 x122003 x122004 x122005) else (if x18 = 6 then (cubbyref07_bare.j2 k x18 (x18 == 6) x122000 x122001 x122002 x122003 x122004 x122005) else (if x18 = 7 then (cubbyref07_bare.j2 k x18 (x18 == 7) x122000 x122001 x122002 x122003 x122004 x122005) else (cubbyref07_bare.j2 k x18 (x18 == 13) x122000 x122001 x122002 x122003 x122004 x122005))))))
def cubbyref07_bare.j2 : Nat → Int → Bool → Int → Int → Int → Int → ByteArray → List Int → Option (Bool)
 | 0, _, _, _, _, _, _, _, _ => none
 | k + 1, x18, x26, x122000, x122001, x122002, x122003, x122004, x122005 => if x26 = true then (some true) else (if x18 = 9 then (some (x122001 == 0)) else (if x18 = 10 then (cubbyref07_bare.j3 k x18 (x18 == 10) x122000 x122001 x122002 x122003 x122004 x122005) else (if x18 = 14 then (cubbyref07_bare.j3 k x18 (x18 == 14) x122000 x122001 x122002 x122003 x122004 x122005) else (cubbyref07_bare.j3 k x18 (x18 == 12) x122000 x122001 x122002 x122003 x122004 x122005))))
def cubbyref07_bare.j3 : Nat → Int → Bool → Int → Int → Int → Int → ByteArray → List Int → Option (Bool)
 | 0, _, _, _, _, _, _, _, _ => none
 | k + 1, x18, x38, x122000, x122001, x122002, x122003, x122004, x122005 => if x38 = true then (if x122001 = 0 then (some (x122003 == 0)) else (some false)) else (if x18 = 11 then (if x122002 = 0 then (some (x122003 == 0)) else (some false)) else (some false))
end
def cubbyref07_bare.f (k : Nat) (a0_0 : Int) (a0_1 : Int) (a0_2 : Int) (a0_3 : Int) (a0_4 : ByteArray) (l0_5 : List Int) : Option (Bool) := if a0_0 = 11 then (cubbyref07_bare.j0 k false a0_0 a0_1 a0_2 a0_3 a0_4 l0_5) else (if a0_4.toList = ([] : List UInt8) then (cubbyref07_bare.j0 k (decide ((l0_5.length : Int) > 0)) a0_0 a0_1 a0_2 a0_3 a0_4 l0_5) else (cubbyref07_bare.j0 k true a0_0 a0_1 a0_2 a0_3 a0_4 l0_5))
set_option maxHeartbeats 8000000 in
set_option maxRecDepth 100000 in
theorem cubbyref07_bare.calls (k : Nat) (a0_0 : Int) (a0_1 : Int) (a0_2 : Int) (a0_3 : Int) (a0_4 : ByteArray) (A0_5 : Option Addr) (c0_5 : Nat) (l0_5 : List Int) (r : Bool) (w : World) (hr0_5 : Kd.C (Kd.int .i64) w A0_5 l0_5.length l0_5) (hc0_5 : l0_5.length ≤ c0_5) (h : cubbyref07_bare.f k a0_0 a0_1 a0_2 a0_3 a0_4 l0_5 = some r) :
 Calls Tryd.prog 126 #[.agg #[.int .i64 a0_0, .int .i64 a0_1, .int .i64 a0_2, .int .i64 a0_3, .string a0_4, .slice A0_5 l0_5.length c0_5]] w fun e w' => e = .returned (.bool r) ∧ Below w.heap.size w w' := by
 have hu38 := Tryd.underlying38
 have HR0_5 := zA hr0_5
 have HC0_5 := zA hc0_5
 clear hr0_5 hc0_5
 have HB := zA (Below.refl w.heap.size w)
 have H := h; clear h; unfold cubbyref07_bare.f at H
 have HC2 := zA H
 clear H
 go_enter Tryd.func126, Tryd.ntmps126
 go_upto_region 1 with (first | ((with_reducible refine gate_dst (N := 1) rfl ?_); (try (refine gate_guard (by rfl) ?_; dsimp only)); refine box_event (by rfl) (N := 1) (by rfl) (cs := #[.int .i64 a0_0, .int .i64 a0_1, .int .i64 a0_2, .int .i64 a0_3, .string a0_4, .slice A0_5 l0_5.length c0_5]) (t := 38) ?hr ?_; (case hr => go_simp <;> rfl); intro gb121 hg w3 hbox hb; have BK121 := zA (hbox); have GW121 := qG hg; have GE121 := GW121; replace HB := qH hb; clear hb hbox hg))
 (try simp only [Act.put, List.setIfInBounds_toArray, List.set_cons_zero, List.set_cons_succ])
 go_cut [16] (fun v16 wc => ∃ (kq : Nat) (x16_1 : Bool), v16 = .bool x16_1 ∧ Aside0 (cubbyref07_bare.j0 kq x16_1 a0_0 a0_1 a0_2 a0_3 a0_4 l0_5 = some r) ∧ Aside0 (kq ≤ k) ∧ Aside0 (wc.heap[gb121]? = some (.cells #[.int .i64 a0_0, .int .i64 a0_1, .int .i64 a0_2, .int .i64 a0_3, .string a0_4, (.slice A0_5 l0_5.length c0_5)] 38 (0, 0))) ∧ Aside0 (Below w.heap.size w wc))
 case first =>
  have H := HC2.out
  clear HC2
  by_cases c4 : a0_0 = 11
  ·rw [zC c4] at H
   obtain ⟨c4b0, c4b1⟩ := qe c4; clear c4
   (first | rw [c4b0] | (simp only [i64_w, i32_w]; rw [c4b0]) | skip)
   have H' := zA H
   clear H
   have z5_0 := bk6 BK121.out
   go_wp2
   go_meet
   case rel => exact ⟨_, (false), qT, H', ⟨qO⟩, ⟨qK BK121.out⟩, ⟨qB⟩⟩
  ·rw [zD c4] at H
   obtain ⟨c4b0, c4b1⟩ := qn c4
   (first | rw [c4b0] | (simp only [i64_w, i32_w]; rw [c4b0]) | skip)
   by_cases c6 : a0_4.toList = ([] : List UInt8)
   ·rw [zC c6] at H
    obtain ⟨c6b0, c6b1⟩ := qe c6; clear c6
    have H' := zA H
    clear H
    have z7_0 := bk6 BK121.out
    go_wp2
    go_meet
    case rel => exact ⟨_, (decide ((l0_5.length : Int) > 0)), qT, H', ⟨qO⟩, ⟨qK BK121.out⟩, ⟨qB⟩⟩
   ·rw [zD c6] at H
    obtain ⟨c6b0, c6b1⟩ := qn c6
    have H' := zA H
    clear H
    have z8_0 := bk6 BK121.out
    go_wp2
    go_meet
    case rel => exact ⟨_, (true), qT, H', ⟨qO⟩, ⟨qK BK121.out⟩, ⟨qB⟩⟩
 case rest =>
  clear HC2
  obtain ⟨kq, x16_1, rfl, HA, HJ1, BK121, HB⟩ := hcut
  cases kq with
  | zero => exact absurd HA.out (by simp [cubbyref07_bare.j0])
  | succ kj1 =>
   have H := HA.out
   clear HA
   simp only [cubbyref07_bare.j0] at H
   by_cases c9 : x16_1 = true
   ·subst c9
    have H1 : (some false) = some r := by rw [zC rfl] at H; exact H
    clear H
    have H := H1
    clear H1
    obtain rfl := zI H
    go_wp2
    go_ret
    exact ⟨qE, qB⟩
   ·replace c9 := Bool.eq_false_iff.mpr c9
    subst c9
    have H1 : (if a0_0 = 1 then (cubbyref07_bare.j1 kj1 a0_0 (a0_0 == 1) a0_0 a0_1 a0_2 a0_3 a0_4 l0_5) else (if a0_0 = 2 then (cubbyref07_bare.j1 kj1 a0_0 (a0_0 == 2) a0_0 a0_1 a0_2 a0_3 a0_4 l0_5) else (cubbyref07_bare.j1 kj1 a0_0 (a0_0 == 8) a0_0 a0_1 a0_2 a0_3 a0_4 l0_5))) = some r := by rw [zD (show ¬ (false = true) by decide)] at H; exact H
    clear H
    have H := H1
    clear H1
    have HC10 := zA H
    clear H
    have z11_0 := bk6 BK121.out
    go_upto_if 19 with (fail)
    go_cut [19] (fun v19 wc => ∃ (kq : Nat) (x19_9 : Bool), v19 = .bool x19_9 ∧ Aside0 (cubbyref07_bare.j1 kq a0_0 x19_9 a0_0 a0_1 a0_2 a0_3 a0_4 l0_5 = some r) ∧ Aside0 (kq ≤ kj1) ∧ Aside0 (wc.heap[gb121]? = some (.cells #[.int .i64 a0_0, .int .i64 a0_1, .int .i64 a0_2, .int .i64 a0_3, .string a0_4, (.slice A0_5 l0_5.length c0_5)] 38 (0, 0))) ∧ Aside0 (Below w.heap.size w wc))
    case first =>
     have H := HC10.out
     clear HC10
     by_cases c12 : a0_0 = 1
     ·rw [zC c12] at H
      obtain ⟨c12b0, c12b1⟩ := qe c12; clear c12
      (first | rw [c12b0] | (simp only [i64_w, i32_w]; rw [c12b0]) | skip)
      have H' := zA H
      clear H
      go_wp2
      go_meet
      case rel => exact ⟨_, ((a0_0 == 1)), qT, H', ⟨by have := HJ1.out; first | omega | exact Nat.le_refl _⟩, ⟨qK BK121.out⟩, ⟨qB⟩⟩
     ·rw [zD c12] at H
      obtain ⟨c12b0, c12b1⟩ := qn c12
      (first | rw [c12b0] | (simp only [i64_w, i32_w]; rw [c12b0]) | skip)
      by_cases c13 : a0_0 = 2
      ·rw [zC c13] at H
       obtain ⟨c13b0, c13b1⟩ := qe c13; clear c13
       have H' := zA H
       clear H
       go_wp2
       go_meet
       case rel => exact ⟨_, ((a0_0 == 2)), qT, H', ⟨by have := HJ1.out; first | omega | exact Nat.le_refl _⟩, ⟨qK BK121.out⟩, ⟨qB⟩⟩
      ·rw [zD c13] at H
       obtain ⟨c13b0, c13b1⟩ := qn c13
       have H' := zA H
       clear H
       go_wp2
       go_meet
       case rel => exact ⟨_, ((a0_0 == 8)), qT, H', ⟨by have := HJ1.out; first | omega | exact Nat.le_refl _⟩, ⟨qK BK121.out⟩, ⟨qB⟩⟩
    case rest =>
     clear HC10
     obtain ⟨kq, x19_9, rfl, HA, HJ9, BK121, HB⟩ := hcut
     cases kq with
     | zero => exact absurd HA.out (by simp [cubbyref07_bare.j1])
     | succ kj9 =>
      have H := HA.out
      clear HA
      simp only [cubbyref07_bare.j1] at H
      by_cases c14 : x19_9 = true
      ·subst c14
       have H1 : (some (a0_3 == 0)) = some r := by rw [zC rfl] at H; exact H
       clear H
       have H := H1
       clear H1
       obtain rfl := zI H
       have z15_0 := bk6 BK121.out
       go_wp2
       go_ret
       exact ⟨qE, qB⟩
      ·replace c14 := Bool.eq_false_iff.mpr c14
       subst c14
       have H1 : (if a0_0 = 3 then (cubbyref07_bare.j2 kj9 a0_0 (a0_0 == 3) a0_0 a0_1 a0_2 a0_3 a0_4 l0_5) else (if a0_0 = 4 then (cubbyref07_bare.j2 kj9 a0_0 (a0_0 == 4) a0_0 a0_1 a0_2 a0_3 a0_4 l0_5) else (if a0_0 = 5 then (cubbyref07_bare.j2 kj9 a0_0 (a0_0 == 5) a0_0 a0_1 a0_2 a0_3 a0_4 l0_5) else (if a0_0 = 6 then (cubbyref07_bare.j2 kj9 a0_0 (a0_0 == 6) a0_0 a0_1 a0_2 a0_3 a0_4 l0_5) else (if a0_0 = 7 then (cubbyref07_bare.j2 kj9 a0_0 (a0_0 == 7) a0_0 a0_1 a0_2 a0_3 a0_4 l0_5) else (cubbyref07_bare.j2 kj9 a0_0 (a0_0 == 13) a0_0 a0_1 a0_2 a0_3 a0_4 l0_5)))))) = some r := by rw [zD (show ¬ (false = true) by decide)] at H; exact H
       clear H
       have H := H1
       clear H1
       have HC16 := zA H
       clear H
       go_upto_if 26 with (fail)
       go_cut [26] (fun v26 wc => ∃ (kq : Nat) (x26_15 : Bool), v26 = .bool x26_15 ∧ Aside0 (cubbyref07_bare.j2 kq a0_0 x26_15 a0_0 a0_1 a0_2 a0_3 a0_4 l0_5 = some r) ∧ Aside0 (kq ≤ kj9) ∧ Aside0 (wc.heap[gb121]? = some (.cells #[.int .i64 a0_0, .int .i64 a0_1, .int .i64 a0_2, .int .i64 a0_3, .string a0_4, (.slice A0_5 l0_5.length c0_5)] 38 (0, 0))) ∧ Aside0 (Below w.heap.size w wc))
       case first =>
        have H := HC16.out
        clear HC16
        by_cases c17 : a0_0 = 3
        ·rw [zC c17] at H
         obtain ⟨c17b0, c17b1⟩ := qe c17; clear c17
         (first | rw [c17b0] | (simp only [i64_w, i32_w]; rw [c17b0]) | skip)
         have H' := zA H
         clear H
         go_wp2
         go_meet
         case rel => exact ⟨_, ((a0_0 == 3)), qT, H', ⟨by have := HJ1.out; have := HJ9.out; first | omega | exact Nat.le_refl _⟩, ⟨qK BK121.out⟩, ⟨qB⟩⟩
        ·rw [zD c17] at H
         obtain ⟨c17b0, c17b1⟩ := qn c17
         (first | rw [c17b0] | (simp only [i64_w, i32_w]; rw [c17b0]) | skip)
         by_cases c18 : a0_0 = 4
         ·rw [zC c18] at H
          obtain ⟨c18b0, c18b1⟩ := qe c18; clear c18
          have H' := zA H
          clear H
          go_wp2
          go_meet
          case rel => exact ⟨_, ((a0_0 == 4)), qT, H', ⟨by have := HJ1.out; have := HJ9.out; first | omega | exact Nat.le_refl _⟩, ⟨qK BK121.out⟩, ⟨qB⟩⟩
         ·rw [zD c18] at H
          obtain ⟨c18b0, c18b1⟩ := qn c18
          by_cases c19 : a0_0 = 5
          ·rw [zC c19] at H
           obtain ⟨c19b0, c19b1⟩ := qe c19; clear c19
           have H' := zA H
           clear H
           go_wp2
           go_meet
           case rel => exact ⟨_, ((a0_0 == 5)), qT, H', ⟨by have := HJ1.out; have := HJ9.out; first | omega | exact Nat.le_refl _⟩, ⟨qK BK121.out⟩, ⟨qB⟩⟩
          ·rw [zD c19] at H
           obtain ⟨c19b0, c19b1⟩ := qn c19
           by_cases c20 : a0_0 = 6
           ·rw [zC c20] at H
            obtain ⟨c20b0, c20b1⟩ := qe c20; clear c20
            have H' := zA H
            clear H
            go_wp2
            go_meet
            case rel => exact ⟨_, ((a0_0 == 6)), qT, H', ⟨by have := HJ1.out; have := HJ9.out; first | omega | exact Nat.le_refl _⟩, ⟨qK BK121.out⟩, ⟨qB⟩⟩
           ·rw [zD c20] at H
            obtain ⟨c20b0, c20b1⟩ := qn c20
            by_cases c21 : a0_0 = 7
            ·rw [zC c21] at H
             obtain ⟨c21b0, c21b1⟩ := qe c21; clear c21
             have H' := zA H
             clear H
             go_wp2
             go_meet
             case rel => exact ⟨_, ((a0_0 == 7)), qT, H', ⟨by have := HJ1.out; have := HJ9.out; first | omega | exact Nat.le_refl _⟩, ⟨qK BK121.out⟩, ⟨qB⟩⟩
            ·rw [zD c21] at H
             obtain ⟨c21b0, c21b1⟩ := qn c21
             have H' := zA H
             clear H
             go_wp2
             go_meet
             case rel => exact ⟨_, ((a0_0 == 13)), qT, H', ⟨by have := HJ1.out; have := HJ9.out; first | omega | exact Nat.le_refl _⟩, ⟨qK BK121.out⟩, ⟨qB⟩⟩
       case rest =>
        clear HC16
        obtain ⟨kq, x26_15, rfl, HA, HJ15, BK121, HB⟩ := hcut
        cases kq with
        | zero => exact absurd HA.out (by simp [cubbyref07_bare.j2])
        | succ kj15 =>
         have H := HA.out
         clear HA
         simp only [cubbyref07_bare.j2] at H
         by_cases c22 : x26_15 = true
         ·subst c22
          have H1 : (some true) = some r := by rw [zC rfl] at H; exact H
          clear H
          have H := H1
          clear H1
          obtain rfl := zI H
          go_wp2
          go_ret
          exact ⟨qE, qB⟩
         ·replace c22 := Bool.eq_false_iff.mpr c22
          subst c22
          have H1 : (if a0_0 = 9 then (some (a0_1 == 0)) else (if a0_0 = 10 then (cubbyref07_bare.j3 kj15 a0_0 (a0_0 == 10) a0_0 a0_1 a0_2 a0_3 a0_4 l0_5) else (if a0_0 = 14 then (cubbyref07_bare.j3 kj15 a0_0 (a0_0 == 14) a0_0 a0_1 a0_2 a0_3 a0_4 l0_5) else (cubbyref07_bare.j3 kj15 a0_0 (a0_0 == 12) a0_0 a0_1 a0_2 a0_3 a0_4 l0_5)))) = some r := by rw [zD (show ¬ (false = true) by decide)] at H; exact H
          clear H
          have H := H1
          clear H1
          by_cases c23 : a0_0 = 9
          ·rw [zC c23] at H
           obtain ⟨c23b0, c23b1⟩ := qe c23; clear c23
           obtain rfl := zI H
           have z24_0 := bk6 BK121.out
           go_wp2
           go_ret
           exact ⟨qE, qB⟩
          ·rw [zD c23] at H
           obtain ⟨c23b0, c23b1⟩ := qn c23
           have HC25 := zA H
           clear H
           go_upto_if 38 with (fail)
           go_cut [38] (fun v38 wc => ∃ (kq : Nat) (x38_24 : Bool), v38 = .bool x38_24 ∧ Aside0 (cubbyref07_bare.j3 kq a0_0 x38_24 a0_0 a0_1 a0_2 a0_3 a0_4 l0_5 = some r) ∧ Aside0 (kq ≤ kj15) ∧ Aside0 (wc.heap[gb121]? = some (.cells #[.int .i64 a0_0, .int .i64 a0_1, .int .i64 a0_2, .int .i64 a0_3, .string a0_4, (.slice A0_5 l0_5.length c0_5)] 38 (0, 0))) ∧ Aside0 (Below w.heap.size w wc))
           case first =>
            have H := HC25.out
            clear HC25
            by_cases c26 : a0_0 = 10
            ·rw [zC c26] at H
             obtain ⟨c26b0, c26b1⟩ := qe c26; clear c26
             (first | rw [c26b0] | (simp only [i64_w, i32_w]; rw [c26b0]) | skip)
             have H' := zA H
             clear H
             go_wp2
             go_meet
             case rel => exact ⟨_, ((a0_0 == 10)), qT, H', ⟨by have := HJ1.out; have := HJ9.out; have := HJ15.out; first | omega | exact Nat.le_refl _⟩, ⟨qK BK121.out⟩, ⟨qB⟩⟩
            ·rw [zD c26] at H
             obtain ⟨c26b0, c26b1⟩ := qn c26
             (first | rw [c26b0] | (simp only [i64_w, i32_w]; rw [c26b0]) | skip)
             by_cases c27 : a0_0 = 14
             ·rw [zC c27] at H
              obtain ⟨c27b0, c27b1⟩ := qe c27; clear c27
              have H' := zA H
              clear H
              go_wp2
              go_meet
              case rel => exact ⟨_, ((a0_0 == 14)), qT, H', ⟨by have := HJ1.out; have := HJ9.out; have := HJ15.out; first | omega | exact Nat.le_refl _⟩, ⟨qK BK121.out⟩, ⟨qB⟩⟩
             ·rw [zD c27] at H
              obtain ⟨c27b0, c27b1⟩ := qn c27
              have H' := zA H
              clear H
              go_wp2
              go_meet
              case rel => exact ⟨_, ((a0_0 == 12)), qT, H', ⟨by have := HJ1.out; have := HJ9.out; have := HJ15.out; first | omega | exact Nat.le_refl _⟩, ⟨qK BK121.out⟩, ⟨qB⟩⟩
           case rest =>
            clear HC25
            obtain ⟨kq, x38_24, rfl, HA, HJ24, BK121, HB⟩ := hcut
            cases kq with
            | zero => exact absurd HA.out (by simp [cubbyref07_bare.j3])
            | succ kj24 =>
             have H := HA.out
             clear HA
             simp only [cubbyref07_bare.j3] at H
             by_cases c28 : x38_24 = true
             ·subst c28
              have H1 : (if a0_1 = 0 then (some (a0_3 == 0)) else (some false)) = some r := by rw [zC rfl] at H; exact H
              clear H
              have H := H1
              clear H1
              by_cases c29 : a0_1 = 0
              ·rw [zC c29] at H
               obtain ⟨c29b0, c29b1⟩ := qe c29; clear c29
               obtain rfl := zI H
               have z30_0 := bk6 BK121.out
               go_wp2
               go_ret
               exact ⟨qE, qB⟩
              ·rw [zD c29] at H
               obtain ⟨c29b0, c29b1⟩ := qn c29
               obtain rfl := zI H
               have z31_0 := bk6 BK121.out
               go_wp2
               go_ret
               exact ⟨qE, qB⟩
             ·replace c28 := Bool.eq_false_iff.mpr c28
              subst c28
              have H1 : (if a0_0 = 11 then (if a0_2 = 0 then (some (a0_3 == 0)) else (some false)) else (some false)) = some r := by rw [zD (show ¬ (false = true) by decide)] at H; exact H
              clear H
              have H := H1
              clear H1
              by_cases c32 : a0_0 = 11
              ·rw [zC c32] at H
               obtain ⟨c32b0, c32b1⟩ := qe c32; clear c32
               by_cases c33 : a0_2 = 0
               ·rw [zC c33] at H
                obtain ⟨c33b0, c33b1⟩ := qe c33; clear c33
                obtain rfl := zI H
                have z34_0 := bk6 BK121.out
                go_wp2
                go_ret
                exact ⟨qE, qB⟩
               ·rw [zD c33] at H
                obtain ⟨c33b0, c33b1⟩ := qn c33
                obtain rfl := zI H
                have z35_0 := bk6 BK121.out
                go_wp2
                go_ret
                exact ⟨qE, qB⟩
              ·rw [zD c32] at H
               obtain ⟨c32b0, c32b1⟩ := qn c32
               obtain rfl := zI H
               go_wp2
               go_ret
               exact ⟨qE, qB⟩

def cubbyref07_within.l0 : Nat → List Int → Int → Int → Option (Bool)
 | 0, _, _, _ => none
 | k + 1, x0, x1, x5 => if x5 < (x0.length : Int) then (if 0 ≤ x5 then (if (rd x0 x5) < 0 then (some false) else (if (rd x0 x5) ≥ x1 then (some false) else (cubbyref07_within.l0 k x0 x1 (wrap64 (x5 + 1))))) else (none)) else (some true)
def cubbyref07_within.f (k : Nat) (l0 : List Int) (a1 : Int) : Option (Bool) := cubbyref07_within.l0 k l0 a1 0
set_option maxHeartbeats 8000000 in
set_option maxRecDepth 100000 in
theorem cubbyref07_within.calls (k : Nat) (A0 : Option Addr) (c0 : Nat) (l0 : List Int) (a1 : Int) (r : Bool) (w : World) (hr0 : Kd.C (Kd.int .i64) w A0 l0.length l0) (hc0 : l0.length ≤ c0) (h : cubbyref07_within.f k l0 a1 = some r) :
 Calls Tryd.prog 127 #[.slice A0 l0.length c0, .int .i64 a1] w fun e w' => e = .returned (.bool r) ∧ Drawn0 w w' := by
 have HR0 := zA hr0
 have HC0 := zA hc0
 clear hr0 hc0
 have H := h; clear h; unfold cubbyref07_within.f at H
 have H' := zA H
 clear H
 go_enter Tryd.func127, Tryd.ntmps127
 go_wp2
 go_loopg [5] k (fun kq v5 w' => ∃ (x5_1 : Int), v5 = .int .i64 x5_1 ∧ Aside0 (cubbyref07_within.l0 kq l0 a1 x5_1 = some r) ∧ Aside0 (kq ≤ k) ∧ Drawn0 w w')
 case atStart => exact ⟨(0), qT, H', ⟨Nat.le_refl _⟩, qD⟩
 case round =>
  clear H'
  obtain ⟨x5_1, rfl, HA, HK1, ⟨m1, rfl⟩⟩ := hrel
  cases gk with
  | zero => exact absurd HA.out (by simp [cubbyref07_within.l0])
  | succ k1 =>
   have H := HA.out
   clear HA
   simp only [cubbyref07_within.l0] at H
   by_cases c3 : x5_1 < (l0.length : Int)
   ·rw [zC c3] at H
    have c3b0 := zF c3
    clear c3
    by_cases c4 : 0 ≤ x5_1
    ·rw [zC c4] at H
     have c4b0 := zF c4
     clear c4
     by_cases c5 : (rd l0 x5_1) < 0
     ·rw [zC c5] at H
      have c5b0 := zF c5
      clear c5
      obtain rfl := zI H
      have p122 : 0 ≤ (x5_1 : Int) := zB qA
      have q122 : x5_1 < (l0.length : Int) := zB qA
      obtain ⟨ad122, e122, hx122_0⟩ := Kd.at_int HR0.out x5_1 p122 q122
      cases e122
      replace p122 := eq_true p122
      replace q122 := eq_true q122
      go_wp2
      go_ret
      exact ⟨by first | rfl | (simp; done) | (simp [*]; done), qD⟩
     ·rw [zD c5] at H
      have c5b0 := zG c5
      clear c5
      by_cases c6 : (rd l0 x5_1) ≥ a1
      ·rw [zC c6] at H
       have c6b0 : decide (a1 ≤ (rd l0 x5_1)) = true := zF c6
       clear c6
       obtain rfl := zI H
       have p122 : 0 ≤ (x5_1 : Int) := zB qA
       have q122 : x5_1 < (l0.length : Int) := zB qA
       obtain ⟨ad122, e122, hx122_0⟩ := Kd.at_int HR0.out x5_1 p122 q122
       cases e122
       replace p122 := eq_true p122
       replace q122 := eq_true q122
       have p123 : 0 ≤ (x5_1 : Int) := zB qA
       have q123 : x5_1 < (l0.length : Int) := zB qA
       obtain ⟨ad123, e123, hx123_0⟩ := Kd.at_int HR0.out x5_1 p123 q123
       obtain rfl : ad122 = ad123 := (by injection e123)
       replace p123 := eq_true p123
       replace q123 := eq_true q123
       go_wp2
       go_ret
       exact ⟨by first | rfl | (simp; done) | (simp [*]; done), qD⟩
      ·rw [zD c6] at H
       have c6b0 : decide (a1 ≤ (rd l0 x5_1)) = false := zG c6
       clear c6
       have H' := zA H
       clear H
       have p122 : 0 ≤ (x5_1 : Int) := zB qA
       have q122 : x5_1 < (l0.length : Int) := zB qA
       obtain ⟨ad122, e122, hx122_0⟩ := Kd.at_int HR0.out x5_1 p122 q122
       cases e122
       replace p122 := eq_true p122
       replace q122 := eq_true q122
       have p123 : 0 ≤ (x5_1 : Int) := zB qA
       have q123 : x5_1 < (l0.length : Int) := zB qA
       obtain ⟨ad123, e123, hx123_0⟩ := Kd.at_int HR0.out x5_1 p123 q123
       obtain rfl : ad122 = ad123 := (by injection e123)
       replace p123 := eq_true p123
       replace q123 := eq_true q123
       go_wp2
       go_roundg k1
       case measure => have := HK1.out; omega
       case rel => exact ⟨(wrap64 (x5_1 + 1)), qT, H', ⟨by have := HK1.out; omega⟩, qD⟩
    ·rw [zD c4] at H
     exact absurd H (by simp)
   ·rw [zD c3] at H
    have c3b0 := zG c3
    clear c3
    obtain rfl := zI H
    go_wp2
    go_ret
    exact ⟨by first | rfl | (simp; done) | (simp [*]; done), qD⟩

mutual
def cubbyref07_One.j0 : Nat → Int → Int → Bool → Int → Int → Int → Int → ByteArray → List Int → Option (Int)
 | 0, _, _, _, _, _, _, _, _, _ => none
 | k + 1, x1, x2, x28, x138000, x138001, x138002, x138003, x138004, x138005 => if x28 = true then (some 72) else ((cubbyref07_Def.f x138000 x138001 x138002 x138003 x138004 x138005).bind fun t140 => (if t140 = (-1) then ((cubbyref07_Uses.f k x138000 x138001 x138002 x138003 x138004 x138005).bind fun t141 => ((cubbyref07_within.f k t141 x1).bind fun t144 => (cubbyref07_One.j1 k x2 (!t144) x138000 x138001 x138002 x138003 x138004 x138005))) else ((cubbyref07_Def.f x138000 x138001 x138002 x138003 x138004 x138005).bind fun t145 => (if t145 < 0 then (cubbyref07_One.j1 k x2 true x138000 x138001 x138002 x138003 x138004 x138005) else ((cubbyref07_Def.f x138000 x138001 x138002 x138003 x138004 x138005).bind fun t146 => (if t146 ≥ x1 then (cubbyref07_One.j1 k x2 true x138000 x138001 x138002 x138003 x138004 x138005) else ((cubbyref07_Uses.f k x138000 x138001 x138002 x138003 x138004 x138005).bind fun t147 => ((cubbyref07_within.f k t147 x1).bind fun t150 => (cubbyref07_One.j1 k x2 (!t150) x138000 x138001 x138002 x138003 x138004 x138005)))))))))
def cubbyref07_One.j1 : Nat → Int → Bool → Int → Int → Int → Int → ByteArray → List Int → Option (Int)
 | 0, _, _, _, _, _, _, _, _ => none
 | k + 1, x2, x49, x138000, x138001, x138002, x138003, x138004, x138005 => if x49 = true then (some 73) else ((cubbyref07_Def.f x138000 x138001 x138002 x138003 x138004 x138005).bind fun t151 => (if t151 = (-1) then (if x138000 = 9 then (cubbyref07_One.j2 k x2 false x138000 x138001 x138002 x138003 x138004 x138005) else (if x138000 = 10 then (cubbyref07_One.j2 k x2 false x138000 x138001 x138002 x138003 x138004 x138005) else ((cubbyref07_Last.f x138000).bind fun t152 => (cubbyref07_One.j2 k x2 (!t152) x138000 x138001 x138002 x138003 x138004 x138005)))) else (cubbyref07_One.j2 k x2 false x138000 x138001 x138002 x138003 x138004 x138005)))
def cubbyref07_One.j2 : Nat → Int → Bool → Int → Int → Int → Int → ByteArray → List Int → Option (Int)
 | 0, _, _, _, _, _, _, _, _ => none
 | k + 1, x2, x68, x138000, x138001, x138002, x138003, x138004, x138005 => if x68 = true then (some 73) else (if x138000 = 1 then (if x138002 < 0 then (cubbyref07_One.j3 k x2 true x138000 x138001 x138002 x138003 x138004 x138005) else (cubbyref07_One.j3 k x2 (decide (x138002 ≥ 65536)) x138000 x138001 x138002 x138003 x138004 x138005)) else (cubbyref07_One.j3 k x2 false x138000 x138001 x138002 x138003 x138004 x138005))
def cubbyref07_One.j3 : Nat → Int → Bool → Int → Int → Int → Int → ByteArray → List Int → Option (Int)
 | 0, _, _, _, _, _, _, _, _ => none
 | k + 1, x2, x81, x138000, x138001, x138002, x138003, x138004, x138005 => if x81 = true then (some 81) else ((cubbyref07_Targets.f x138000 x138001 x138002 x138003 x138004 x138005).bind fun t153 => ((cubbyref07_within.f k t153 x2).bind fun t156 => (if t156 = true then (if x138000 = 11 then ((cubbyref07_Name.f k x138004).bind fun t157 => (cubbyref07_One.j4 k (!t157) x138000 x138001 x138002 x138003 x138004 x138005)) else (cubbyref07_One.j4 k false x138000 x138001 x138002 x138003 x138004 x138005)) else (some 74))))
def cubbyref07_One.j4 : Nat → Bool → Int → Int → Int → Int → ByteArray → List Int → Option (Int)
 | 0, _, _, _, _, _, _, _ => none
 | k + 1, x95, x138000, x138001, x138002, x138003, x138004, x138005 => if x95 = true then (some 70) else (if x138000 = 11 then (if (x138005.length : Int) > 4 then (some 192) else (some 0)) else (some 0))
end
def cubbyref07_One.f (k : Nat) (a0_0 : Int) (a0_1 : Int) (a0_2 : Int) (a0_3 : Int) (a0_4 : ByteArray) (l0_5 : List Int) (a1 : Int) (a2 : Int) (a3 : Bool) : Option (Int) := if a0_0 < 1 then (cubbyref07_One.j0 k a1 a2 true a0_0 a0_1 a0_2 a0_3 a0_4 l0_5) else (if a0_0 > 14 then (cubbyref07_One.j0 k a1 a2 true a0_0 a0_1 a0_2 a0_3 a0_4 l0_5) else ((cubbyref07_Last.f a0_0).bind fun t138 => (if (t138 != a3) = true then (cubbyref07_One.j0 k a1 a2 true a0_0 a0_1 a0_2 a0_3 a0_4 l0_5) else ((cubbyref07_bare.f k a0_0 a0_1 a0_2 a0_3 a0_4 l0_5).bind fun t139 => (cubbyref07_One.j0 k a1 a2 (!t139) a0_0 a0_1 a0_2 a0_3 a0_4 l0_5)))))
set_option maxHeartbeats 8000000 in
set_option maxRecDepth 100000 in
theorem cubbyref07_One.calls (k : Nat) (a0_0 : Int) (a0_1 : Int) (a0_2 : Int) (a0_3 : Int) (a0_4 : ByteArray) (A0_5 : Option Addr) (c0_5 : Nat) (l0_5 : List Int) (a1 : Int) (a2 : Int) (a3 : Bool) (r : Int) (w : World) (hr0_5 : Kd.C (Kd.int .i64) w A0_5 l0_5.length l0_5) (hc0_5 : l0_5.length ≤ c0_5) (h : cubbyref07_One.f k a0_0 a0_1 a0_2 a0_3 a0_4 l0_5 a1 a2 a3 = some r) :
 Calls Tryd.prog 88 #[.agg #[.int .i64 a0_0, .int .i64 a0_1, .int .i64 a0_2, .int .i64 a0_3, .string a0_4, .slice A0_5 l0_5.length c0_5], .int .i64 a1, .int .i64 a2, .bool a3] w fun e w' => e = .returned (.int .i64 r) ∧ Below w.heap.size w w' := by
 have hu38 := Tryd.underlying38
 have HR0_5 := zA hr0_5
 have HC0_5 := zA hc0_5
 clear hr0_5 hc0_5
 have HB := zA (Below.refl w.heap.size w)
 have H := h; clear h; unfold cubbyref07_One.f at H
 have HC5 := zA H
 clear H
 go_enter Tryd.func88, Tryd.ntmps88
 go_upto_region 1 with (first | ((with_reducible refine gate_dst (N := 4) rfl ?_); (try (refine gate_guard (by rfl) ?_; dsimp only)); refine box_event (by rfl) (N := 4) (by rfl) (cs := #[.int .i64 a0_0, .int .i64 a0_1, .int .i64 a0_2, .int .i64 a0_3, .string a0_4, .slice A0_5 l0_5.length c0_5]) (t := 38) ?hr ?_; (case hr => go_simp <;> rfl); intro gb137 hg w6 hbox hb; have BK137 := zA (hbox); have GW137 := qG hg; have GE137 := GW137; replace HB := qH hb; clear hb hbox hg))
 (try simp only [Act.put, List.setIfInBounds_toArray, List.set_cons_zero, List.set_cons_succ])
 go_cut [28] (fun v28 wc => ∃ (kq : Nat) (x28_4 : Bool), v28 = .bool x28_4 ∧ Aside0 (cubbyref07_One.j0 kq a1 a2 x28_4 a0_0 a0_1 a0_2 a0_3 a0_4 l0_5 = some r) ∧ Aside0 (kq ≤ k) ∧ Aside0 (wc.heap[gb137]? = some (.cells #[.int .i64 a0_0, .int .i64 a0_1, .int .i64 a0_2, .int .i64 a0_3, .string a0_4, (.slice A0_5 l0_5.length c0_5)] 38 (0, 0))) ∧ Aside0 (Below w.heap.size w wc))
 case first =>
  have H := HC5.out
  clear HC5
  by_cases c7 : a0_0 < 1
  ·rw [zC c7] at H
   have c7b0 := zF c7
   clear c7
   (first | rw [c7b0] | (simp only [i64_w, i32_w]; rw [c7b0]) | skip)
   have H' := zA H
   clear H
   have z8_0 := bk6 BK137.out
   go_wp2
   go_meet
   case rel => exact ⟨_, (true), qT, H', ⟨qO⟩, ⟨qK BK137.out⟩, ⟨qB⟩⟩
  ·rw [zD c7] at H
   have c7b0 := zG c7
   clear c7
   (first | rw [c7b0] | (simp only [i64_w, i32_w]; rw [c7b0]) | skip)
   by_cases c9 : a0_0 > 14
   ·rw [zC c9] at H
    have c9b0 : decide (14 < a0_0) = true := zF c9
    clear c9
    have H' := zA H
    clear H
    have z10_0 := bk6 BK137.out
    go_wp2
    go_meet
    case rel => exact ⟨_, (true), qT, H', ⟨qO⟩, ⟨qK BK137.out⟩, ⟨qB⟩⟩
   ·rw [zD c9] at H
    have c9b0 : decide (14 < a0_0) = false := zG c9
    clear c9
    replace H := qb H; obtain ⟨t138, A11, H⟩ := H
    by_cases c12 : (t138 != a3) = true
    ·rw [zC c12] at H
     have c12b0 : (t138 != a3) = true := c12
     (try (have c12b1 : decide (t138 = a3) = false := by simpa using c12))
     (try (have c12b2 : (t138 == a3) = false := by simpa using c12))
     (try (have c12b3 : ¬ (t138 = a3) := by simpa using c12))
     clear c12
     have H' := zA H
     clear H
     have z13_0 := bk6 BK137.out
     go_wp2_with (first | (go_at_call 125; (with_reducible refine (cubbyref07_Last.calls a0_0 t138 _ A11.out).mono ?_); (try clear A11); rintro e w' ⟨rfl, ⟨nd, rfl⟩⟩))
     go_meet
     case rel => exact ⟨_, (true), qT, H', ⟨qO⟩, ⟨qK BK137.out⟩, ⟨qB⟩⟩
    ·rw [zD c12] at H
     have c12b0 : (t138 != a3) = false := by simpa using c12
     (try (have c12b1 : decide (t138 = a3) = true := by simpa using c12))
     (try (have c12b2 : (t138 == a3) = true := by simpa using c12))
     clear c12
     replace H := qb H; obtain ⟨t139, A14, H⟩ := H
     have H' := zA H
     clear H
     have z15_0 := bk6 BK137.out
     go_wp2_with (first | (go_at_call 125; (with_reducible refine (cubbyref07_Last.calls a0_0 t138 _ A11.out).mono ?_); (try clear A11); rintro e w' ⟨rfl, ⟨nd, rfl⟩⟩) | (go_at_call 126; (with_reducible refine (cubbyref07_bare.calls k a0_0 a0_1 a0_2 a0_3 a0_4 _ _ l0_5 t139 _ ?side1 ?side2 A14.out).mono ?_); (case side1 => repeat (first | exact (Kd.C_below HR0_5.out qB) | (with_reducible refine Kd.C_alloc ?_ _) | (with_reducible refine Kd.C_drewN ?_ _) | (with_reducible refine Kd.C_drew ?_))); (case side2 => exact HC0_5.out); (try clear A14); rintro e w16 ⟨rfl, hb⟩; replace BK137 := qW BK137 hb; replace HB := qH hb; (try clear hb)))
     go_meet
     case rel => exact ⟨_, (!t139), qT, H', ⟨qO⟩, ⟨qK BK137.out⟩, ⟨qB⟩⟩
 case rest =>
  clear HC5
  obtain ⟨kq, x28_4, rfl, HA, HJ4, BK137, HB⟩ := hcut
  cases kq with
  | zero => exact absurd HA.out (by simp [cubbyref07_One.j0])
  | succ kj4 =>
   have H := HA.out
   clear HA
   simp only [cubbyref07_One.j0] at H
   by_cases c17 : x28_4 = true
   ·subst c17
    have H1 : (some 72) = some r := by rw [zC rfl] at H; exact H
    clear H
    have H := H1
    clear H1
    obtain rfl := zI H
    go_wp2
    go_ret
    exact ⟨qE, qB⟩
   ·replace c17 := Bool.eq_false_iff.mpr c17
    subst c17
    have H1 : ((cubbyref07_Def.f a0_0 a0_1 a0_2 a0_3 a0_4 l0_5).bind fun t140 => (if t140 = (-1) then ((cubbyref07_Uses.f kj4 a0_0 a0_1 a0_2 a0_3 a0_4 l0_5).bind fun t141 => ((cubbyref07_within.f kj4 t141 a1).bind fun t144 => (cubbyref07_One.j1 kj4 a2 (!t144) a0_0 a0_1 a0_2 a0_3 a0_4 l0_5))) else ((cubbyref07_Def.f a0_0 a0_1 a0_2 a0_3 a0_4 l0_5).bind fun t145 => (if t145 < 0 then (cubbyref07_One.j1 kj4 a2 true a0_0 a0_1 a0_2 a0_3 a0_4 l0_5) else ((cubbyref07_Def.f a0_0 a0_1 a0_2 a0_3 a0_4 l0_5).bind fun t146 => (if t146 ≥ a1 then (cubbyref07_One.j1 kj4 a2 true a0_0 a0_1 a0_2 a0_3 a0_4 l0_5) else ((cubbyref07_Uses.f kj4 a0_0 a0_1 a0_2 a0_3 a0_4 l0_5).bind fun t147 => ((cubbyref07_within.f kj4 t147 a1).bind fun t150 => (cubbyref07_One.j1 kj4 a2 (!t150) a0_0 a0_1 a0_2 a0_3 a0_4 l0_5))))))))) = some r := by rw [zD (show ¬ (false = true) by decide)] at H; exact H
    clear H
    have H := H1
    clear H1
    have HC18 := zA H
    clear H
    go_upto_region 3 with (fail)
    go_cut [49] (fun v49 wc => ∃ (kq : Nat) (x49_17 : Bool), v49 = .bool x49_17 ∧ Aside0 (cubbyref07_One.j1 kq a2 x49_17 a0_0 a0_1 a0_2 a0_3 a0_4 l0_5 = some r) ∧ Aside0 (kq ≤ kj4) ∧ Aside0 (wc.heap[gb137]? = some (.cells #[.int .i64 a0_0, .int .i64 a0_1, .int .i64 a0_2, .int .i64 a0_3, .string a0_4, (.slice A0_5 l0_5.length c0_5)] 38 (0, 0))) ∧ Aside0 (Below w.heap.size w wc))
    case first =>
     have H := HC18.out
     clear HC18
     replace H := qb H; obtain ⟨t140, A19, H⟩ := H
     by_cases c20 : t140 = (-1)
     ·rw [zC c20] at H
      obtain ⟨c20b0, c20b1⟩ := qe c20; clear c20
      (first | rw [c20b0] | (simp only [i64_w, i32_w]; rw [c20b0]) | skip)
      replace H := qb H; obtain ⟨t141, A21, H⟩ := H
      replace H := qb H; obtain ⟨t144, A22, H⟩ := H
      have H' := zA H
      clear H
      have z23_0 := bk6 BK137.out
      go_wp2_with (first | ((with_reducible refine gate_callee (f := 18) rfl ?_); refine goesL_ (some 30) rfl rfl Tryd.func18 (by kernel_rfl) rfl #[.agg #[.int .i64 a0_0, .int .i64 a0_1, .int .i64 a0_2, .int .i64 a0_3, .string a0_4, .slice A0_5 l0_5.length c0_5]] rfl qL ?_; (with_reducible refine (cubbyref07_Def.calls a0_0 a0_1 a0_2 a0_3 a0_4 _ _ l0_5 t140 _ ?side1 ?side2 A19.out).mono ?_); (case side1 => exact qCB HR0_5.out); (case side2 => exact HC0_5.out); rintro e w24 ⟨rfl, hb⟩; refine ⟨_, rfl, ?_⟩; replace BK137 := qW BK137 hb; replace HB := qH hb; (try clear hb); have z25_0 := bk6 BK137.out) | (go_at_call 17; (with_reducible refine (cubbyref07_Uses.calls kj4 a0_0 a0_1 a0_2 a0_3 a0_4 _ _ l0_5 t141 _ ?side1 ?side2 A21.out).mono ?_); (case side1 => exact qCB HR0_5.out); (case side2 => exact HC0_5.out); (try clear A21); rintro e w26 ⟨v142, rfl, ho0, hb⟩; have HO143 := zA (Kd.R_lower ho0 (below_size qB)); replace BK137 := qW BK137 hb; replace HB := qH hb; (try clear hb); (try clear ho0); obtain ⟨Ao27, co27, eo27⟩ := Kd.R_slice HO143.out; subst eo27) | (go_at_call 127; (with_reducible refine (cubbyref07_within.calls kj4 _ _ t141 a1 t144 _ ?side1 ?side2 A22.out).mono ?_); (case side1 => repeat (first | exact (Kd.R_reads' HO143.out).2.2 | (with_reducible refine Kd.C_alloc ?_ _) | (with_reducible refine Kd.C_drewN ?_ _) | (with_reducible refine Kd.C_drew ?_))); (case side2 => exact (Kd.R_reads' HO143.out).2.1); (try clear A22); rintro e w' ⟨rfl, ⟨nd, rfl⟩⟩))
      go_meet
      case rel => exact ⟨_, (!t144), qT, H', ⟨by have := HJ4.out; first | omega | exact Nat.le_refl _⟩, ⟨qK BK137.out⟩, ⟨qB⟩⟩
     ·rw [zD c20] at H
      obtain ⟨c20b0, c20b1⟩ := qn c20
      (first | rw [c20b0] | (simp only [i64_w, i32_w]; rw [c20b0]) | skip)
      replace H := qb H; obtain ⟨t145, A28, H⟩ := H
      by_cases c29 : t145 < 0
      ·rw [zC c29] at H
       have c29b0 := zF c29
       clear c29
       have H' := zA H
       clear H
       have z30_0 := bk6 BK137.out
       go_wp2_with (first | ((with_reducible refine gate_callee (f := 18) rfl ?_); refine goesL_ (some 30) rfl rfl Tryd.func18 (by kernel_rfl) rfl #[.agg #[.int .i64 a0_0, .int .i64 a0_1, .int .i64 a0_2, .int .i64 a0_3, .string a0_4, .slice A0_5 l0_5.length c0_5]] rfl qL ?_; (with_reducible refine (cubbyref07_Def.calls a0_0 a0_1 a0_2 a0_3 a0_4 _ _ l0_5 t140 _ ?side1 ?side2 A19.out).mono ?_); (case side1 => exact qCB HR0_5.out); (case side2 => exact HC0_5.out); rintro e w31 ⟨rfl, hb⟩; refine ⟨_, rfl, ?_⟩; replace BK137 := qW BK137 hb; replace HB := qH hb; (try clear hb); have z32_0 := bk6 BK137.out) | (go_at_call 18; (with_reducible refine (cubbyref07_Def.calls a0_0 a0_1 a0_2 a0_3 a0_4 _ _ l0_5 t145 _ ?side1 ?side2 A28.out).mono ?_); (case side1 => exact qCB HR0_5.out); (case side2 => exact HC0_5.out); (try clear A28); rintro e w33 ⟨rfl, hb⟩; replace BK137 := qW BK137 hb; replace HB := qH hb; (try clear hb)))
       go_meet
       case rel => exact ⟨_, (true), qT, H', ⟨by have := HJ4.out; first | omega | exact Nat.le_refl _⟩, ⟨qK BK137.out⟩, ⟨qB⟩⟩
      ·rw [zD c29] at H
       have c29b0 := zG c29
       clear c29
       replace H := qb H; obtain ⟨t146, A34, H⟩ := H
       by_cases c35 : t146 ≥ a1
       ·rw [zC c35] at H
        have c35b0 : decide (a1 ≤ t146) = true := zF c35
        clear c35
        have H' := zA H
        clear H
        have z36_0 := bk6 BK137.out
        go_wp2_with (first | ((with_reducible refine gate_callee (f := 18) rfl ?_); refine goesL_ (some 30) rfl rfl Tryd.func18 (by kernel_rfl) rfl #[.agg #[.int .i64 a0_0, .int .i64 a0_1, .int .i64 a0_2, .int .i64 a0_3, .string a0_4, .slice A0_5 l0_5.length c0_5]] rfl qL ?_; (with_reducible refine (cubbyref07_Def.calls a0_0 a0_1 a0_2 a0_3 a0_4 _ _ l0_5 t140 _ ?side1 ?side2 A19.out).mono ?_); (case side1 => exact qCB HR0_5.out); (case side2 => exact HC0_5.out); rintro e w37 ⟨rfl, hb⟩; refine ⟨_, rfl, ?_⟩; replace BK137 := qW BK137 hb; replace HB := qH hb; (try clear hb); have z38_0 := bk6 BK137.out) | (go_at_call 18; (with_reducible refine (cubbyref07_Def.calls a0_0 a0_1 a0_2 a0_3 a0_4 _ _ l0_5 t145 _ ?side1 ?side2 A28.out).mono ?_); (case side1 => exact qCB HR0_5.out); (case side2 => exact HC0_5.out); (try clear A28); rintro e w39 ⟨rfl, hb⟩; replace BK137 := qW BK137 hb; replace HB := qH hb; (try clear hb); have z40_0 := bk6 BK137.out) | (go_at_call 18; (with_reducible refine (cubbyref07_Def.calls a0_0 a0_1 a0_2 a0_3 a0_4 _ _ l0_5 t146 _ ?side1 ?side2 A34.out).mono ?_); (case side1 => exact qCB HR0_5.out); (case side2 => exact HC0_5.out); (try clear A34); rintro e w41 ⟨rfl, hb⟩; replace BK137 := qW BK137 hb; replace HB := qH hb; (try clear hb)))
        go_meet
        case rel => exact ⟨_, (true), qT, H', ⟨by have := HJ4.out; first | omega | exact Nat.le_refl _⟩, ⟨qK BK137.out⟩, ⟨qB⟩⟩
       ·rw [zD c35] at H
        have c35b0 : decide (a1 ≤ t146) = false := zG c35
        clear c35
        replace H := qb H; obtain ⟨t147, A42, H⟩ := H
        replace H := qb H; obtain ⟨t150, A43, H⟩ := H
        have H' := zA H
        clear H
        have z44_0 := bk6 BK137.out
        go_wp2_with (first | ((with_reducible refine gate_callee (f := 18) rfl ?_); refine goesL_ (some 30) rfl rfl Tryd.func18 (by kernel_rfl) rfl #[.agg #[.int .i64 a0_0, .int .i64 a0_1, .int .i64 a0_2, .int .i64 a0_3, .string a0_4, .slice A0_5 l0_5.length c0_5]] rfl qL ?_; (with_reducible refine (cubbyref07_Def.calls a0_0 a0_1 a0_2 a0_3 a0_4 _ _ l0_5 t140 _ ?side1 ?side2 A19.out).mono ?_); (case side1 => exact qCB HR0_5.out); (case side2 => exact HC0_5.out); rintro e w45 ⟨rfl, hb⟩; refine ⟨_, rfl, ?_⟩; replace BK137 := qW BK137 hb; replace HB := qH hb; (try clear hb); have z46_0 := bk6 BK137.out) | (go_at_call 18; (with_reducible refine (cubbyref07_Def.calls a0_0 a0_1 a0_2 a0_3 a0_4 _ _ l0_5 t145 _ ?side1 ?side2 A28.out).mono ?_); (case side1 => exact qCB HR0_5.out); (case side2 => exact HC0_5.out); (try clear A28); rintro e w47 ⟨rfl, hb⟩; replace BK137 := qW BK137 hb; replace HB := qH hb; (try clear hb); have z48_0 := bk6 BK137.out) | (go_at_call 18; (with_reducible refine (cubbyref07_Def.calls a0_0 a0_1 a0_2 a0_3 a0_4 _ _ l0_5 t146 _ ?side1 ?side2 A34.out).mono ?_); (case side1 => exact qCB HR0_5.out); (case side2 => exact HC0_5.out); (try clear A34); rintro e w49 ⟨rfl, hb⟩; replace BK137 := qW BK137 hb; replace HB := qH hb; (try clear hb); have z50_0 := bk6 BK137.out) | (go_at_call 17; (with_reducible refine (cubbyref07_Uses.calls kj4 a0_0 a0_1 a0_2 a0_3 a0_4 _ _ l0_5 t147 _ ?side1 ?side2 A42.out).mono ?_); (case side1 => exact qCB HR0_5.out); (case side2 => exact HC0_5.out); (try clear A42); rintro e w51 ⟨v148, rfl, ho0, hb⟩; have HO149 := zA (Kd.R_lower ho0 (below_size qB)); replace BK137 := qW BK137 hb; replace HB := qH hb; (try clear hb); (try clear ho0); obtain ⟨Ao52, co52, eo52⟩ := Kd.R_slice HO149.out; subst eo52) | (go_at_call 127; (with_reducible refine (cubbyref07_within.calls kj4 _ _ t147 a1 t150 _ ?side1 ?side2 A43.out).mono ?_); (case side1 => repeat (first | exact (Kd.R_reads' HO149.out).2.2 | (with_reducible refine Kd.C_alloc ?_ _) | (with_reducible refine Kd.C_drewN ?_ _) | (with_reducible refine Kd.C_drew ?_))); (case side2 => exact (Kd.R_reads' HO149.out).2.1); (try clear A43); rintro e w' ⟨rfl, ⟨nd, rfl⟩⟩))
        go_meet
        case rel => exact ⟨_, (!t150), qT, H', ⟨by have := HJ4.out; first | omega | exact Nat.le_refl _⟩, ⟨qK BK137.out⟩, ⟨qB⟩⟩
    case rest =>
     clear HC18
     obtain ⟨kq, x49_17, rfl, HA, HJ17, BK137, HB⟩ := hcut
     cases kq with
     | zero => exact absurd HA.out (by simp [cubbyref07_One.j1])
     | succ kj17 =>
      have H := HA.out
      clear HA
      simp only [cubbyref07_One.j1] at H
      by_cases c53 : x49_17 = true
      ·subst c53
       have H1 : (some 73) = some r := by rw [zC rfl] at H; exact H
       clear H
       have H := H1
       clear H1
       obtain rfl := zI H
       go_wp2
       go_ret
       exact ⟨qE, qB⟩
      ·replace c53 := Bool.eq_false_iff.mpr c53
       subst c53
       have H1 : ((cubbyref07_Def.f a0_0 a0_1 a0_2 a0_3 a0_4 l0_5).bind fun t151 => (if t151 = (-1) then (if a0_0 = 9 then (cubbyref07_One.j2 kj17 a2 false a0_0 a0_1 a0_2 a0_3 a0_4 l0_5) else (if a0_0 = 10 then (cubbyref07_One.j2 kj17 a2 false a0_0 a0_1 a0_2 a0_3 a0_4 l0_5) else ((cubbyref07_Last.f a0_0).bind fun t152 => (cubbyref07_One.j2 kj17 a2 (!t152) a0_0 a0_1 a0_2 a0_3 a0_4 l0_5)))) else (cubbyref07_One.j2 kj17 a2 false a0_0 a0_1 a0_2 a0_3 a0_4 l0_5))) = some r := by rw [zD (show ¬ (false = true) by decide)] at H; exact H
       clear H
       have H := H1
       clear H1
       have HC54 := zA H
       clear H
       go_upto_region 5 with (fail)
       go_cut [68] (fun v68 wc => ∃ (kq : Nat) (x68_53 : Bool), v68 = .bool x68_53 ∧ Aside0 (cubbyref07_One.j2 kq a2 x68_53 a0_0 a0_1 a0_2 a0_3 a0_4 l0_5 = some r) ∧ Aside0 (kq ≤ kj17) ∧ Aside0 (wc.heap[gb137]? = some (.cells #[.int .i64 a0_0, .int .i64 a0_1, .int .i64 a0_2, .int .i64 a0_3, .string a0_4, (.slice A0_5 l0_5.length c0_5)] 38 (0, 0))) ∧ Aside0 (Below w.heap.size w wc))
       case first =>
        have H := HC54.out
        clear HC54
        replace H := qb H; obtain ⟨t151, A55, H⟩ := H
        by_cases c56 : t151 = (-1)
        ·rw [zC c56] at H
         obtain ⟨c56b0, c56b1⟩ := qe c56; clear c56
         (first | rw [c56b0] | (simp only [i64_w, i32_w]; rw [c56b0]) | skip)
         by_cases c57 : a0_0 = 9
         ·rw [zC c57] at H
          obtain ⟨c57b0, c57b1⟩ := qe c57; clear c57
          have H' := zA H
          clear H
          have z58_0 := bk6 BK137.out
          go_wp2_with (first | ((with_reducible refine gate_callee (f := 18) rfl ?_); refine goesL_ (some 51) rfl rfl Tryd.func18 (by kernel_rfl) rfl #[.agg #[.int .i64 a0_0, .int .i64 a0_1, .int .i64 a0_2, .int .i64 a0_3, .string a0_4, .slice A0_5 l0_5.length c0_5]] rfl qL ?_; (with_reducible refine (cubbyref07_Def.calls a0_0 a0_1 a0_2 a0_3 a0_4 _ _ l0_5 t151 _ ?side1 ?side2 A55.out).mono ?_); (case side1 => exact qCB HR0_5.out); (case side2 => exact HC0_5.out); rintro e w59 ⟨rfl, hb⟩; refine ⟨_, rfl, ?_⟩; replace BK137 := qW BK137 hb; replace HB := qH hb; (try clear hb); have z60_0 := bk6 BK137.out))
          go_meet
          case rel => exact ⟨_, (false), qT, H', ⟨by have := HJ4.out; have := HJ17.out; first | omega | exact Nat.le_refl _⟩, ⟨qK BK137.out⟩, ⟨qB⟩⟩
         ·rw [zD c57] at H
          obtain ⟨c57b0, c57b1⟩ := qn c57
          by_cases c61 : a0_0 = 10
          ·rw [zC c61] at H
           obtain ⟨c61b0, c61b1⟩ := qe c61; clear c61
           have H' := zA H
           clear H
           have z62_0 := bk6 BK137.out
           go_wp2_with (first | ((with_reducible refine gate_callee (f := 18) rfl ?_); refine goesL_ (some 51) rfl rfl Tryd.func18 (by kernel_rfl) rfl #[.agg #[.int .i64 a0_0, .int .i64 a0_1, .int .i64 a0_2, .int .i64 a0_3, .string a0_4, .slice A0_5 l0_5.length c0_5]] rfl qL ?_; (with_reducible refine (cubbyref07_Def.calls a0_0 a0_1 a0_2 a0_3 a0_4 _ _ l0_5 t151 _ ?side1 ?side2 A55.out).mono ?_); (case side1 => exact qCB HR0_5.out); (case side2 => exact HC0_5.out); rintro e w63 ⟨rfl, hb⟩; refine ⟨_, rfl, ?_⟩; replace BK137 := qW BK137 hb; replace HB := qH hb; (try clear hb); have z64_0 := bk6 BK137.out))
           go_meet
           case rel => exact ⟨_, (false), qT, H', ⟨by have := HJ4.out; have := HJ17.out; first | omega | exact Nat.le_refl _⟩, ⟨qK BK137.out⟩, ⟨qB⟩⟩
          ·rw [zD c61] at H
           obtain ⟨c61b0, c61b1⟩ := qn c61
           replace H := qb H; obtain ⟨t152, A65, H⟩ := H
           have H' := zA H
           clear H
           have z66_0 := bk6 BK137.out
           go_wp2_with (first | ((with_reducible refine gate_callee (f := 18) rfl ?_); refine goesL_ (some 51) rfl rfl Tryd.func18 (by kernel_rfl) rfl #[.agg #[.int .i64 a0_0, .int .i64 a0_1, .int .i64 a0_2, .int .i64 a0_3, .string a0_4, .slice A0_5 l0_5.length c0_5]] rfl qL ?_; (with_reducible refine (cubbyref07_Def.calls a0_0 a0_1 a0_2 a0_3 a0_4 _ _ l0_5 t151 _ ?side1 ?side2 A55.out).mono ?_); (case side1 => exact qCB HR0_5.out); (case side2 => exact HC0_5.out); rintro e w67 ⟨rfl, hb⟩; refine ⟨_, rfl, ?_⟩; replace BK137 := qW BK137 hb; replace HB := qH hb; (try clear hb); have z68_0 := bk6 BK137.out) | (go_at_call 125; (with_reducible refine (cubbyref07_Last.calls a0_0 t152 _ A65.out).mono ?_); (try clear A65); rintro e w' ⟨rfl, ⟨nd, rfl⟩⟩))
           go_meet
           case rel => exact ⟨_, (!t152), qT, H', ⟨by have := HJ4.out; have := HJ17.out; first | omega | exact Nat.le_refl _⟩, ⟨qK BK137.out⟩, ⟨qB⟩⟩
        ·rw [zD c56] at H
         obtain ⟨c56b0, c56b1⟩ := qn c56
         (first | rw [c56b0] | (simp only [i64_w, i32_w]; rw [c56b0]) | skip)
         have H' := zA H
         clear H
         have z69_0 := bk6 BK137.out
         go_wp2_with (first | ((with_reducible refine gate_callee (f := 18) rfl ?_); refine goesL_ (some 51) rfl rfl Tryd.func18 (by kernel_rfl) rfl #[.agg #[.int .i64 a0_0, .int .i64 a0_1, .int .i64 a0_2, .int .i64 a0_3, .string a0_4, .slice A0_5 l0_5.length c0_5]] rfl qL ?_; (with_reducible refine (cubbyref07_Def.calls a0_0 a0_1 a0_2 a0_3 a0_4 _ _ l0_5 t151 _ ?side1 ?side2 A55.out).mono ?_); (case side1 => exact qCB HR0_5.out); (case side2 => exact HC0_5.out); rintro e w70 ⟨rfl, hb⟩; refine ⟨_, rfl, ?_⟩; replace BK137 := qW BK137 hb; replace HB := qH hb; (try clear hb)))
         go_meet
         case rel => exact ⟨_, (false), qT, H', ⟨by have := HJ4.out; have := HJ17.out; first | omega | exact Nat.le_refl _⟩, ⟨qK BK137.out⟩, ⟨qB⟩⟩
       case rest =>
        clear HC54
        obtain ⟨kq, x68_53, rfl, HA, HJ53, BK137, HB⟩ := hcut
        cases kq with
        | zero => exact absurd HA.out (by simp [cubbyref07_One.j2])
        | succ kj53 =>
         have H := HA.out
         clear HA
         simp only [cubbyref07_One.j2] at H
         by_cases c71 : x68_53 = true
         ·subst c71
          have H1 : (some 73) = some r := by rw [zC rfl] at H; exact H
          clear H
          have H := H1
          clear H1
          obtain rfl := zI H
          go_wp2
          go_ret
          exact ⟨qE, qB⟩
         ·replace c71 := Bool.eq_false_iff.mpr c71
          subst c71
          have H1 : (if a0_0 = 1 then (if a0_2 < 0 then (cubbyref07_One.j3 kj53 a2 true a0_0 a0_1 a0_2 a0_3 a0_4 l0_5) else (cubbyref07_One.j3 kj53 a2 (decide (a0_2 ≥ 65536)) a0_0 a0_1 a0_2 a0_3 a0_4 l0_5)) else (cubbyref07_One.j3 kj53 a2 false a0_0 a0_1 a0_2 a0_3 a0_4 l0_5)) = some r := by rw [zD (show ¬ (false = true) by decide)] at H; exact H
          clear H
          have H := H1
          clear H1
          have HC72 := zA H
          clear H
          go_upto_region 7 with (fail)
          go_cut [81] (fun v81 wc => ∃ (kq : Nat) (x81_71 : Bool), v81 = .bool x81_71 ∧ Aside0 (cubbyref07_One.j3 kq a2 x81_71 a0_0 a0_1 a0_2 a0_3 a0_4 l0_5 = some r) ∧ Aside0 (kq ≤ kj53) ∧ Aside0 (wc.heap[gb137]? = some (.cells #[.int .i64 a0_0, .int .i64 a0_1, .int .i64 a0_2, .int .i64 a0_3, .string a0_4, (.slice A0_5 l0_5.length c0_5)] 38 (0, 0))) ∧ Aside0 (Below w.heap.size w wc))
          case first =>
           have H := HC72.out
           clear HC72
           by_cases c73 : a0_0 = 1
           ·rw [zC c73] at H
            obtain ⟨c73b0, c73b1⟩ := qe c73; clear c73
            (first | rw [c73b0] | (simp only [i64_w, i32_w]; rw [c73b0]) | skip)
            by_cases c74 : a0_2 < 0
            ·rw [zC c74] at H
             have c74b0 := zF c74
             clear c74
             have H' := zA H
             clear H
             have z75_0 := bk6 BK137.out
             go_wp2
             go_meet
             case rel => exact ⟨_, (true), qT, H', ⟨by have := HJ4.out; have := HJ17.out; have := HJ53.out; first | omega | exact Nat.le_refl _⟩, ⟨qK BK137.out⟩, ⟨qB⟩⟩
            ·rw [zD c74] at H
             have c74b0 := zG c74
             clear c74
             have H' := zA H
             clear H
             have z76_0 := bk6 BK137.out
             go_wp2
             go_meet
             case rel => exact ⟨_, (decide (a0_2 ≥ 65536)), qT, H', ⟨by have := HJ4.out; have := HJ17.out; have := HJ53.out; first | omega | exact Nat.le_refl _⟩, ⟨qK BK137.out⟩, ⟨qB⟩⟩
           ·rw [zD c73] at H
            obtain ⟨c73b0, c73b1⟩ := qn c73
            (first | rw [c73b0] | (simp only [i64_w, i32_w]; rw [c73b0]) | skip)
            have H' := zA H
            clear H
            have z77_0 := bk6 BK137.out
            go_wp2
            go_meet
            case rel => exact ⟨_, (false), qT, H', ⟨by have := HJ4.out; have := HJ17.out; have := HJ53.out; first | omega | exact Nat.le_refl _⟩, ⟨qK BK137.out⟩, ⟨qB⟩⟩
          case rest =>
           clear HC72
           obtain ⟨kq, x81_71, rfl, HA, HJ71, BK137, HB⟩ := hcut
           cases kq with
           | zero => exact absurd HA.out (by simp [cubbyref07_One.j3])
           | succ kj71 =>
            have H := HA.out
            clear HA
            simp only [cubbyref07_One.j3] at H
            by_cases c78 : x81_71 = true
            ·subst c78
             have H1 : (some 81) = some r := by rw [zC rfl] at H; exact H
             clear H
             have H := H1
             clear H1
             obtain rfl := zI H
             go_wp2
             go_ret
             exact ⟨qE, qB⟩
            ·replace c78 := Bool.eq_false_iff.mpr c78
             subst c78
             have H1 : ((cubbyref07_Targets.f a0_0 a0_1 a0_2 a0_3 a0_4 l0_5).bind fun t153 => ((cubbyref07_within.f kj71 t153 a2).bind fun t156 => (if t156 = true then (if a0_0 = 11 then ((cubbyref07_Name.f kj71 a0_4).bind fun t157 => (cubbyref07_One.j4 kj71 (!t157) a0_0 a0_1 a0_2 a0_3 a0_4 l0_5)) else (cubbyref07_One.j4 kj71 false a0_0 a0_1 a0_2 a0_3 a0_4 l0_5)) else (some 74)))) = some r := by rw [zD (show ¬ (false = true) by decide)] at H; exact H
             clear H
             have H := H1
             clear H1
             replace H := qb H; obtain ⟨t153, A79, H⟩ := H
             replace H := qb H; obtain ⟨t156, A80, H⟩ := H
             by_cases c81 : t156 = true
             ·subst c81
              have H1 : (if a0_0 = 11 then ((cubbyref07_Name.f kj71 a0_4).bind fun t157 => (cubbyref07_One.j4 kj71 (!t157) a0_0 a0_1 a0_2 a0_3 a0_4 l0_5)) else (cubbyref07_One.j4 kj71 false a0_0 a0_1 a0_2 a0_3 a0_4 l0_5)) = some r := by rw [zC rfl] at H; exact H
              clear H
              have H := H1
              clear H1
              have HC82 := zA H
              clear H
              have z83_0 := bk6 BK137.out
              go_upto_region 11 with (first | ((with_reducible refine gate_callee (f := 128) rfl ?_); refine goesL_ (some 83) rfl rfl Tryd.func128 (by kernel_rfl) rfl #[.agg #[.int .i64 a0_0, .int .i64 a0_1, .int .i64 a0_2, .int .i64 a0_3, .string a0_4, .slice A0_5 l0_5.length c0_5]] rfl qL ?_; (with_reducible refine (cubbyref07_Targets.calls a0_0 a0_1 a0_2 a0_3 a0_4 _ _ l0_5 t153 _ ?side1 ?side2 A79.out).mono ?_); (case side1 => exact qCB HR0_5.out); (case side2 => exact HC0_5.out); rintro e w84 ⟨v154, rfl, ho0, hb⟩; refine ⟨_, rfl, ?_⟩; have HO155 := zA (Kd.R_lower ho0 (below_size qB)); replace BK137 := qW BK137 hb; replace HB := qH hb; (try clear hb); (try clear ho0); obtain ⟨Ao85, co85, eo85⟩ := Kd.R_slice HO155.out; subst eo85) | ((with_reducible refine gate_callee (f := 127) rfl ?_); refine goesL_ (some 85) rfl rfl Tryd.func127 (by kernel_rfl) rfl #[.slice Ao85 t153.length co85, .int .i64 a2] rfl qL ?_; (with_reducible refine (cubbyref07_within.calls kj71 _ _ t153 a2 true _ ?side1 ?side2 A80.out).mono ?_); (case side1 => repeat (first | exact (Kd.R_reads' HO155.out).2.2 | (with_reducible refine Kd.C_alloc ?_ _) | (with_reducible refine Kd.C_drewN ?_ _) | (with_reducible refine Kd.C_drew ?_))); (case side2 => exact (Kd.R_reads' HO155.out).2.1); rintro e w' ⟨rfl, ⟨nd, rfl⟩⟩; refine ⟨_, rfl, ?_⟩))
              (try simp only [Act.put, List.setIfInBounds_toArray, List.set_cons_zero, List.set_cons_succ])
              go_cut [95] (fun v95 wc => ∃ (kq : Nat) (x95_81 : Bool), v95 = .bool x95_81 ∧ Aside0 (cubbyref07_One.j4 kq x95_81 a0_0 a0_1 a0_2 a0_3 a0_4 l0_5 = some r) ∧ Aside0 (kq ≤ kj71) ∧ Aside0 (wc.heap[gb137]? = some (.cells #[.int .i64 a0_0, .int .i64 a0_1, .int .i64 a0_2, .int .i64 a0_3, .string a0_4, (.slice A0_5 l0_5.length c0_5)] 38 (0, 0))) ∧ Aside0 (Below w.heap.size w wc))
              case first =>
               have H := HC82.out
               clear HC82
               by_cases c86 : a0_0 = 11
               ·rw [zC c86] at H
                obtain ⟨c86b0, c86b1⟩ := qe c86; clear c86
                (first | rw [c86b0] | (simp only [i64_w, i32_w]; rw [c86b0]) | skip)
                replace H := qb H; obtain ⟨t157, A87, H⟩ := H
                have H' := zA H
                clear H
                have z88_0 := bk6 BK137.out
                go_wp2_with (first | (go_at_call 61; (with_reducible refine (cubbyref07_Name.calls kj71 a0_4 t157 _ A87.out).mono ?_); (try clear A87); rintro e w' ⟨rfl, ⟨nd, rfl⟩⟩))
                go_meet
                case rel => exact ⟨_, (!t157), qT, H', ⟨by have := HJ4.out; have := HJ17.out; have := HJ53.out; have := HJ71.out; first | omega | exact Nat.le_refl _⟩, ⟨qK BK137.out⟩, ⟨qB⟩⟩
               ·rw [zD c86] at H
                obtain ⟨c86b0, c86b1⟩ := qn c86
                (first | rw [c86b0] | (simp only [i64_w, i32_w]; rw [c86b0]) | skip)
                have H' := zA H
                clear H
                have z89_0 := bk6 BK137.out
                go_wp2
                go_meet
                case rel => exact ⟨_, (false), qT, H', ⟨by have := HJ4.out; have := HJ17.out; have := HJ53.out; have := HJ71.out; first | omega | exact Nat.le_refl _⟩, ⟨qK BK137.out⟩, ⟨qB⟩⟩
              case rest =>
               clear HC82
               obtain ⟨kq, x95_81, rfl, HA, HJ81, BK137, HB⟩ := hcut
               cases kq with
               | zero => exact absurd HA.out (by simp [cubbyref07_One.j4])
               | succ kj81 =>
                have H := HA.out
                clear HA
                simp only [cubbyref07_One.j4] at H
                by_cases c90 : x95_81 = true
                ·subst c90
                 have H1 : (some 70) = some r := by rw [zC rfl] at H; exact H
                 clear H
                 have H := H1
                 clear H1
                 obtain rfl := zI H
                 go_wp2
                 go_ret
                 exact ⟨qE, qB⟩
                ·replace c90 := Bool.eq_false_iff.mpr c90
                 subst c90
                 have H1 : (if a0_0 = 11 then (if (l0_5.length : Int) > 4 then (some 192) else (some 0)) else (some 0)) = some r := by rw [zD (show ¬ (false = true) by decide)] at H; exact H
                 clear H
                 have H := H1
                 clear H1
                 by_cases c91 : a0_0 = 11
                 ·rw [zC c91] at H
                  obtain ⟨c91b0, c91b1⟩ := qe c91; clear c91
                  by_cases c92 : (l0_5.length : Int) > 4
                  ·rw [zC c92] at H
                   have c92b0 : decide (4 < (l0_5.length : Int)) = true := zF c92
                   have c92b1 : decide (4 < l0_5.length) = true := zF (by omega)
                   clear c92
                   obtain rfl := zI H
                   have z93_0 := bk6 BK137.out
                   go_wp2
                   go_ret
                   exact ⟨qE, qB⟩
                  ·rw [zD c92] at H
                   have c92b0 : decide (4 < (l0_5.length : Int)) = false := zG c92
                   have c92b1 : decide (4 < l0_5.length) = false := zG (by omega)
                   clear c92
                   obtain rfl := zI H
                   have z94_0 := bk6 BK137.out
                   go_wp2
                   go_ret
                   exact ⟨qE, qB⟩
                 ·rw [zD c91] at H
                  obtain ⟨c91b0, c91b1⟩ := qn c91
                  obtain rfl := zI H
                  have z95_0 := bk6 BK137.out
                  go_wp2
                  go_ret
                  exact ⟨qE, qB⟩
             ·replace c81 := Bool.eq_false_iff.mpr c81
              subst c81
              have H1 : (some 74) = some r := by rw [zD (show ¬ (false = true) by decide)] at H; exact H
              clear H
              have H := H1
              clear H1
              obtain rfl := zI H
              have z96_0 := bk6 BK137.out
              go_wp2_with (first | ((with_reducible refine gate_callee (f := 128) rfl ?_); refine goesL_ (some 83) rfl rfl Tryd.func128 (by kernel_rfl) rfl #[.agg #[.int .i64 a0_0, .int .i64 a0_1, .int .i64 a0_2, .int .i64 a0_3, .string a0_4, .slice A0_5 l0_5.length c0_5]] rfl qL ?_; (with_reducible refine (cubbyref07_Targets.calls a0_0 a0_1 a0_2 a0_3 a0_4 _ _ l0_5 t153 _ ?side1 ?side2 A79.out).mono ?_); (case side1 => exact qCB HR0_5.out); (case side2 => exact HC0_5.out); rintro e w97 ⟨v154, rfl, ho0, hb⟩; refine ⟨_, rfl, ?_⟩; have HO155 := zA (Kd.R_lower ho0 (below_size qB)); replace BK137 := qW BK137 hb; replace HB := qH hb; (try clear hb); (try clear ho0); obtain ⟨Ao98, co98, eo98⟩ := Kd.R_slice HO155.out; subst eo98) | ((with_reducible refine gate_callee (f := 127) rfl ?_); refine goesL_ (some 85) rfl rfl Tryd.func127 (by kernel_rfl) rfl #[.slice Ao98 t153.length co98, .int .i64 a2] rfl qL ?_; (with_reducible refine (cubbyref07_within.calls kj71 _ _ t153 a2 false _ ?side1 ?side2 A80.out).mono ?_); (case side1 => repeat (first | exact (Kd.R_reads' HO155.out).2.2 | (with_reducible refine Kd.C_alloc ?_ _) | (with_reducible refine Kd.C_drewN ?_ _) | (with_reducible refine Kd.C_drew ?_))); (case side2 => exact (Kd.R_reads' HO155.out).2.1); rintro e w' ⟨rfl, ⟨nd, rfl⟩⟩; refine ⟨_, rfl, ?_⟩))
              go_ret
              exact ⟨qE, qB⟩

mutual
def cubbyref07_Shape.j0 : Nat → List (List (SIns)) → Bool → Option (Bool)
 | 0, _, _ => none
 | k + 1, x2, x33 => if x33 = true then (some false) else (cubbyref07_Shape.l0 k x2 0 0)
def cubbyref07_Shape.l0 : Nat → List (List (SIns)) → Int → Int → Option (Bool)
 | 0, _, _, _ => none
 | k + 1, x2, x7, x8 => if x8 < (x2.length : Int) then (if 0 ≤ x8 then (if ((rd_LIns x2 x8).length : Int) = 0 then (some false) else (if ((rd_LIns x2 x8).length : Int) > 200 then (some false) else (cubbyref07_Shape.l0 k x2 (wrap64 (x7 + ((rd_LIns x2 x8).length : Int))) (wrap64 (x8 + 1))))) else (none)) else (some (decide (x7 ≤ 200)))
end
def cubbyref07_Shape.f (k : Nat) (a0 : Int) (a1 : Int) (l2 : List (List (SIns))) : Option (Bool) := if a0 < 0 then (cubbyref07_Shape.j0 k l2 true) else (if a0 > 4 then (cubbyref07_Shape.j0 k l2 true) else (if a1 < a0 then (cubbyref07_Shape.j0 k l2 true) else (if a1 > 64 then (cubbyref07_Shape.j0 k l2 true) else (if (l2.length : Int) < 1 then (cubbyref07_Shape.j0 k l2 true) else (cubbyref07_Shape.j0 k l2 (decide ((l2.length : Int) > 32)))))))
set_option maxHeartbeats 8000000 in
set_option maxRecDepth 100000 in
theorem cubbyref07_Shape.calls (k : Nat) (a0 : Int) (a1 : Int) (A2 : Option Addr) (c2 : Nat) (l2 : List (List (SIns))) (r : Bool) (w : World) (hr2 : Kd.C (Kd.slice 38 kIns) w A2 l2.length l2) (hc2 : l2.length ≤ c2) (h : cubbyref07_Shape.f k a0 a1 l2 = some r) :
 Calls Tryd.prog 87 #[.int .i64 a0, .int .i64 a1, .slice A2 l2.length c2] w fun e w' => e = .returned (.bool r) ∧ Drawn0 w w' := by
 have HR2 := zA hr2
 have HC2 := zA hc2
 clear hr2 hc2
 have H := h; clear h; unfold cubbyref07_Shape.f at H
 have HC4 := zA H
 clear H
 go_enter Tryd.func87, Tryd.ntmps87
 go_upto_region 1 with (fail)
 go_cut [33] (fun v33 wc => ∃ (kq : Nat) (x33_3 : Bool), v33 = .bool x33_3 ∧ Aside0 (cubbyref07_Shape.j0 kq l2 x33_3 = some r) ∧ Aside0 (kq ≤ k) ∧ Drawn0 w wc)
 case first =>
  have H := HC4.out
  clear HC4
  by_cases c5 : a0 < 0
  ·rw [zC c5] at H
   have c5b0 := zF c5
   clear c5
   (first | rw [c5b0] | (simp only [i64_w, i32_w]; rw [c5b0]) | skip)
   have H' := zA H
   clear H
   go_wp2
   go_meet
   case rel => exact ⟨_, (true), qT, H', ⟨qO⟩, qD⟩
  ·rw [zD c5] at H
   have c5b0 := zG c5
   clear c5
   (first | rw [c5b0] | (simp only [i64_w, i32_w]; rw [c5b0]) | skip)
   by_cases c6 : a0 > 4
   ·rw [zC c6] at H
    have c6b0 : decide (4 < a0) = true := zF c6
    clear c6
    have H' := zA H
    clear H
    go_wp2
    go_meet
    case rel => exact ⟨_, (true), qT, H', ⟨qO⟩, qD⟩
   ·rw [zD c6] at H
    have c6b0 : decide (4 < a0) = false := zG c6
    clear c6
    by_cases c7 : a1 < a0
    ·rw [zC c7] at H
     have c7b0 := zF c7
     clear c7
     have H' := zA H
     clear H
     go_wp2
     go_meet
     case rel => exact ⟨_, (true), qT, H', ⟨qO⟩, qD⟩
    ·rw [zD c7] at H
     have c7b0 := zG c7
     clear c7
     by_cases c8 : a1 > 64
     ·rw [zC c8] at H
      have c8b0 : decide (64 < a1) = true := zF c8
      clear c8
      have H' := zA H
      clear H
      go_wp2
      go_meet
      case rel => exact ⟨_, (true), qT, H', ⟨qO⟩, qD⟩
     ·rw [zD c8] at H
      have c8b0 : decide (64 < a1) = false := zG c8
      clear c8
      by_cases c9 : (l2.length : Int) < 1
      ·rw [zC c9] at H
       have c9b0 := zF c9
       have c9b1 : decide (l2.length < 1) = true := zF (by omega)
       clear c9
       have H' := zA H
       clear H
       go_wp2
       go_meet
       case rel => exact ⟨_, (true), qT, H', ⟨qO⟩, qD⟩
      ·rw [zD c9] at H
       have c9b0 := zG c9
       have c9b1 : decide (l2.length < 1) = false := zG (by omega)
       clear c9
       have H' := zA H
       clear H
       go_wp2
       go_meet
       case rel => exact ⟨_, (decide ((l2.length : Int) > 32)), qT, H', ⟨qO⟩, qD⟩
 case rest =>
  clear HC4
  obtain ⟨kq, x33_3, rfl, HA, HJ3, ⟨mc3, rfl⟩⟩ := hcut
  cases kq with
  | zero => exact absurd HA.out (by simp [cubbyref07_Shape.j0])
  | succ kj3 =>
   have H := HA.out
   clear HA
   simp only [cubbyref07_Shape.j0] at H
   by_cases c10 : x33_3 = true
   ·subst c10
    have H1 : (some false) = some r := by rw [zC rfl] at H; exact H
    clear H
    have H := H1
    clear H1
    obtain rfl := zI H
    go_wp2
    go_ret
    exact ⟨by first | rfl | (simp; done) | (simp [*]; done), qD⟩
   ·replace c10 := Bool.eq_false_iff.mpr c10
    subst c10
    have H1 : (cubbyref07_Shape.l0 kj3 l2 0 0) = some r := by rw [zD (show ¬ (false = true) by decide)] at H; exact H
    clear H
    have H := H1
    clear H1
    have H' := zA H
    clear H
    go_wp2
    go_loopg [7, 8] kj3 (fun kq v7 v8 w' => ∃ (x7_2 : Int) (x8_2 : Int), v7 = .int .i64 x7_2 ∧ v8 = .int .i64 x8_2 ∧ Aside0 (cubbyref07_Shape.l0 kq l2 x7_2 x8_2 = some r) ∧ Aside0 (kq ≤ kj3) ∧ Drawn0 w w')
    case atStart => exact ⟨(0), (0), qT, qT, H', ⟨Nat.le_refl _⟩, qD⟩
    case round =>
     clear H'
     obtain ⟨x7_2, x8_2, rfl, rfl, HA, HK2, ⟨m2, rfl⟩⟩ := hrel
     cases gk with
     | zero => exact absurd HA.out (by simp [cubbyref07_Shape.l0])
     | succ k2 =>
      have H := HA.out
      clear HA
      simp only [cubbyref07_Shape.l0] at H
      by_cases c11 : x8_2 < (l2.length : Int)
      ·rw [zC c11] at H
       have c11b0 := zF c11
       clear c11
       by_cases c12 : 0 ≤ x8_2
       ·rw [zC c12] at H
        have c12b0 := zF c12
        clear c12
        by_cases c13 : ((rd_LIns l2 x8_2).length : Int) = 0
        ·rw [zC c13] at H
         obtain ⟨c13b0, c13b1⟩ := qe c13; clear c13
         obtain rfl := zI H
         have p101 : 0 ≤ (x8_2 : Int) := zB qA
         have q101 : x8_2 < (l2.length : Int) := zB qA
         obtain ⟨ad101, A101_0, c101_0, e101, hx101_0, hl101_0, hi101_0⟩ := at_LIns HR2.out x8_2 p101 q101
         cases e101
         have HR101_0 := zA hi101_0
         have HC101_0 := zA hl101_0
         clear hi101_0 hl101_0
         replace p101 := eq_true p101
         replace q101 := eq_true q101
         go_wp2
         go_ret
         exact ⟨by first | rfl | (simp; done) | (simp [*]; done), qD⟩
        ·rw [zD c13] at H
         obtain ⟨c13b0, c13b1⟩ := qn c13
         have c13b2 : ¬ ((rd_LIns l2 x8_2) = []) := fun h_ => c13 (by rw [h_]; rfl)
         by_cases c14 : ((rd_LIns l2 x8_2).length : Int) > 200
         ·rw [zC c14] at H
          have c14b0 : decide (200 < ((rd_LIns l2 x8_2).length : Int)) = true := zF c14
          have c14b1 : decide (200 < (rd_LIns l2 x8_2).length) = true := zF (by omega)
          clear c14
          obtain rfl := zI H
          have p101 : 0 ≤ (x8_2 : Int) := zB qA
          have q101 : x8_2 < (l2.length : Int) := zB qA
          obtain ⟨ad101, A101_0, c101_0, e101, hx101_0, hl101_0, hi101_0⟩ := at_LIns HR2.out x8_2 p101 q101
          cases e101
          have HR101_0 := zA hi101_0
          have HC101_0 := zA hl101_0
          clear hi101_0 hl101_0
          replace p101 := eq_true p101
          replace q101 := eq_true q101
          have p102 : 0 ≤ (x8_2 : Int) := zB qA
          have q102 : x8_2 < (l2.length : Int) := zB qA
          obtain ⟨ad102, A102_0, c102_0, e102, hx102_0, hl102_0, hi102_0⟩ := at_LIns HR2.out x8_2 p102 q102
          obtain rfl : ad101 = ad102 := (by injection e102)
          have HR102_0 := zA hi102_0
          have HC102_0 := zA hl102_0
          clear hi102_0 hl102_0
          replace p102 := eq_true p102
          replace q102 := eq_true q102
          have ea_ := zI (hx101_0.symm.trans hx102_0)
          injection ea_ with ea_ en_ ec_
          subst ea_
          subst ec_
          clear en_
          go_wp2
          go_ret
          exact ⟨by first | rfl | (simp; done) | (simp [*]; done), qD⟩
         ·rw [zD c14] at H
          have c14b0 : decide (200 < ((rd_LIns l2 x8_2).length : Int)) = false := zG c14
          have c14b1 : decide (200 < (rd_LIns l2 x8_2).length) = false := zG (by omega)
          clear c14
          have H' := zA H
          clear H
          have p101 : 0 ≤ (x8_2 : Int) := zB qA
          have q101 : x8_2 < (l2.length : Int) := zB qA
          obtain ⟨ad101, A101_0, c101_0, e101, hx101_0, hl101_0, hi101_0⟩ := at_LIns HR2.out x8_2 p101 q101
          cases e101
          have HR101_0 := zA hi101_0
          have HC101_0 := zA hl101_0
          clear hi101_0 hl101_0
          replace p101 := eq_true p101
          replace q101 := eq_true q101
          have p102 : 0 ≤ (x8_2 : Int) := zB qA
          have q102 : x8_2 < (l2.length : Int) := zB qA
          obtain ⟨ad102, A102_0, c102_0, e102, hx102_0, hl102_0, hi102_0⟩ := at_LIns HR2.out x8_2 p102 q102
          obtain rfl : ad101 = ad102 := (by injection e102)
          have HR102_0 := zA hi102_0
          have HC102_0 := zA hl102_0
          clear hi102_0 hl102_0
          replace p102 := eq_true p102
          replace q102 := eq_true q102
          have ea_ := zI (hx101_0.symm.trans hx102_0)
          injection ea_ with ea_ en_ ec_
          subst ea_
          subst ec_
          clear en_
          have p103 : 0 ≤ (x8_2 : Int) := zB qA
          have q103 : x8_2 < (l2.length : Int) := zB qA
          obtain ⟨ad103, A103_0, c103_0, e103, hx103_0, hl103_0, hi103_0⟩ := at_LIns HR2.out x8_2 p103 q103
          obtain rfl : ad101 = ad103 := (by injection e103)
          have HR103_0 := zA hi103_0
          have HC103_0 := zA hl103_0
          clear hi103_0 hl103_0
          replace p103 := eq_true p103
          replace q103 := eq_true q103
          have ea_ := zI (hx101_0.symm.trans hx103_0)
          injection ea_ with ea_ en_ ec_
          subst ea_
          subst ec_
          clear en_
          go_wp2
          go_roundg k2
          case measure => have := HJ3.out; have := HK2.out; omega
          case rel => exact ⟨(wrap64 (x7_2 + ((rd_LIns l2 x8_2).length : Int))), (wrap64 (x8_2 + 1)), qT, qT, H', ⟨by have := HJ3.out; have := HK2.out; omega⟩, qD⟩
       ·rw [zD c12] at H
        exact absurd H (by simp)
      ·rw [zD c11] at H
       have c11b0 := zG c11
       clear c11
       obtain rfl := zI H
       go_wp2
       go_ret
       exact ⟨by first | rfl | (simp; done) | (simp [*]; done), qD⟩

mutual
def cubbyref07_Check.l0 : Nat → Int → ByteArray → Int → Int → List (List (SIns)) → Option (Int)
 | 0, _, _, _, _, _ => none
 | k + 1, x3, x159000, x159001, x159002, x159003 => if x3 < (x159003.length : Int) then (cubbyref07_Check.l1 k x3 0 x159000 x159001 x159002 x159003) else (some 0)
def cubbyref07_Check.l1 : Nat → Int → Int → ByteArray → Int → Int → List (List (SIns)) → Option (Int)
 | 0, _, _, _, _, _, _ => none
 | k + 1, x3, x4, x159000, x159001, x159002, x159003 => if 0 ≤ x3 then (if x3 < (x159003.length : Int) then (if x4 < ((rd_LIns x159003 x3).length : Int) then (if 0 ≤ x4 then ((cubbyref07_One.f k ((rd_TIns (rd_LIns x159003 x3) x4).f0) ((rd_TIns (rd_LIns x159003 x3) x4).f1) ((rd_TIns (rd_LIns x159003 x3) x4).f2) ((rd_TIns (rd_LIns x159003 x3) x4).f3) ((rd_TIns (rd_LIns x159003 x3) x4).f4) ((rd_TIns (rd_LIns x159003 x3) x4).f5) x159002 (x159003.length : Int) (x4 == (wrap64 (((rd_LIns x159003 x3).length : Int) - 1)))).bind fun t165 => (if t165 = 0 then (cubbyref07_Check.l1 k x3 (wrap64 (x4 + 1)) x159000 x159001 x159002 x159003) else (some t165))) else (none)) else (cubbyref07_Check.l0 k (wrap64 (x3 + 1)) x159000 x159001 x159002 x159003)) else (none)) else (none)
end
def cubbyref07_Check.f (k : Nat) (a0_0 : ByteArray) (a0_1 : Int) (a0_2 : Int) (l0_3 : List (List (SIns))) : Option (Int) := (cubbyref07_Name.f k a0_0).bind fun t159 => (if t159 = true then ((cubbyref07_Shape.f k a0_1 a0_2 l0_3).bind fun t160 => (if t160 = true then (cubbyref07_Check.l0 k 0 a0_0 a0_1 a0_2 l0_3) else (some 71))) else (some 70))
def cubbyref07_Check.T11 : Bool × List (List Nat × List Nat) := (true, [([], []), ([0], [0]), ([], []), ([1, 2], [1, 2]), ([3], [3]), ([], []), ([4, 5], [4, 5]), ([6], [6]), ([], []), ([8], [8]), ([], []), ([10], [10]), ([11], [11]), ([], []), ([], []), ([14], [14]), ([], []), ([15, 16], [15, 16]), ([17], [17]), ([18], [18]), ([19], [19]), ([13, 20], [13, 20]), ([7, 9, 12, 21], [7, 9, 12, 21]), ([22, 22, 0, 1, 2, 3, 4, 5, 6, 7, 8, 9, 10, 11, 12, 13, 14, 15, 16, 17, 18, 19, 20, 21, 22], [22])])
def cubbyref07_Check.B11 : List Nat := [0, 1, 0, 7, 15, 0, 63, 127, 0, 256, 0, 1024, 3072, 0, 0, 16384, 0, 114688, 245760, 507904, 1032192, 2088960, 4194303, 8388607]
theorem cubbyref07_Check.tab11 : rtab .any (opsOf Tryd.f48 11) = cubbyref07_Check.T11 := by kernel_rfl
theorem cubbyref07_Check.bits11 : waitsOk cubbyref07_Check.T11.2 cubbyref07_Check.B11 = true := by kernel_rfl
set_option maxHeartbeats 8000000 in
set_option maxRecDepth 100000 in
theorem cubbyref07_Check.calls (k : Nat) (a0_0 : ByteArray) (a0_1 : Int) (a0_2 : Int) (A0_3 : Option Addr) (c0_3 : Nat) (l0_3 : List (List (SIns))) (r : Int) (w : World) (hr0_3 : Kd.C (Kd.slice 38 kIns) w A0_3 l0_3.length l0_3) (hc0_3 : l0_3.length ≤ c0_3) (h : cubbyref07_Check.f k a0_0 a0_1 a0_2 l0_3 = some r) :
 Calls Tryd.prog 48 #[.agg #[.string a0_0, .int .i64 a0_1, .int .i64 a0_2, .slice A0_3 l0_3.length c0_3]] w fun e w' => e = .returned (.int .i64 r) ∧ Below w.heap.size w w' := by
 have hu24 := Tryd.underlying24
 have hu38 := Tryd.underlying38
 have HR0_3 := zA hr0_3
 have HC0_3 := zA hc0_3
 clear hr0_3 hc0_3
 have HB := zA (Below.refl w.heap.size w)
 have H := h; clear h; unfold cubbyref07_Check.f at H
 replace H := qb H; obtain ⟨t159, A2, H⟩ := H
 by_cases c3 : t159 = true
 ·subst c3
  have H1 : ((cubbyref07_Shape.f k a0_1 a0_2 l0_3).bind fun t160 => (if t160 = true then (cubbyref07_Check.l0 k 0 a0_0 a0_1 a0_2 l0_3) else (some 71))) = some r := by rw [zC rfl] at H; exact H
  clear H
  have H := H1
  clear H1
  replace H := qb H; obtain ⟨t160, A4, H⟩ := H
  by_cases c5 : t160 = true
  ·subst c5
   have H1 : (cubbyref07_Check.l0 k 0 a0_0 a0_1 a0_2 l0_3) = some r := by rw [zC rfl] at H; exact H
   clear H
   have H := H1
   clear H1
   have H' := zA H
   clear H
   go_enter Tryd.func48, Tryd.ntmps48
   go_wp2_with (first | ((with_reducible refine gate_dst (N := 1) rfl ?_); refine box_event (by rfl) (N := 1) (by rfl) (cs := #[.string a0_0, .int .i64 a0_1, .int .i64 a0_2, .slice A0_3 l0_3.length c0_3]) (t := 24) ?hr ?_; (case hr => go_simp <;> rfl); intro gb158 hg w6 hbox hb; have BK158 := zA (hbox); have GW158 := qG hg; have GE158 := GW158; replace HB := qH hb; clear hb hbox hg; have z7_0 := bk4 BK158.out) | ((with_reducible refine gate_callee (f := 61) rfl ?_); refine goesL_ (some 8) rfl rfl Tryd.func61 (by kernel_rfl) rfl #[.string a0_0] rfl qL ?_; (with_reducible refine (cubbyref07_Name.calls k a0_0 true _ A2.out).mono ?_); rintro e w' ⟨rfl, ⟨nd, rfl⟩⟩; refine ⟨_, rfl, ?_⟩) | ((with_reducible refine gate_callee (f := 87) rfl ?_); refine goesL_ (some 16) rfl rfl Tryd.func87 (by kernel_rfl) rfl #[.int .i64 a0_1, .int .i64 a0_2, .slice A0_3 l0_3.length c0_3] rfl qL ?_; (with_reducible refine (cubbyref07_Shape.calls k a0_1 a0_2 _ _ l0_3 true _ ?side1 ?side2 A4.out).mono ?_); (case side1 => repeat (first | exact (Kd.C_below HR0_3.out qB) | (with_reducible refine Kd.C_alloc ?_ _) | (with_reducible refine Kd.C_drewN ?_ _) | (with_reducible refine Kd.C_drew ?_))); (case side2 => exact HC0_3.out); rintro e w' ⟨rfl, ⟨nd, rfl⟩⟩; refine ⟨_, rfl, ?_⟩))
   go_loopg [3] k (fun kq v3 w' => ∃ (x3_1 : Int), v3 = .int .i64 x3_1 ∧ Aside0 (cubbyref07_Check.l0 kq x3_1 a0_0 a0_1 a0_2 l0_3 = some r) ∧ Aside0 (kq ≤ k) ∧ Aside0 (w'.heap[gb158]? = some (.cells #[.string a0_0, .int .i64 a0_1, .int .i64 a0_2, (.slice A0_3 l0_3.length c0_3)] 24 (0, 0))) ∧ Aside0 (Below w.heap.size w w'))
   case atStart => exact ⟨(0), qT, H', ⟨Nat.le_refl _⟩, ⟨qK BK158.out⟩, ⟨qB⟩⟩
   case round =>
    clear H'
    obtain ⟨x3_1, rfl, HA, HK1, BK158, HB⟩ := hrel
    cases gk with
    | zero => exact absurd HA.out (by simp [cubbyref07_Check.l0])
    | succ k1 =>
     have H := HA.out
     clear HA
     simp only [cubbyref07_Check.l0] at H
     by_cases c8 : x3_1 < (l0_3.length : Int)
     ·rw [zC c8] at H
      have c8b0 := zF c8
      clear c8
      have H' := zA H
      clear H
      have z9_0 := bk4 BK158.out
      go_wp2
      go_loopg [4] k1 (fun kq v4 w' => ∃ (x4_2 : Int), v4 = .int .i64 x4_2 ∧ Aside0 (cubbyref07_Check.l1 kq x3_1 x4_2 a0_0 a0_1 a0_2 l0_3 = some r) ∧ Aside0 (kq ≤ k1) ∧ Aside0 (w'.heap[gb158]? = some (.cells #[.string a0_0, .int .i64 a0_1, .int .i64 a0_2, (.slice A0_3 l0_3.length c0_3)] 24 (0, 0))) ∧ Aside0 (Below w.heap.size w w'))
      case atStart => exact ⟨(0), qT, H', ⟨Nat.le_refl _⟩, ⟨qK BK158.out⟩, ⟨qB⟩⟩
      case round =>
       clear H'
       obtain ⟨x4_2, rfl, HA, HK2, BK158, HB⟩ := hrel
       cases gk with
       | zero => exact absurd HA.out (by simp [cubbyref07_Check.l1])
       | succ k2 =>
        have H := HA.out
        clear HA
        simp only [cubbyref07_Check.l1] at H
        by_cases c10 : 0 ≤ x3_1
        ·rw [zC c10] at H
         have c10b0 := zF c10
         clear c10
         by_cases c11 : x3_1 < (l0_3.length : Int)
         ·rw [zC c11] at H
          have c11b0 := zF c11
          clear c11
          by_cases c12 : x4_2 < ((rd_LIns l0_3 x3_1).length : Int)
          ·rw [zC c12] at H
           have c12b0 := zF c12
           clear c12
           by_cases c13 : 0 ≤ x4_2
           ·rw [zC c13] at H
            have c13b0 := zF c13
            clear c13
            replace H := qb H; obtain ⟨t165, A14, H⟩ := H
            by_cases c15 : t165 = 0
            ·rw [zC c15] at H
             obtain ⟨c15b0, c15b1⟩ := qe c15; clear c15
             have H' := zA H
             clear H
             have z16_0 := bk4 BK158.out
             have p161 : 0 ≤ (x3_1 : Int) := zB qA
             have q161 : x3_1 < (l0_3.length : Int) := zB qA
             obtain ⟨ad161, A161_0, c161_0, e161, hx161_0, hl161_0, hi161_0⟩ := at_LIns HR0_3.out x3_1 p161 q161
             cases e161
             replace hx161_0 := (HB.out.cell (zE w _ hx161_0)).trans hx161_0
             have HR161_0 := zA hi161_0
             have HC161_0 := zA hl161_0
             clear hi161_0 hl161_0
             replace p161 := eq_true p161
             replace q161 := eq_true q161
             try go_wp2
             have n0_ := zA (blk_drew BK158.out)
             have n1_ := zA (below_drew1 HB.out)
             clear BK158
             clear HB
             have BK158 := n0_
             have HB := n1_
             clear n0_ n1_
             have p162 : 0 ≤ (x3_1 : Int) := zB qA
             have q162 : x3_1 < (l0_3.length : Int) := zB qA
             obtain ⟨ad162, A162_0, c162_0, e162, hx162_0, hl162_0, hi162_0⟩ := at_LIns HR0_3.out x3_1 p162 q162
             have hw162_0 := hx162_0
             obtain rfl : ad161 = ad162 := (by injection e162)
             replace hx162_0 := (HB.out.cell (zE w _ hx162_0)).trans hx162_0
             have HR162_0 := zA hi162_0
             have HC162_0 := zA hl162_0
             clear hi162_0 hl162_0
             replace p162 := eq_true p162
             replace q162 := eq_true q162
             have p163 : 0 ≤ (x4_2 : Int) := zB qA
             have q163 : x4_2 < ((rd_LIns l0_3 x3_1).length : Int) := zB qA
             obtain ⟨ad163, A163_5, c163_5, e163, hx163_0, hx163_1, hx163_2, hx163_3, hx163_4, hx163_5, hl163_5, hi163_5⟩ := at_TIns HR162_0.out x4_2 p163 q163
             have hw163_5 := hx163_5
             have hw163_4 := hx163_4
             have hw163_3 := hx163_3
             have hw163_2 := hx163_2
             have hw163_1 := hx163_1
             have hw163_0 := hx163_0
             cases e163
             replace hx163_0 := (HB.out.cell (zE w _ hx163_0)).trans hx163_0
             replace hx163_1 := (HB.out.cell (zE w _ hx163_1)).trans hx163_1
             replace hx163_2 := (HB.out.cell (zE w _ hx163_2)).trans hx163_2
             replace hx163_3 := (HB.out.cell (zE w _ hx163_3)).trans hx163_3
             replace hx163_4 := (HB.out.cell (zE w _ hx163_4)).trans hx163_4
             replace hx163_5 := (HB.out.cell (zE w _ hx163_5)).trans hx163_5
             have HR163_5 := zA hi163_5
             have HC163_5 := zA hl163_5
             clear hi163_5 hl163_5
             replace p163 := eq_true p163
             replace q163 := eq_true q163
             have p164 : 0 ≤ (x3_1 : Int) := zB qA
             have q164 : x3_1 < (l0_3.length : Int) := zB qA
             obtain ⟨ad164, A164_0, c164_0, e164, hx164_0, hl164_0, hi164_0⟩ := at_LIns HR0_3.out x3_1 p164 q164
             have hw164_0 := hx164_0
             obtain rfl : ad161 = ad164 := (by injection e164)
             replace hx164_0 := (HB.out.cell (zE w _ hx164_0)).trans hx164_0
             have HR164_0 := zA hi164_0
             have HC164_0 := zA hl164_0
             clear hi164_0 hl164_0
             replace p164 := eq_true p164
             replace q164 := eq_true q164
             have ea_ := zI (hx162_0.symm.trans hx164_0)
             injection ea_ with ea_ en_ ec_
             subst ea_
             subst ec_
             clear en_
             refine start_ (n := 24) (S := fun w' => w'.cell? ⟨gb158, 0, none⟩ = some (.string a0_0) ∧ w'.cell? ⟨gb158, 1, none⟩ = some (.int .i64 a0_1) ∧ w'.cell? ⟨gb158, 2, none⟩ = some (.int .i64 a0_2) ∧ w'.cell? ⟨gb158, 3, none⟩ = some (.slice (some ad161) l0_3.length c0_3) ∧ w'.cell? (ad161.add (x3_1).toNat) = some (.slice (some ad163) (rd_LIns l0_3 x3_1).length c162_0) ∧ w'.cell? (ad163.add ((x4_2).toNat * 6)) = some (.int .i64 ((rd_TIns (rd_LIns l0_3 x3_1) x4_2).f0)) ∧ w'.cell? ⟨(ad163.add ((x4_2).toNat * 6)).block, (ad163.add ((x4_2).toNat * 6)).off + 1, none⟩ = some (.int .i64 ((rd_TIns (rd_LIns l0_3 x3_1) x4_2).f1)) ∧ w'.cell? ⟨(ad163.add ((x4_2).toNat * 6)).block, (ad163.add ((x4_2).toNat * 6)).off + 2, none⟩ = some (.int .i64 ((rd_TIns (rd_LIns l0_3 x3_1) x4_2).f2)) ∧ w'.cell? ⟨(ad163.add ((x4_2).toNat * 6)).block, (ad163.add ((x4_2).toNat * 6)).off + 3, none⟩ = some (.int .i64 ((rd_TIns (rd_LIns l0_3 x3_1) x4_2).f3)) ∧ w'.cell? ⟨(ad163.add ((x4_2).toNat * 6)).block, (ad163.add ((x4_2).toNat * 6)).off + 4, none⟩ = some (.string ((rd_TIns (rd_LIns l0_3 x3_1) x4_2).f4)) ∧ w'.cell? ⟨(ad163.add ((x4_2).toNat * 6)).block, (ad163.add ((x4_2).toNat * 6)).off + 5, none⟩ = some (.slice A163_5 ((rd_TIns (rd_LIns l0_3 x3_1) x4_2).f5).length c163_5) ∧ w'.cell? (ad161.add (x3_1).toNat) = some (.slice (some ad163) (rd_LIns l0_3 x3_1).length c162_0)) (ds := []) (bA 24 0) (by kernel_rfl) rfl rfl ⟨(blk_cell BK158.out 0).trans rfl, (blk_cell BK158.out 1).trans rfl, (blk_cell BK158.out 2).trans rfl, (blk_cell BK158.out 3).trans rfl, ((HB.out.cell (zE w _ hw162_0)).trans hw162_0), ((HB.out.cell (zE w _ hw163_0)).trans hw163_0), ((HB.out.cell (zE w _ hw163_1)).trans hw163_1), ((HB.out.cell (zE w _ hw163_2)).trans hw163_2), ((HB.out.cell (zE w _ hw163_3)).trans hw163_3), ((HB.out.cell (zE w _ hw163_4)).trans hw163_4), ((HB.out.cell (zE w _ hw163_5)).trans hw163_5), ((HB.out.cell (zE w _ hw164_0)).trans hw164_0)⟩ (fun hHeld => ?_); refine with_tabW cubbyref07_Check.tab11 cubbyref07_Check.bits11 (fun HT_ HW_ => ?_)
             generalize wr.drew = w17 at BK158 HB HR162_0 HR163_5 HR164_0 hx162_0 hx163_0 hx163_1 hx163_2 hx163_3 hx163_4 hx163_5 hx164_0 hHeld ⊢
             refine pu_ (i := 0) (N := some 35) (bA 24 1) ?_
             refine pu_ (i := 2) (N := some 37) (bA 24 5) ?_
             refine pu_ (i := 5) (N := some 40) (bA 24 37) ?_
             refine pu_ (i := 8) (N := some 43) (bA 24 293) ?_
             refine pu_ (i := 10) (N := some 45) (bA 24 1317) ?_
             refine pu_ (i := 13) (N := some 48) (bA 24 9509) ?_
             refine pu_ (i := 14) (N := some 49) (bA 24 25893) ?_
             refine pu_ (i := 16) (N := some 51) (bA 24 91429) ?_
             refine tk_ (i := 1) (N := some 36) (bA 24 91431) ?_
             refine pu_ (i := 3) (N := some 38) (bA 24 91439) ?_
             refine tk_ (i := 4) (N := some 39) (bA 24 91455) ?_
             refine pu_ (i := 6) (N := some 41) (bA 24 91519) ?_
             refine tk_ (i := 7) (N := some 42) (bA 24 91647) ?_
             refine tk_ (i := 9) (N := some 44) (bA 24 92159) ?_
             refine tk_ (i := 11) (N := some 46) (bA 24 94207) ?_
             refine pu_ (i := 12) (N := some 47) (bA 24 98303) ?_
             refine tk_ (i := 15) (N := some 50) (bA 24 131071) ?_
             refine pu_ (i := 17) (N := some 52) (bA 24 262143) ?_
             refine tk_ (i := 18) (N := some 53) (bA 24 524287) ?_
             refine pu_ (i := 19) (N := some 54) (bA 24 1048575) ?_
             refine pu_ (i := 20) (N := some 55) (bA 24 2097151) ?_
             refine pu_ (i := 21) (N := some 56) (bA 24 4194303) ?_
             refine one_ (i := 22) (N := some 57) (bA 24 8388607) rfl rfl (one_of HT_.out (by kernel_rfl)) (by decide) (fun K hK => ?_)
             refine goes_ Tryd.func88 (by kernel_rfl) rfl #[.agg #[.int .i64 ((rd_TIns (rd_LIns l0_3 x3_1) x4_2).f0), .int .i64 ((rd_TIns (rd_LIns l0_3 x3_1) x4_2).f1), .int .i64 ((rd_TIns (rd_LIns l0_3 x3_1) x4_2).f2), .int .i64 ((rd_TIns (rd_LIns l0_3 x3_1) x4_2).f3), .string ((rd_TIns (rd_LIns l0_3 x3_1) x4_2).f4), .slice A163_5 ((rd_TIns (rd_LIns l0_3 x3_1) x4_2).f5).length c163_5], .int .i64 a0_2, .int .i64 (l0_3.length : Int), .bool (x4_2 == (wrap64 (((rd_LIns l0_3 x3_1).length : Int) - 1)))] (by rfl) rfl rfl qL ?_
             with_reducible refine (cubbyref07_One.calls k2 ((rd_TIns (rd_LIns l0_3 x3_1) x4_2).f0) ((rd_TIns (rd_LIns l0_3 x3_1) x4_2).f1) ((rd_TIns (rd_LIns l0_3 x3_1) x4_2).f2) ((rd_TIns (rd_LIns l0_3 x3_1) x4_2).f3) ((rd_TIns (rd_LIns l0_3 x3_1) x4_2).f4) _ _ ((rd_TIns (rd_LIns l0_3 x3_1) x4_2).f5) a0_2 (l0_3.length : Int) (x4_2 == (wrap64 (((rd_LIns l0_3 x3_1).length : Int) - 1))) t165 _ ?side1 ?side2 A14.out).mono ?_
             (case side1 => exact qCB HR163_5.out)
             (case side2 => exact HC163_5.out)
             rintro e w18 ⟨rfl, hb⟩
             refine ⟨_, rfl, ?_⟩
             have n0_ := qW BK158 hb
             have n1_ := qH hb
             clear BK158
             clear HB
             have BK158 := n0_
             have HB := n1_
             clear n0_ n1_
             (try clear hb)
             (try clear hb2)
             (try clear hk)
             (try clear hi)
             refine hK.out _ _ ⟨(blk_cell BK158.out 0).trans rfl, (blk_cell BK158.out 1).trans rfl, (blk_cell BK158.out 2).trans rfl, (blk_cell BK158.out 3).trans rfl, ((HB.out.cell (zE w _ hw162_0)).trans hw162_0), ((HB.out.cell (zE w _ hw163_0)).trans hw163_0), ((HB.out.cell (zE w _ hw163_1)).trans hw163_1), ((HB.out.cell (zE w _ hw163_2)).trans hw163_2), ((HB.out.cell (zE w _ hw163_3)).trans hw163_3), ((HB.out.cell (zE w _ hw163_4)).trans hw163_4), ((HB.out.cell (zE w _ hw163_5)).trans hw163_5), ((HB.out.cell (zE w _ hw164_0)).trans hw164_0)⟩ (fun hHeld => ?_)
             clear hK K
             refine norm_ (a' := ?_) ?_ ?_
             rotate_left
             ·show Act.put _ (some 57) _ = _
              simp only [Act.put, List.setIfInBounds_toArray, List.set_cons_zero, List.set_cons_succ, i64_w, i32_w]
              rfl
             refine pu_ (i := 23) (N := some 5) (bA 24 16777215) ?_
             refine done_ (done_of HT_.out (by kernel_rfl)) ?_
             try go_wp2
             go_roundg k2
             case measure => have := HK1.out; have := HK2.out; omega
             case rel => exact ⟨(wrap64 (x4_2 + 1)), qT, H', ⟨by have := HK1.out; have := HK2.out; omega⟩, ⟨qK BK158.out⟩, ⟨qB⟩⟩
            ·rw [zD c15] at H
             obtain ⟨c15b0, c15b1⟩ := qn c15
             obtain rfl := zI H
             have z19_0 := bk4 BK158.out
             have p161 : 0 ≤ (x3_1 : Int) := zB qA
             have q161 : x3_1 < (l0_3.length : Int) := zB qA
             obtain ⟨ad161, A161_0, c161_0, e161, hx161_0, hl161_0, hi161_0⟩ := at_LIns HR0_3.out x3_1 p161 q161
             cases e161
             replace hx161_0 := (HB.out.cell (zE w _ hx161_0)).trans hx161_0
             have HR161_0 := zA hi161_0
             have HC161_0 := zA hl161_0
             clear hi161_0 hl161_0
             replace p161 := eq_true p161
             replace q161 := eq_true q161
             try go_wp2
             have n0_ := zA (blk_drew BK158.out)
             have n1_ := zA (below_drew1 HB.out)
             clear BK158
             clear HB
             have BK158 := n0_
             have HB := n1_
             clear n0_ n1_
             have p162 : 0 ≤ (x3_1 : Int) := zB qA
             have q162 : x3_1 < (l0_3.length : Int) := zB qA
             obtain ⟨ad162, A162_0, c162_0, e162, hx162_0, hl162_0, hi162_0⟩ := at_LIns HR0_3.out x3_1 p162 q162
             have hw162_0 := hx162_0
             obtain rfl : ad161 = ad162 := (by injection e162)
             replace hx162_0 := (HB.out.cell (zE w _ hx162_0)).trans hx162_0
             have HR162_0 := zA hi162_0
             have HC162_0 := zA hl162_0
             clear hi162_0 hl162_0
             replace p162 := eq_true p162
             replace q162 := eq_true q162
             have p163 : 0 ≤ (x4_2 : Int) := zB qA
             have q163 : x4_2 < ((rd_LIns l0_3 x3_1).length : Int) := zB qA
             obtain ⟨ad163, A163_5, c163_5, e163, hx163_0, hx163_1, hx163_2, hx163_3, hx163_4, hx163_5, hl163_5, hi163_5⟩ := at_TIns HR162_0.out x4_2 p163 q163
             have hw163_5 := hx163_5
             have hw163_4 := hx163_4
             have hw163_3 := hx163_3
             have hw163_2 := hx163_2
             have hw163_1 := hx163_1
             have hw163_0 := hx163_0
             cases e163
             replace hx163_0 := (HB.out.cell (zE w _ hx163_0)).trans hx163_0
             replace hx163_1 := (HB.out.cell (zE w _ hx163_1)).trans hx163_1
             replace hx163_2 := (HB.out.cell (zE w _ hx163_2)).trans hx163_2
             replace hx163_3 := (HB.out.cell (zE w _ hx163_3)).trans hx163_3
             replace hx163_4 := (HB.out.cell (zE w _ hx163_4)).trans hx163_4
             replace hx163_5 := (HB.out.cell (zE w _ hx163_5)).trans hx163_5
             have HR163_5 := zA hi163_5
             have HC163_5 := zA hl163_5
             clear hi163_5 hl163_5
             replace p163 := eq_true p163
             replace q163 := eq_true q163
             have p164 : 0 ≤ (x3_1 : Int) := zB qA
             have q164 : x3_1 < (l0_3.length : Int) := zB qA
             obtain ⟨ad164, A164_0, c164_0, e164, hx164_0, hl164_0, hi164_0⟩ := at_LIns HR0_3.out x3_1 p164 q164
             have hw164_0 := hx164_0
             obtain rfl : ad161 = ad164 := (by injection e164)
             replace hx164_0 := (HB.out.cell (zE w _ hx164_0)).trans hx164_0
             have HR164_0 := zA hi164_0
             have HC164_0 := zA hl164_0
             clear hi164_0 hl164_0
             replace p164 := eq_true p164
             replace q164 := eq_true q164
             have ea_ := zI (hx162_0.symm.trans hx164_0)
             injection ea_ with ea_ en_ ec_
             subst ea_
             subst ec_
             clear en_
             refine start_ (n := 24) (S := fun w' => w'.cell? ⟨gb158, 0, none⟩ = some (.string a0_0) ∧ w'.cell? ⟨gb158, 1, none⟩ = some (.int .i64 a0_1) ∧ w'.cell? ⟨gb158, 2, none⟩ = some (.int .i64 a0_2) ∧ w'.cell? ⟨gb158, 3, none⟩ = some (.slice (some ad161) l0_3.length c0_3) ∧ w'.cell? (ad161.add (x3_1).toNat) = some (.slice (some ad163) (rd_LIns l0_3 x3_1).length c162_0) ∧ w'.cell? (ad163.add ((x4_2).toNat * 6)) = some (.int .i64 ((rd_TIns (rd_LIns l0_3 x3_1) x4_2).f0)) ∧ w'.cell? ⟨(ad163.add ((x4_2).toNat * 6)).block, (ad163.add ((x4_2).toNat * 6)).off + 1, none⟩ = some (.int .i64 ((rd_TIns (rd_LIns l0_3 x3_1) x4_2).f1)) ∧ w'.cell? ⟨(ad163.add ((x4_2).toNat * 6)).block, (ad163.add ((x4_2).toNat * 6)).off + 2, none⟩ = some (.int .i64 ((rd_TIns (rd_LIns l0_3 x3_1) x4_2).f2)) ∧ w'.cell? ⟨(ad163.add ((x4_2).toNat * 6)).block, (ad163.add ((x4_2).toNat * 6)).off + 3, none⟩ = some (.int .i64 ((rd_TIns (rd_LIns l0_3 x3_1) x4_2).f3)) ∧ w'.cell? ⟨(ad163.add ((x4_2).toNat * 6)).block, (ad163.add ((x4_2).toNat * 6)).off + 4, none⟩ = some (.string ((rd_TIns (rd_LIns l0_3 x3_1) x4_2).f4)) ∧ w'.cell? ⟨(ad163.add ((x4_2).toNat * 6)).block, (ad163.add ((x4_2).toNat * 6)).off + 5, none⟩ = some (.slice A163_5 ((rd_TIns (rd_LIns l0_3 x3_1) x4_2).f5).length c163_5) ∧ w'.cell? (ad161.add (x3_1).toNat) = some (.slice (some ad163) (rd_LIns l0_3 x3_1).length c162_0)) (ds := []) (bA 24 0) (by kernel_rfl) rfl rfl ⟨(blk_cell BK158.out 0).trans rfl, (blk_cell BK158.out 1).trans rfl, (blk_cell BK158.out 2).trans rfl, (blk_cell BK158.out 3).trans rfl, ((HB.out.cell (zE w _ hw162_0)).trans hw162_0), ((HB.out.cell (zE w _ hw163_0)).trans hw163_0), ((HB.out.cell (zE w _ hw163_1)).trans hw163_1), ((HB.out.cell (zE w _ hw163_2)).trans hw163_2), ((HB.out.cell (zE w _ hw163_3)).trans hw163_3), ((HB.out.cell (zE w _ hw163_4)).trans hw163_4), ((HB.out.cell (zE w _ hw163_5)).trans hw163_5), ((HB.out.cell (zE w _ hw164_0)).trans hw164_0)⟩ (fun hHeld => ?_); refine with_tabW cubbyref07_Check.tab11 cubbyref07_Check.bits11 (fun HT_ HW_ => ?_)
             generalize wr.drew = w20 at BK158 HB HR162_0 HR163_5 HR164_0 hx162_0 hx163_0 hx163_1 hx163_2 hx163_3 hx163_4 hx163_5 hx164_0 hHeld ⊢
             refine pu_ (i := 0) (N := some 35) (bA 24 1) ?_
             refine pu_ (i := 2) (N := some 37) (bA 24 5) ?_
             refine pu_ (i := 5) (N := some 40) (bA 24 37) ?_
             refine pu_ (i := 8) (N := some 43) (bA 24 293) ?_
             refine pu_ (i := 10) (N := some 45) (bA 24 1317) ?_
             refine pu_ (i := 13) (N := some 48) (bA 24 9509) ?_
             refine pu_ (i := 14) (N := some 49) (bA 24 25893) ?_
             refine pu_ (i := 16) (N := some 51) (bA 24 91429) ?_
             refine tk_ (i := 1) (N := some 36) (bA 24 91431) ?_
             refine pu_ (i := 3) (N := some 38) (bA 24 91439) ?_
             refine tk_ (i := 4) (N := some 39) (bA 24 91455) ?_
             refine pu_ (i := 6) (N := some 41) (bA 24 91519) ?_
             refine tk_ (i := 7) (N := some 42) (bA 24 91647) ?_
             refine tk_ (i := 9) (N := some 44) (bA 24 92159) ?_
             refine tk_ (i := 11) (N := some 46) (bA 24 94207) ?_
             refine pu_ (i := 12) (N := some 47) (bA 24 98303) ?_
             refine tk_ (i := 15) (N := some 50) (bA 24 131071) ?_
             refine pu_ (i := 17) (N := some 52) (bA 24 262143) ?_
             refine tk_ (i := 18) (N := some 53) (bA 24 524287) ?_
             refine pu_ (i := 19) (N := some 54) (bA 24 1048575) ?_
             refine pu_ (i := 20) (N := some 55) (bA 24 2097151) ?_
             refine pu_ (i := 21) (N := some 56) (bA 24 4194303) ?_
             refine one_ (i := 22) (N := some 57) (bA 24 8388607) rfl rfl (one_of HT_.out (by kernel_rfl)) (by decide) (fun K hK => ?_)
             refine goes_ Tryd.func88 (by kernel_rfl) rfl #[.agg #[.int .i64 ((rd_TIns (rd_LIns l0_3 x3_1) x4_2).f0), .int .i64 ((rd_TIns (rd_LIns l0_3 x3_1) x4_2).f1), .int .i64 ((rd_TIns (rd_LIns l0_3 x3_1) x4_2).f2), .int .i64 ((rd_TIns (rd_LIns l0_3 x3_1) x4_2).f3), .string ((rd_TIns (rd_LIns l0_3 x3_1) x4_2).f4), .slice A163_5 ((rd_TIns (rd_LIns l0_3 x3_1) x4_2).f5).length c163_5], .int .i64 a0_2, .int .i64 (l0_3.length : Int), .bool (x4_2 == (wrap64 (((rd_LIns l0_3 x3_1).length : Int) - 1)))] (by rfl) rfl rfl qL ?_
             with_reducible refine (cubbyref07_One.calls k2 ((rd_TIns (rd_LIns l0_3 x3_1) x4_2).f0) ((rd_TIns (rd_LIns l0_3 x3_1) x4_2).f1) ((rd_TIns (rd_LIns l0_3 x3_1) x4_2).f2) ((rd_TIns (rd_LIns l0_3 x3_1) x4_2).f3) ((rd_TIns (rd_LIns l0_3 x3_1) x4_2).f4) _ _ ((rd_TIns (rd_LIns l0_3 x3_1) x4_2).f5) a0_2 (l0_3.length : Int) (x4_2 == (wrap64 (((rd_LIns l0_3 x3_1).length : Int) - 1))) t165 _ ?side1 ?side2 A14.out).mono ?_
             (case side1 => exact qCB HR163_5.out)
             (case side2 => exact HC163_5.out)
             rintro e w21 ⟨rfl, hb⟩
             refine ⟨_, rfl, ?_⟩
             have n0_ := qW BK158 hb
             have n1_ := qH hb
             clear BK158
             clear HB
             have BK158 := n0_
             have HB := n1_
             clear n0_ n1_
             (try clear hb)
             (try clear hb2)
             (try clear hk)
             (try clear hi)
             refine hK.out _ _ ⟨(blk_cell BK158.out 0).trans rfl, (blk_cell BK158.out 1).trans rfl, (blk_cell BK158.out 2).trans rfl, (blk_cell BK158.out 3).trans rfl, ((HB.out.cell (zE w _ hw162_0)).trans hw162_0), ((HB.out.cell (zE w _ hw163_0)).trans hw163_0), ((HB.out.cell (zE w _ hw163_1)).trans hw163_1), ((HB.out.cell (zE w _ hw163_2)).trans hw163_2), ((HB.out.cell (zE w _ hw163_3)).trans hw163_3), ((HB.out.cell (zE w _ hw163_4)).trans hw163_4), ((HB.out.cell (zE w _ hw163_5)).trans hw163_5), ((HB.out.cell (zE w _ hw164_0)).trans hw164_0)⟩ (fun hHeld => ?_)
             clear hK K
             refine norm_ (a' := ?_) ?_ ?_
             rotate_left
             ·show Act.put _ (some 57) _ = _
              simp only [Act.put, List.setIfInBounds_toArray, List.set_cons_zero, List.set_cons_succ, i64_w, i32_w]
              rfl
             refine pu_ (i := 23) (N := some 5) (bA 24 16777215) ?_
             refine done_ (done_of HT_.out (by kernel_rfl)) ?_
             try go_wp2
             go_ret
             exact ⟨qE, qB⟩
           ·rw [zD c13] at H
            exact absurd H (by simp)
          ·rw [zD c12] at H
           have c12b0 := zG c12
           clear c12
           have H' := zA H
           clear H
           have z22_0 := bk4 BK158.out
           have p161 : 0 ≤ (x3_1 : Int) := zB qA
           have q161 : x3_1 < (l0_3.length : Int) := zB qA
           obtain ⟨ad161, A161_0, c161_0, e161, hx161_0, hl161_0, hi161_0⟩ := at_LIns HR0_3.out x3_1 p161 q161
           cases e161
           replace hx161_0 := (HB.out.cell (zE w _ hx161_0)).trans hx161_0
           have HR161_0 := zA hi161_0
           have HC161_0 := zA hl161_0
           clear hi161_0 hl161_0
           replace p161 := eq_true p161
           replace q161 := eq_true q161
           go_wp2
           go_roundg k2
           case measure => have := HK1.out; have := HK2.out; omega
           case rel => exact ⟨(wrap64 (x3_1 + 1)), qT, H', ⟨by have := HK1.out; have := HK2.out; omega⟩, ⟨qK BK158.out⟩, ⟨qB⟩⟩
         ·rw [zD c11] at H
          exact absurd H (by simp)
        ·rw [zD c10] at H
         exact absurd H (by simp)
     ·rw [zD c8] at H
      have c8b0 := zG c8
      clear c8
      obtain rfl := zI H
      have z23_0 := bk4 BK158.out
      go_wp2
      go_ret
      exact ⟨qE, qB⟩
  ·replace c5 := Bool.eq_false_iff.mpr c5
   subst c5
   have H1 : (some 71) = some r := by rw [zD (show ¬ (false = true) by decide)] at H; exact H
   clear H
   have H := H1
   clear H1
   obtain rfl := zI H
   go_enter Tryd.func48, Tryd.ntmps48
   go_wp2_with (first | ((with_reducible refine gate_dst (N := 1) rfl ?_); refine box_event (by rfl) (N := 1) (by rfl) (cs := #[.string a0_0, .int .i64 a0_1, .int .i64 a0_2, .slice A0_3 l0_3.length c0_3]) (t := 24) ?hr ?_; (case hr => go_simp <;> rfl); intro gb158 hg w24 hbox hb; have BK158 := zA (hbox); have GW158 := qG hg; have GE158 := GW158; replace HB := qH hb; clear hb hbox hg; have z25_0 := bk4 BK158.out) | ((with_reducible refine gate_callee (f := 61) rfl ?_); refine goesL_ (some 8) rfl rfl Tryd.func61 (by kernel_rfl) rfl #[.string a0_0] rfl qL ?_; (with_reducible refine (cubbyref07_Name.calls k a0_0 true _ A2.out).mono ?_); rintro e w' ⟨rfl, ⟨nd, rfl⟩⟩; refine ⟨_, rfl, ?_⟩) | ((with_reducible refine gate_callee (f := 87) rfl ?_); refine goesL_ (some 16) rfl rfl Tryd.func87 (by kernel_rfl) rfl #[.int .i64 a0_1, .int .i64 a0_2, .slice A0_3 l0_3.length c0_3] rfl qL ?_; (with_reducible refine (cubbyref07_Shape.calls k a0_1 a0_2 _ _ l0_3 false _ ?side1 ?side2 A4.out).mono ?_); (case side1 => repeat (first | exact (Kd.C_below HR0_3.out qB) | (with_reducible refine Kd.C_alloc ?_ _) | (with_reducible refine Kd.C_drewN ?_ _) | (with_reducible refine Kd.C_drew ?_))); (case side2 => exact HC0_3.out); rintro e w' ⟨rfl, ⟨nd, rfl⟩⟩; refine ⟨_, rfl, ?_⟩))
   go_ret
   exact ⟨qE, qB⟩
 ·replace c3 := Bool.eq_false_iff.mpr c3
  subst c3
  have H1 : (some 70) = some r := by rw [zD (show ¬ (false = true) by decide)] at H; exact H
  clear H
  have H := H1
  clear H1
  obtain rfl := zI H
  go_enter Tryd.func48, Tryd.ntmps48
  go_wp2_with (first | ((with_reducible refine gate_dst (N := 1) rfl ?_); refine box_event (by rfl) (N := 1) (by rfl) (cs := #[.string a0_0, .int .i64 a0_1, .int .i64 a0_2, .slice A0_3 l0_3.length c0_3]) (t := 24) ?hr ?_; (case hr => go_simp <;> rfl); intro gb158 hg w26 hbox hb; have BK158 := zA (hbox); have GW158 := qG hg; have GE158 := GW158; replace HB := qH hb; clear hb hbox hg; have z27_0 := bk4 BK158.out) | ((with_reducible refine gate_callee (f := 61) rfl ?_); refine goesL_ (some 8) rfl rfl Tryd.func61 (by kernel_rfl) rfl #[.string a0_0] rfl qL ?_; (with_reducible refine (cubbyref07_Name.calls k a0_0 false _ A2.out).mono ?_); rintro e w' ⟨rfl, ⟨nd, rfl⟩⟩; refine ⟨_, rfl, ?_⟩))
  go_ret
  exact ⟨qE, qB⟩

def cubbyref09_has.l0 : Nat → List Int → Int → Int → Option (Bool)
 | 0, _, _, _ => none
 | k + 1, x0, x1, x5 => if x5 < (x0.length : Int) then (if 0 ≤ x5 then (if (rd x0 x5) = x1 then (some true) else (cubbyref09_has.l0 k x0 x1 (wrap64 (x5 + 1)))) else (none)) else (some false)
def cubbyref09_has.f (k : Nat) (l0 : List Int) (a1 : Int) : Option (Bool) := cubbyref09_has.l0 k l0 a1 0
set_option maxHeartbeats 8000000 in
set_option maxRecDepth 100000 in
theorem cubbyref09_has.calls (k : Nat) (A0 : Option Addr) (c0 : Nat) (l0 : List Int) (a1 : Int) (r : Bool) (w : World) (hr0 : Kd.C (Kd.int .i64) w A0 l0.length l0) (hc0 : l0.length ≤ c0) (h : cubbyref09_has.f k l0 a1 = some r) :
 Calls Tryd.prog 124 #[.slice A0 l0.length c0, .int .i64 a1] w fun e w' => e = .returned (.bool r) ∧ Drawn0 w w' := by
 have HR0 := zA hr0
 have HC0 := zA hc0
 clear hr0 hc0
 have H := h; clear h; unfold cubbyref09_has.f at H
 have H' := zA H
 clear H
 go_enter Tryd.func124, Tryd.ntmps124
 go_wp2
 go_loopg [5] k (fun kq v5 w' => ∃ (x5_1 : Int), v5 = .int .i64 x5_1 ∧ Aside0 (cubbyref09_has.l0 kq l0 a1 x5_1 = some r) ∧ Aside0 (kq ≤ k) ∧ Drawn0 w w')
 case atStart => exact ⟨(0), qT, H', ⟨Nat.le_refl _⟩, qD⟩
 case round =>
  clear H'
  obtain ⟨x5_1, rfl, HA, HK1, ⟨m1, rfl⟩⟩ := hrel
  cases gk with
  | zero => exact absurd HA.out (by simp [cubbyref09_has.l0])
  | succ k1 =>
   have H := HA.out
   clear HA
   simp only [cubbyref09_has.l0] at H
   by_cases c3 : x5_1 < (l0.length : Int)
   ·rw [zC c3] at H
    have c3b0 := zF c3
    clear c3
    by_cases c4 : 0 ≤ x5_1
    ·rw [zC c4] at H
     have c4b0 := zF c4
     clear c4
     by_cases c5 : (rd l0 x5_1) = a1
     ·rw [zC c5] at H
      obtain ⟨c5b0, c5b1⟩ := qe c5; clear c5
      obtain rfl := zI H
      have p166 : 0 ≤ (x5_1 : Int) := zB qA
      have q166 : x5_1 < (l0.length : Int) := zB qA
      obtain ⟨ad166, e166, hx166_0⟩ := Kd.at_int HR0.out x5_1 p166 q166
      cases e166
      replace p166 := eq_true p166
      replace q166 := eq_true q166
      go_wp2
      go_ret
      exact ⟨by first | rfl | (simp; done) | (simp [*]; done), qD⟩
     ·rw [zD c5] at H
      obtain ⟨c5b0, c5b1⟩ := qn c5
      have H' := zA H
      clear H
      have p166 : 0 ≤ (x5_1 : Int) := zB qA
      have q166 : x5_1 < (l0.length : Int) := zB qA
      obtain ⟨ad166, e166, hx166_0⟩ := Kd.at_int HR0.out x5_1 p166 q166
      cases e166
      replace p166 := eq_true p166
      replace q166 := eq_true q166
      go_wp2
      go_roundg k1
      case measure => have := HK1.out; omega
      case rel => exact ⟨(wrap64 (x5_1 + 1)), qT, H', ⟨by have := HK1.out; omega⟩, qD⟩
    ·rw [zD c4] at H
     exact absurd H (by simp)
   ·rw [zD c3] at H
    have c3b0 := zG c3
    clear c3
    obtain rfl := zI H
    go_wp2
    go_ret
    exact ⟨by first | rfl | (simp; done) | (simp [*]; done), qD⟩

mutual
def cubbyref09_Succs.j0 : Nat → List (List (SIns)) → Int → List Int → Bool → Option (List Int)
 | 0, _, _, _, _ => none
 | k + 1, x0, x1, x5, x24 => if x24 = true then (some x5) else (if 0 ≤ x1 then (if x1 < (x0.length : Int) then (if 0 ≤ (wrap64 (((rd_LIns x0 x1).length : Int) - 1)) then (if (wrap64 (((rd_LIns x0 x1).length : Int) - 1)) < ((rd_LIns x0 x1).length : Int) then ((cubbyref07_Targets.f ((rd_TIns (rd_LIns x0 x1) (wrap64 (((rd_LIns x0 x1).length : Int) - 1))).f0) ((rd_TIns (rd_LIns x0 x1) (wrap64 (((rd_LIns x0 x1).length : Int) - 1))).f1) ((rd_TIns (rd_LIns x0 x1) (wrap64 (((rd_LIns x0 x1).length : Int) - 1))).f2) ((rd_TIns (rd_LIns x0 x1) (wrap64 (((rd_LIns x0 x1).length : Int) - 1))).f3) ((rd_TIns (rd_LIns x0 x1) (wrap64 (((rd_LIns x0 x1).length : Int) - 1))).f4) ((rd_TIns (rd_LIns x0 x1) (wrap64 (((rd_LIns x0 x1).length : Int) - 1))).f5)).bind fun t174 => (cubbyref09_Succs.l0 k x0 x5 t174 0)) else (none)) else (none)) else (none)) else (none))
def cubbyref09_Succs.l0 : Nat → List (List (SIns)) → List Int → List Int → Int → Option (List Int)
 | 0, _, _, _, _ => none
 | k + 1, x0, x5, x6, x7 => if x7 < (x6.length : Int) then (if 0 ≤ x7 then (if (rd x6 x7) ≥ 0 then (if (rd x6 x7) < (x0.length : Int) then ((cubbyref09_has.f k x5 (rd x6 x7)).bind fun t180 => (if t180 = true then (cubbyref09_Succs.l0 k x0 x5 x6 (wrap64 (x7 + 1))) else (if x5.length < 17592186044416 then (cubbyref09_Succs.l0 k x0 (x5 ++ [rd x6 x7]) x6 (wrap64 (x7 + 1))) else (none)))) else (cubbyref09_Succs.l0 k x0 x5 x6 (wrap64 (x7 + 1)))) else (cubbyref09_Succs.l0 k x0 x5 x6 (wrap64 (x7 + 1)))) else (none)) else (some x5)
end
def cubbyref09_Succs.f (k : Nat) (l0 : List (List (SIns))) (a1 : Int) : Option (List Int) := (some (([] : List Int) : List Int)).bind fun y167 => (if a1 < 0 then (cubbyref09_Succs.j0 k l0 a1 y167 true) else (if a1 ≥ (l0.length : Int) then (cubbyref09_Succs.j0 k l0 a1 y167 true) else (if 0 ≤ a1 then (if a1 < (l0.length : Int) then (cubbyref09_Succs.j0 k l0 a1 y167 (((rd_LIns l0 a1).length : Int) == 0)) else (none)) else (none))))
def cubbyref09_Succs.T4 : Bool × List (List Nat × List Nat) := (true, [([], []), ([], []), ([0, 1], [0, 1]), ([2], [2]), ([], []), ([], []), ([4, 5], [4, 5]), ([6], [6]), ([7], [7]), ([8], [8]), ([3, 9], [3, 9]), ([10], [10]), ([11], [11]), ([12, 12, 0, 1, 2, 3, 4, 5, 6, 7, 8, 9, 10, 11, 12], [12])])
def cubbyref09_Succs.B4 : List Nat := [0, 0, 3, 7, 0, 0, 48, 112, 240, 496, 1023, 2047, 4095, 8191]
theorem cubbyref09_Succs.tab4 : rtab .any (opsOf Tryd.f123 4) = cubbyref09_Succs.T4 := by kernel_rfl
theorem cubbyref09_Succs.bits4 : waitsOk cubbyref09_Succs.T4.2 cubbyref09_Succs.B4 = true := by kernel_rfl
set_option maxHeartbeats 8000000 in
set_option maxRecDepth 100000 in
theorem cubbyref09_Succs.calls (k : Nat) (A0 : Option Addr) (c0 : Nat) (l0 : List (List (SIns))) (a1 : Int) (r : List Int) (w : World) (hr0 : Kd.C (Kd.slice 38 kIns) w A0 l0.length l0) (hc0 : l0.length ≤ c0) (h : cubbyref09_Succs.f k l0 a1 = some r) :
 Calls Tryd.prog 123 #[.slice A0 l0.length c0, .int .i64 a1] w fun e w' => ∃ v0_ : Value, e = .returned (v0_) ∧ Kd.R (Kd.int .i64) 3 w' w.heap.size (fun _ => True) v0_ r ∧ Below w.heap.size w w' := by
 have hu38 := Tryd.underlying38
 have HR0 := zA hr0
 have HC0 := zA hc0
 clear hr0 hc0
 have HB := zA (Below.refl w.heap.size w)
 have H := h; clear h; unfold cubbyref09_Succs.f at H
 obtain ⟨y167, hy167⟩ : ∃ y_ : List Int, y_ = (([] : List Int)) := ⟨_, rfl⟩
 replace H : (if a1 < 0 then (cubbyref09_Succs.j0 k l0 a1 y167 true) else (if a1 ≥ (l0.length : Int) then (cubbyref09_Succs.j0 k l0 a1 y167 true) else (if 0 ≤ a1 then (if a1 < (l0.length : Int) then (cubbyref09_Succs.j0 k l0 a1 y167 (((rd_LIns l0 a1).length : Int) == 0)) else (none)) else (none)))) = some r := by (try rw [hy167]); first | with_reducible exact H | exact (zJ _ _).symm.trans H | exact H
 have Ny167 := zA hy167
 clear hy167
 have HC3 := zA H
 clear H
 go_enter Tryd.func123, Tryd.ntmps123
 go_upto_region 2 with (first | ((with_reducible refine gate_dst (N := 8) rfl ?_); (try (refine gate_guard (by rfl) ?_; dsimp only)); refine Kd.R_lit (Kd.int .i64) _ 3 (by rfl) (N := 8) (by rfl) (xs := ([] : List Int)) (inner := []) (ok := fun _ => True) (okp := fun _ => True) ?hr ?hp (fun _ hk => hk) trivial (Below.refl _ _) (Nat.le_refl _) (by simp) ?_; (case hr => go_simp <;> rfl); (case hp => exact (Reps.none _ _)); intro v168 w4 ho5 hb hg_ hnew_; clear hg_ hnew_; (first | rw [← Ny167.out] at ho5 | (simp only [Int.reduceToNat] at ho5; rw [← Ny167.out] at ho5)); have HO169 := zA (Kd.R_lower ho5 (below_size qB)); replace HB := qH hb; clear hb ho5))
 (try simp only [Act.put, List.setIfInBounds_toArray, List.set_cons_zero, List.set_cons_succ])
 go_cut [24] (fun v24 wc => ∃ (kq : Nat) (x24_2 : Bool), v24 = .bool x24_2 ∧ Aside0 (cubbyref09_Succs.j0 kq l0 a1 y167 x24_2 = some r) ∧ Aside0 (kq ≤ k) ∧ Aside0 (Kd.R (Kd.int .i64) 3 wc w.heap.size (fun _ => True) v168 y167) ∧ Aside0 (Below w.heap.size w wc))
 case first =>
  have H := HC3.out
  clear HC3
  by_cases c6 : a1 < 0
  ·rw [zC c6] at H
   have c6b0 := zF c6
   clear c6
   (first | rw [c6b0] | (simp only [i64_w, i32_w]; rw [c6b0]) | skip)
   have H' := zA H
   clear H
   go_wp2
   go_meet
   case rel => exact ⟨_, (true), qT, H', ⟨qO⟩, ⟨qR HO169.out⟩, ⟨qB⟩⟩
  ·rw [zD c6] at H
   have c6b0 := zG c6
   clear c6
   (first | rw [c6b0] | (simp only [i64_w, i32_w]; rw [c6b0]) | skip)
   by_cases c7 : a1 ≥ (l0.length : Int)
   ·rw [zC c7] at H
    have c7b0 : decide ((l0.length : Int) ≤ a1) = true := zF c7
    clear c7
    have H' := zA H
    clear H
    go_wp2
    go_meet
    case rel => exact ⟨_, (true), qT, H', ⟨qO⟩, ⟨qR HO169.out⟩, ⟨qB⟩⟩
   ·rw [zD c7] at H
    have c7b0 : decide ((l0.length : Int) ≤ a1) = false := zG c7
    clear c7
    by_cases c8 : 0 ≤ a1
    ·rw [zC c8] at H
     have c8b0 := zF c8
     clear c8
     by_cases c9 : a1 < (l0.length : Int)
     ·rw [zC c9] at H
      have c9b0 := zF c9
      clear c9
      have H' := zA H
      clear H
      have p170 : 0 ≤ (a1 : Int) := zB qA
      have q170 : a1 < (l0.length : Int) := zB qA
      obtain ⟨ad170, A170_0, c170_0, e170, hx170_0, hl170_0, hi170_0⟩ := at_LIns HR0.out a1 p170 q170
      cases e170
      replace hx170_0 := (HB.out.cell (zE w _ hx170_0)).trans hx170_0
      have HR170_0 := zA hi170_0
      have HC170_0 := zA hl170_0
      clear hi170_0 hl170_0
      replace p170 := eq_true p170
      replace q170 := eq_true q170
      go_wp2
      go_meet
      case rel => exact ⟨_, ((((rd_LIns l0 a1).length : Int) == 0)), qT, H', ⟨qO⟩, ⟨qR HO169.out⟩, ⟨qB⟩⟩
     ·rw [zD c9] at H
      exact absurd H (by simp)
    ·rw [zD c8] at H
     exact absurd H (by simp)
 case rest =>
  clear HC3
  obtain ⟨kq, x24_2, rfl, HA, HJ2, HO_5, HB⟩ := hcut
  cases kq with
  | zero => exact absurd HA.out (by simp [cubbyref09_Succs.j0])
  | succ kj2 =>
   have H := HA.out
   clear HA
   simp only [cubbyref09_Succs.j0] at H
   by_cases c10 : x24_2 = true
   ·subst c10
    have H1 : (some y167) = some r := by rw [zC rfl] at H; exact H
    clear H
    have H := H1
    clear H1
    obtain rfl := zI H
    go_wp2
    go_ret
    exact ⟨_, qE, qR HO_5.out, qB⟩
   ·replace c10 := Bool.eq_false_iff.mpr c10
    subst c10
    have H1 : (if 0 ≤ a1 then (if a1 < (l0.length : Int) then (if 0 ≤ (wrap64 (((rd_LIns l0 a1).length : Int) - 1)) then (if (wrap64 (((rd_LIns l0 a1).length : Int) - 1)) < ((rd_LIns l0 a1).length : Int) then ((cubbyref07_Targets.f ((rd_TIns (rd_LIns l0 a1) (wrap64 (((rd_LIns l0 a1).length : Int) - 1))).f0) ((rd_TIns (rd_LIns l0 a1) (wrap64 (((rd_LIns l0 a1).length : Int) - 1))).f1) ((rd_TIns (rd_LIns l0 a1) (wrap64 (((rd_LIns l0 a1).length : Int) - 1))).f2) ((rd_TIns (rd_LIns l0 a1) (wrap64 (((rd_LIns l0 a1).length : Int) - 1))).f3) ((rd_TIns (rd_LIns l0 a1) (wrap64 (((rd_LIns l0 a1).length : Int) - 1))).f4) ((rd_TIns (rd_LIns l0 a1) (wrap64 (((rd_LIns l0 a1).length : Int) - 1))).f5)).bind fun t174 => (cubbyref09_Succs.l0 kj2 l0 y167 t174 0)) else (none)) else (none)) else (none)) else (none)) = some r := by rw [zD (show ¬ (false = true) by decide)] at H; exact H
    clear H
    have H := H1
    clear H1
    by_cases c11 : 0 ≤ a1
    ·rw [zC c11] at H
     have c11b0 := zF c11
     clear c11
     by_cases c12 : a1 < (l0.length : Int)
     ·rw [zC c12] at H
      have c12b0 := zF c12
      clear c12
      obtain ⟨ji13, hji13⟩ : ∃ j_ : Int, (wrap64 (((rd_LIns l0 a1).length : Int) - 1)) = j_ := ⟨_, rfl⟩
      replace H : (if 0 ≤ (ji13) then (if (ji13) < ((rd_LIns l0 a1).length : Int) then ((cubbyref07_Targets.f ((rd_TIns (rd_LIns l0 a1) (ji13)).f0) ((rd_TIns (rd_LIns l0 a1) (ji13)).f1) ((rd_TIns (rd_LIns l0 a1) (ji13)).f2) ((rd_TIns (rd_LIns l0 a1) (ji13)).f3) ((rd_TIns (rd_LIns l0 a1) (ji13)).f4) ((rd_TIns (rd_LIns l0 a1) (ji13)).f5)).bind fun t174 => (cubbyref09_Succs.l0 kj2 l0 y167 t174 0)) else (none)) else (none)) = some r := by first | (rw [hji13] at H; exact H) | (simp only [hji13] at H ⊢; exact H)
      have hji13w : (IntKind.i64.wrap (((rd_LIns l0 a1).length : Int) - 1)) = ji13 := (i64_w _).trans hji13
      by_cases c14 : 0 ≤ (ji13)
      ·rw [zC c14] at H
       have c14b0 := zF c14
       clear c14
       by_cases c15 : (ji13) < ((rd_LIns l0 a1).length : Int)
       ·rw [zC c15] at H
        have c15b0 := zF c15
        clear c15
        replace H := qb H; obtain ⟨t174, A16, H⟩ := H
        have H' := zA H
        clear H
        try go_wp2
        have n0_ := zA (Kd.R_drew HO_5.out)
        have n1_ := zA (below_drew1 HB.out)
        clear HO_5
        clear HB
        have HO_5 := n0_
        have HB := n1_
        clear n0_ n1_
        have p171 : 0 ≤ (a1 : Int) := zB qA
        have q171 : a1 < (l0.length : Int) := zB qA
        obtain ⟨ad171, A171_0, c171_0, e171, hx171_0, hl171_0, hi171_0⟩ := at_LIns HR0.out a1 p171 q171
        have hw171_0 := hx171_0
        cases e171
        replace hx171_0 := (HB.out.cell (zE w _ hx171_0)).trans hx171_0
        have HR171_0 := zA hi171_0
        have HC171_0 := zA hl171_0
        clear hi171_0 hl171_0
        replace p171 := eq_true p171
        replace q171 := eq_true q171
        have p172 : 0 ≤ (a1 : Int) := zB qA
        have q172 : a1 < (l0.length : Int) := zB qA
        obtain ⟨ad172, A172_0, c172_0, e172, hx172_0, hl172_0, hi172_0⟩ := at_LIns HR0.out a1 p172 q172
        have hw172_0 := hx172_0
        obtain rfl : ad171 = ad172 := (by injection e172)
        replace hx172_0 := (HB.out.cell (zE w _ hx172_0)).trans hx172_0
        have HR172_0 := zA hi172_0
        have HC172_0 := zA hl172_0
        clear hi172_0 hl172_0
        replace p172 := eq_true p172
        replace q172 := eq_true q172
        have ea_ := zI (hx171_0.symm.trans hx172_0)
        injection ea_ with ea_ en_ ec_
        subst ea_
        subst ec_
        clear en_
        have p173 : 0 ≤ ((ji13) : Int) := zB qA
        have q173 : (ji13) < ((rd_LIns l0 a1).length : Int) := zB qA
        obtain ⟨ad173, A173_5, c173_5, e173, hx173_0, hx173_1, hx173_2, hx173_3, hx173_4, hx173_5, hl173_5, hi173_5⟩ := at_TIns HR171_0.out (ji13) p173 q173
        have hw173_5 := hx173_5
        have hw173_4 := hx173_4
        have hw173_3 := hx173_3
        have hw173_2 := hx173_2
        have hw173_1 := hx173_1
        have hw173_0 := hx173_0
        cases e173
        replace hx173_0 := (HB.out.cell (zE w _ hx173_0)).trans hx173_0
        replace hx173_1 := (HB.out.cell (zE w _ hx173_1)).trans hx173_1
        replace hx173_2 := (HB.out.cell (zE w _ hx173_2)).trans hx173_2
        replace hx173_3 := (HB.out.cell (zE w _ hx173_3)).trans hx173_3
        replace hx173_4 := (HB.out.cell (zE w _ hx173_4)).trans hx173_4
        replace hx173_5 := (HB.out.cell (zE w _ hx173_5)).trans hx173_5
        have HR173_5 := zA hi173_5
        have HC173_5 := zA hl173_5
        clear hi173_5 hl173_5
        replace p173 := eq_true p173
        replace q173 := eq_true q173
        refine start_ (n := 14) (S := fun w' => w'.cell? (ad171.add (a1).toNat) = some (.slice (some ad173) (rd_LIns l0 a1).length c171_0) ∧ w'.cell? (ad171.add (a1).toNat) = some (.slice (some ad173) (rd_LIns l0 a1).length c171_0) ∧ w'.cell? (ad173.add (((ji13)).toNat * 6)) = some (.int .i64 ((rd_TIns (rd_LIns l0 a1) (ji13)).f0)) ∧ w'.cell? ⟨(ad173.add (((ji13)).toNat * 6)).block, (ad173.add (((ji13)).toNat * 6)).off + 1, none⟩ = some (.int .i64 ((rd_TIns (rd_LIns l0 a1) (ji13)).f1)) ∧ w'.cell? ⟨(ad173.add (((ji13)).toNat * 6)).block, (ad173.add (((ji13)).toNat * 6)).off + 2, none⟩ = some (.int .i64 ((rd_TIns (rd_LIns l0 a1) (ji13)).f2)) ∧ w'.cell? ⟨(ad173.add (((ji13)).toNat * 6)).block, (ad173.add (((ji13)).toNat * 6)).off + 3, none⟩ = some (.int .i64 ((rd_TIns (rd_LIns l0 a1) (ji13)).f3)) ∧ w'.cell? ⟨(ad173.add (((ji13)).toNat * 6)).block, (ad173.add (((ji13)).toNat * 6)).off + 4, none⟩ = some (.string ((rd_TIns (rd_LIns l0 a1) (ji13)).f4)) ∧ w'.cell? ⟨(ad173.add (((ji13)).toNat * 6)).block, (ad173.add (((ji13)).toNat * 6)).off + 5, none⟩ = some (.slice A173_5 ((rd_TIns (rd_LIns l0 a1) (ji13)).f5).length c173_5)) (ds := []) (bA 14 0) (by kernel_rfl) rfl rfl ⟨((HB.out.cell (zE w _ hw171_0)).trans hw171_0), ((HB.out.cell (zE w _ hw172_0)).trans hw172_0), ((HB.out.cell (zE w _ hw173_0)).trans hw173_0), ((HB.out.cell (zE w _ hw173_1)).trans hw173_1), ((HB.out.cell (zE w _ hw173_2)).trans hw173_2), ((HB.out.cell (zE w _ hw173_3)).trans hw173_3), ((HB.out.cell (zE w _ hw173_4)).trans hw173_4), ((HB.out.cell (zE w _ hw173_5)).trans hw173_5)⟩ (fun hHeld => ?_); refine with_tabW cubbyref09_Succs.tab4 cubbyref09_Succs.bits4 (fun HT_ HW_ => ?_)
        generalize wc.drew = w17 at HO_5 HB HR171_0 HR172_0 HR173_5 hx171_0 hx172_0 hx173_0 hx173_1 hx173_2 hx173_3 hx173_4 hx173_5 hHeld ⊢
        refine pu_ (i := 0) (N := some 26) (bA 14 1) ?_
        refine pu_ (i := 1) (N := some 27) (bA 14 3) ?_
        refine pu_ (i := 2) (N := some 28) (bA 14 7) ?_
        refine pu_ (i := 4) (N := some 30) (bA 14 23) ?_
        refine pu_ (i := 5) (N := some 31) (bA 14 55) ?_
        refine pu_ (i := 6) (N := some 32) (bA 14 119) ?_
        refine tk_ (i := 3) (N := some 29) (bA 14 127) ?_
        refine tk_ (i := 7) (N := some 33) (bA 14 255) ?_
        refine pu_ (i := 8) (N := some 34) (bA 14 511) ?_
        refine pu_ (i := 9) (N := some 35) (bA 14 1023) ?_
        refine pu_ (i := 10) (N := some 36) (bA 14 2047) ?_
        refine tk_ (i := 11) (N := some 37) (bA 14 4095) ?_
        refine one_ (i := 12) (N := some 38) (bA 14 8191) rfl rfl (one_of HT_.out (by kernel_rfl)) (by decide) (fun K hK => ?_)
        refine goes_ Tryd.func128 (by kernel_rfl) rfl #[.agg #[.int .i64 ((rd_TIns (rd_LIns l0 a1) (ji13)).f0), .int .i64 ((rd_TIns (rd_LIns l0 a1) (ji13)).f1), .int .i64 ((rd_TIns (rd_LIns l0 a1) (ji13)).f2), .int .i64 ((rd_TIns (rd_LIns l0 a1) (ji13)).f3), .string ((rd_TIns (rd_LIns l0 a1) (ji13)).f4), .slice A173_5 ((rd_TIns (rd_LIns l0 a1) (ji13)).f5).length c173_5]] (by rfl) rfl rfl (by (try simp only [List.map_toArray, List.map_cons, List.map_nil]); first | done | (simp only [hji13]; rfl) | rfl | (simp only [List.length_drop, List.length_take]; rfl)) ?_
        with_reducible refine (cubbyref07_Targets.calls ((rd_TIns (rd_LIns l0 a1) (ji13)).f0) ((rd_TIns (rd_LIns l0 a1) (ji13)).f1) ((rd_TIns (rd_LIns l0 a1) (ji13)).f2) ((rd_TIns (rd_LIns l0 a1) (ji13)).f3) ((rd_TIns (rd_LIns l0 a1) (ji13)).f4) _ _ ((rd_TIns (rd_LIns l0 a1) (ji13)).f5) t174 _ ?side1 ?side2 A16.out).mono ?_
        (case side1 => exact qCB HR173_5.out)
        (case side2 => exact HC173_5.out)
        rintro e w18 ⟨v175, rfl, ho0, hb⟩
        refine ⟨_, rfl, ?_⟩
        have n0_ := zA (Kd.R_elder' (qR HO_5.out) (Kd.R_base ho0) hb)
        have n1_ := zA (Kd.R_lower (Kd.R_new' ho0 (Kd.R_lt (qR HO_5.out))) (below_size qB))
        have n2_ := qH hb
        clear HO_5
        clear HB
        have HO_5 := n0_
        have HO176 := n1_
        have HB := n2_
        clear n0_ n1_ n2_
        (try clear hb)
        (try clear hb2)
        (try clear hk)
        (try clear hi)
        (try clear ho0)
        refine hK.out _ _ ⟨((HB.out.cell (zE w _ hw171_0)).trans hw171_0), ((HB.out.cell (zE w _ hw172_0)).trans hw172_0), ((HB.out.cell (zE w _ hw173_0)).trans hw173_0), ((HB.out.cell (zE w _ hw173_1)).trans hw173_1), ((HB.out.cell (zE w _ hw173_2)).trans hw173_2), ((HB.out.cell (zE w _ hw173_3)).trans hw173_3), ((HB.out.cell (zE w _ hw173_4)).trans hw173_4), ((HB.out.cell (zE w _ hw173_5)).trans hw173_5)⟩ (fun hHeld => ?_)
        clear hK K
        refine norm_ (a' := ?_) ?_ ?_
        rotate_left
        ·show Act.put _ (some 38) _ = _
         simp only [Act.put, List.setIfInBounds_toArray, List.set_cons_zero, List.set_cons_succ, i64_w, i32_w]
         rfl
        refine pu_ (i := 13) (N := some 6) (bA 14 16383) ?_
        refine done_ (done_of HT_.out (by kernel_rfl)) ?_
        try go_wp2
        go_loopg [5, 7] kj2 (fun kq v5 v7 w' => ∃ (x5_2 : List Int) (x7_2 : Int), v7 = .int .i64 x7_2 ∧ Aside0 (cubbyref09_Succs.l0 kq l0 x5_2 t174 x7_2 = some r) ∧ Aside0 (kq ≤ kj2) ∧ Aside0 (Kd.R (Kd.int .i64) 3 w' w.heap.size (fun k_ => some k_ ≠ (v175 : Value).ownBlock) v5 x5_2) ∧ Aside0 (Kd.R (Kd.int .i64) 3 w' w.heap.size (fun k_ => some k_ ≠ (v5 : Value).ownBlock) v175 t174) ∧ Aside0 (Below w.heap.size w w'))
        case atStart => exact ⟨(y167), (0), qT, H', ⟨Nat.le_refl _⟩, ⟨by (with_reducible repeat (first | apply Kd.R_alloc | apply Kd.R_drewN | apply Kd.R_drew)); exact Kd.R_mono HO_5.out (fun _ hk => hk.2)⟩, ⟨by (with_reducible repeat (first | apply Kd.R_alloc | apply Kd.R_drewN | apply Kd.R_drew)); exact Kd.R_mono HO176.out (fun _ hk => hk.2)⟩, ⟨qB⟩⟩
        case round =>
         clear H'
         obtain ⟨x5_2, x7_2, rfl, HA, HK2, HO_5, HO_6, HB⟩ := hrel
         cases gk with
         | zero => exact absurd HA.out (by simp [cubbyref09_Succs.l0])
         | succ k2 =>
          have H := HA.out
          clear HA
          simp only [cubbyref09_Succs.l0] at H
          by_cases c19 : x7_2 < (t174.length : Int)
          ·rw [zC c19] at H
           have c19b0 := zF c19
           clear c19
           by_cases c20 : 0 ≤ x7_2
           ·rw [zC c20] at H
            have c20b0 := zF c20
            clear c20
            by_cases c21 : (rd t174 x7_2) ≥ 0
            ·rw [zC c21] at H
             have c21b0 : decide (0 ≤ (rd t174 x7_2)) = true := zF c21
             clear c21
             by_cases c22 : (rd t174 x7_2) < (l0.length : Int)
             ·rw [zC c22] at H
              have c22b0 := zF c22
              clear c22
              replace H := qb H; obtain ⟨t180, A23, H⟩ := H
              by_cases c24 : t180 = true
              ·subst c24
               have H1 : (cubbyref09_Succs.l0 k2 l0 x5_2 t174 (wrap64 (x7_2 + 1))) = some r := by rw [zC rfl] at H; exact H
               clear H
               have H := H1
               clear H1
               have H' := zA H
               clear H
               obtain ⟨Ao25, co25, eo25⟩ := Kd.R_slice HO_6.out
               subst eo25
               have p177 : 0 ≤ (x7_2 : Int) := zB qA
               have q177 : x7_2 < (t174.length : Int) := zB qA
               obtain ⟨ad177, e177, hx177_0⟩ := Kd.at_int (Kd.R_reads' HO_6.out).2.2 x7_2 p177 q177
               cases e177
               replace p177 := eq_true p177
               replace q177 := eq_true q177
               have p178 : 0 ≤ (x7_2 : Int) := zB qA
               have q178 : x7_2 < (t174.length : Int) := zB qA
               obtain ⟨ad178, e178, hx178_0⟩ := Kd.at_int (Kd.R_reads' HO_6.out).2.2 x7_2 p178 q178
               obtain rfl : ad177 = ad178 := (by injection e178)
               replace p178 := eq_true p178
               replace q178 := eq_true q178
               have p179 : 0 ≤ (x7_2 : Int) := zB qA
               have q179 : x7_2 < (t174.length : Int) := zB qA
               obtain ⟨ad179, e179, hx179_0⟩ := Kd.at_int (Kd.R_reads' HO_6.out).2.2 x7_2 p179 q179
               obtain rfl : ad177 = ad179 := (by injection e179)
               replace p179 := eq_true p179
               replace q179 := eq_true q179
               obtain ⟨Ao26, co26, eo26⟩ := Kd.R_slice HO_5.out
               subst eo26
               go_wp2_with (first | (go_at_call 124; (with_reducible refine (cubbyref09_has.calls k2 _ _ x5_2 (rd t174 x7_2) true _ ?side1 ?side2 A23.out).mono ?_); (case side1 => repeat (first | exact (Kd.R_reads' HO_5.out).2.2 | (with_reducible refine Kd.C_alloc ?_ _) | (with_reducible refine Kd.C_drewN ?_ _) | (with_reducible refine Kd.C_drew ?_))); (case side2 => exact (Kd.R_reads' HO_5.out).2.1); (try clear A23); rintro e w' ⟨rfl, ⟨nd, rfl⟩⟩))
               go_roundg k2
               case measure => have := HJ2.out; have := HK2.out; omega
               case rel => exact ⟨(x5_2), (wrap64 (x7_2 + 1)), qT, H', ⟨by have := HJ2.out; have := HK2.out; omega⟩, ⟨qR HO_5.out⟩, ⟨qR HO_6.out⟩, ⟨qB⟩⟩
              ·replace c24 := Bool.eq_false_iff.mpr c24
               subst c24
               have H1 : (if x5_2.length < 17592186044416 then (cubbyref09_Succs.l0 k2 l0 (x5_2 ++ [rd t174 x7_2]) t174 (wrap64 (x7_2 + 1))) else (none)) = some r := by rw [zD (show ¬ (false = true) by decide)] at H; exact H
               clear H
               have H := H1
               clear H1
               by_cases c27 : x5_2.length < 17592186044416
               ·rw [zC c27] at H
                have LMc27 := zA c27
                clear c27
                obtain ⟨y182, hy182⟩ : ∃ y_ : List Int, y_ = (x5_2 ++ [rd t174 x7_2]) := ⟨_, rfl⟩
                replace H : (cubbyref09_Succs.l0 k2 l0 y182 t174 (wrap64 (x7_2 + 1))) = some r := by (try rw [hy182]); first | with_reducible exact H | exact (zJ _ _).symm.trans H | exact H
                have Ny182 := zA hy182
                clear hy182
                have H' := zA H
                clear H
                obtain ⟨Ao28, co28, eo28⟩ := Kd.R_slice HO_6.out
                subst eo28
                have p177 : 0 ≤ (x7_2 : Int) := zB qA
                have q177 : x7_2 < (t174.length : Int) := zB qA
                obtain ⟨ad177, e177, hx177_0⟩ := Kd.at_int (Kd.R_reads' HO_6.out).2.2 x7_2 p177 q177
                cases e177
                replace p177 := eq_true p177
                replace q177 := eq_true q177
                have p178 : 0 ≤ (x7_2 : Int) := zB qA
                have q178 : x7_2 < (t174.length : Int) := zB qA
                obtain ⟨ad178, e178, hx178_0⟩ := Kd.at_int (Kd.R_reads' HO_6.out).2.2 x7_2 p178 q178
                obtain rfl : ad177 = ad178 := (by injection e178)
                replace p178 := eq_true p178
                replace q178 := eq_true q178
                have p179 : 0 ≤ (x7_2 : Int) := zB qA
                have q179 : x7_2 < (t174.length : Int) := zB qA
                obtain ⟨ad179, e179, hx179_0⟩ := Kd.at_int (Kd.R_reads' HO_6.out).2.2 x7_2 p179 q179
                obtain rfl : ad177 = ad179 := (by injection e179)
                replace p179 := eq_true p179
                replace q179 := eq_true q179
                obtain ⟨Ao29, co29, eo29⟩ := Kd.R_slice HO_5.out
                subst eo29
                go_wp2_with (first | (go_at_call 124; (with_reducible refine (cubbyref09_has.calls k2 _ _ x5_2 (rd t174 x7_2) false _ ?side1 ?side2 A23.out).mono ?_); (case side1 => repeat (first | exact (Kd.R_reads' HO_5.out).2.2 | (with_reducible refine Kd.C_alloc ?_ _) | (with_reducible refine Kd.C_drewN ?_ _) | (with_reducible refine Kd.C_drew ?_))); (case side2 => exact (Kd.R_reads' HO_5.out).2.1); (try clear A23); rintro e w' ⟨rfl, ⟨nd, rfl⟩⟩; have p181 : 0 ≤ (x7_2 : Int) := zB qA; have q181 : x7_2 < (t174.length : Int) := zB qA; obtain ⟨ad181, e181, hx181_0⟩ := Kd.at_int (Kd.R_reads' HO_6.out).2.2 x7_2 p181 q181; obtain rfl : ad177 = ad181 := (by injection e181); replace p181 := eq_true p181; replace q181 := eq_true q181) | ((with_reducible refine gate_builtin (b := .append) (xs := #[.tmp 68, .tmp 73]) rfl ?_); (try (refine gate_guard (by rfl) ?_; dsimp only)); at_builtin; refine Kd.R_append (Kd.int .i64) (w0 := w) w.heap.size rfl (.tmp 68) (.tmp 73) 35 3 (.int .i64 0) 8 rfl Tryd.underlying35 info3 rfl (by decide) (by omega) (.slice Ao29 x5_2.length co29) x5_2 (rd t174 x7_2) [.int .i64 (rd t174 x7_2)] (fun k_ => some k_ ≠ (.slice (some ad177) t174.length co28 : Value).ownBlock) (fun _ => False) rfl rfl ?aP (fun _ hk => hk.elim) ?aF ?aO ?aB ?aS ?aL ?_; (case aP => exact rfl); (case aB => exact qB); (case aF => exact (fun k_ hk => Kd.fresh' (Kd.R_lt (qR HO_6.out)) k_ hk)); (case aO => exact (qR HO_5.out)); (case aS => exact (below_size qB)); (case aL => have := LMc27.out; omega); intro v183 w30 ho hb hg hat; rw [← Ny182.out] at ho; replace HO_6 := zA (Kd.R_after (ok := (fun _ => True)) (by (with_reducible repeat (first | apply Kd.R_alloc | apply Kd.R_drewN | apply Kd.R_drew)); exact Kd.R_mono HO_6.out (fun _ hk => ⟨trivial, hk⟩)) hg hat); replace HB := zA (hb); have HO184 := zA (ho); clear HO_5; clear ho hb hg hat))
                go_roundg k2
                case measure => have := HJ2.out; have := HK2.out; omega
                case rel => exact ⟨(y182), (wrap64 (x7_2 + 1)), qT, H', ⟨by have := HJ2.out; have := HK2.out; omega⟩, ⟨qR HO184.out⟩, ⟨by (with_reducible repeat (first | apply Kd.R_alloc | apply Kd.R_drewN | apply Kd.R_drew)); exact Kd.R_mono HO_6.out (fun _ hk => hk.2)⟩, ⟨qB⟩⟩
               ·rw [zD c27] at H
                exact absurd H (by simp)
             ·rw [zD c22] at H
              have c22b0 := zG c22
              clear c22
              have H' := zA H
              clear H
              obtain ⟨Ao31, co31, eo31⟩ := Kd.R_slice HO_6.out
              subst eo31
              have p177 : 0 ≤ (x7_2 : Int) := zB qA
              have q177 : x7_2 < (t174.length : Int) := zB qA
              obtain ⟨ad177, e177, hx177_0⟩ := Kd.at_int (Kd.R_reads' HO_6.out).2.2 x7_2 p177 q177
              cases e177
              replace p177 := eq_true p177
              replace q177 := eq_true q177
              have p178 : 0 ≤ (x7_2 : Int) := zB qA
              have q178 : x7_2 < (t174.length : Int) := zB qA
              obtain ⟨ad178, e178, hx178_0⟩ := Kd.at_int (Kd.R_reads' HO_6.out).2.2 x7_2 p178 q178
              obtain rfl : ad177 = ad178 := (by injection e178)
              replace p178 := eq_true p178
              replace q178 := eq_true q178
              go_wp2
              go_roundg k2
              case measure => have := HJ2.out; have := HK2.out; omega
              case rel => exact ⟨(x5_2), (wrap64 (x7_2 + 1)), qT, H', ⟨by have := HJ2.out; have := HK2.out; omega⟩, ⟨qR HO_5.out⟩, ⟨qR HO_6.out⟩, ⟨qB⟩⟩
            ·rw [zD c21] at H
             have c21b0 : decide (0 ≤ (rd t174 x7_2)) = false := zG c21
             clear c21
             have H' := zA H
             clear H
             obtain ⟨Ao32, co32, eo32⟩ := Kd.R_slice HO_6.out
             subst eo32
             have p177 : 0 ≤ (x7_2 : Int) := zB qA
             have q177 : x7_2 < (t174.length : Int) := zB qA
             obtain ⟨ad177, e177, hx177_0⟩ := Kd.at_int (Kd.R_reads' HO_6.out).2.2 x7_2 p177 q177
             cases e177
             replace p177 := eq_true p177
             replace q177 := eq_true q177
             go_wp2
             go_roundg k2
             case measure => have := HJ2.out; have := HK2.out; omega
             case rel => exact ⟨(x5_2), (wrap64 (x7_2 + 1)), qT, H', ⟨by have := HJ2.out; have := HK2.out; omega⟩, ⟨qR HO_5.out⟩, ⟨qR HO_6.out⟩, ⟨qB⟩⟩
           ·rw [zD c20] at H
            exact absurd H (by simp)
          ·rw [zD c19] at H
           have c19b0 := zG c19
           clear c19
           obtain rfl := zI H
           obtain ⟨Ao33, co33, eo33⟩ := Kd.R_slice HO_6.out
           subst eo33
           go_wp2
           go_ret
           exact ⟨_, by first | rfl | (simp [errW_none, errW_some] <;> rfl) | (simp only [← hji13]; first | rfl | (simp [errW_none, errW_some] <;> rfl)) | (simp [*, errW_none, errW_some] <;> rfl), by (with_reducible repeat (first | apply Kd.R_alloc | apply Kd.R_drewN | apply Kd.R_drew)); exact Kd.R_mono HO_5.out (fun _ hk => trivial), qB⟩
       ·rw [zD c15] at H
        exact absurd H (by simp)
      ·rw [zD c14] at H
       exact absurd H (by simp)
     ·rw [zD c12] at H
      exact absurd H (by simp)
    ·rw [zD c11] at H
     exact absurd H (by simp)

def cubbyref11_has.l0 : Nat → List Int → Int → Int → Option (Bool)
 | 0, _, _, _ => none
 | k + 1, x0, x1, x5 => if x5 < (x0.length : Int) then (if 0 ≤ x5 then (if (rd x0 x5) = x1 then (some true) else (cubbyref11_has.l0 k x0 x1 (wrap64 (x5 + 1)))) else (none)) else (some false)
def cubbyref11_has.f (k : Nat) (l0 : List Int) (a1 : Int) : Option (Bool) := cubbyref11_has.l0 k l0 a1 0
set_option maxHeartbeats 8000000 in
set_option maxRecDepth 100000 in
theorem cubbyref11_has.calls (k : Nat) (A0 : Option Addr) (c0 : Nat) (l0 : List Int) (a1 : Int) (r : Bool) (w : World) (hr0 : Kd.C (Kd.int .i64) w A0 l0.length l0) (hc0 : l0.length ≤ c0) (h : cubbyref11_has.f k l0 a1 = some r) :
 Calls Tryd.prog 158 #[.slice A0 l0.length c0, .int .i64 a1] w fun e w' => e = .returned (.bool r) ∧ Drawn0 w w' := by
 have HR0 := zA hr0
 have HC0 := zA hc0
 clear hr0 hc0
 have H := h; clear h; unfold cubbyref11_has.f at H
 have H' := zA H
 clear H
 go_enter Tryd.func158, Tryd.ntmps158
 go_wp2
 go_loopg [5] k (fun kq v5 w' => ∃ (x5_1 : Int), v5 = .int .i64 x5_1 ∧ Aside0 (cubbyref11_has.l0 kq l0 a1 x5_1 = some r) ∧ Aside0 (kq ≤ k) ∧ Drawn0 w w')
 case atStart => exact ⟨(0), qT, H', ⟨Nat.le_refl _⟩, qD⟩
 case round =>
  clear H'
  obtain ⟨x5_1, rfl, HA, HK1, ⟨m1, rfl⟩⟩ := hrel
  cases gk with
  | zero => exact absurd HA.out (by simp [cubbyref11_has.l0])
  | succ k1 =>
   have H := HA.out
   clear HA
   simp only [cubbyref11_has.l0] at H
   by_cases c3 : x5_1 < (l0.length : Int)
   ·rw [zC c3] at H
    have c3b0 := zF c3
    clear c3
    by_cases c4 : 0 ≤ x5_1
    ·rw [zC c4] at H
     have c4b0 := zF c4
     clear c4
     by_cases c5 : (rd l0 x5_1) = a1
     ·rw [zC c5] at H
      obtain ⟨c5b0, c5b1⟩ := qe c5; clear c5
      obtain rfl := zI H
      have p185 : 0 ≤ (x5_1 : Int) := zB qA
      have q185 : x5_1 < (l0.length : Int) := zB qA
      obtain ⟨ad185, e185, hx185_0⟩ := Kd.at_int HR0.out x5_1 p185 q185
      cases e185
      replace p185 := eq_true p185
      replace q185 := eq_true q185
      go_wp2
      go_ret
      exact ⟨by first | rfl | (simp; done) | (simp [*]; done), qD⟩
     ·rw [zD c5] at H
      obtain ⟨c5b0, c5b1⟩ := qn c5
      have H' := zA H
      clear H
      have p185 : 0 ≤ (x5_1 : Int) := zB qA
      have q185 : x5_1 < (l0.length : Int) := zB qA
      obtain ⟨ad185, e185, hx185_0⟩ := Kd.at_int HR0.out x5_1 p185 q185
      cases e185
      replace p185 := eq_true p185
      replace q185 := eq_true q185
      go_wp2
      go_roundg k1
      case measure => have := HK1.out; omega
      case rel => exact ⟨(wrap64 (x5_1 + 1)), qT, H', ⟨by have := HK1.out; omega⟩, qD⟩
    ·rw [zD c4] at H
     exact absurd H (by simp)
   ·rw [zD c3] at H
    have c3b0 := zG c3
    clear c3
    obtain rfl := zI H
    go_wp2
    go_ret
    exact ⟨by first | rfl | (simp; done) | (simp [*]; done), qD⟩

def cubbyref11_union.l0 : Nat → List Int → List Int → Int → List Int → Int → Option (List Int)
 | 0, _, _, _, _, _ => none
 | k + 1, x0, x1, x2, x7, x8 => if x8 < x2 then ((cubbyref11_has.f k x0 x8).bind fun t189 => (if t189 = true then (if x7.length < 17592186044416 then (cubbyref11_union.l0 k x0 x1 x2 (x7 ++ [x8]) (wrap64 (x8 + 1))) else (none)) else ((cubbyref11_has.f k x1 x8).bind fun t193 => (if t193 = true then (if x7.length < 17592186044416 then (cubbyref11_union.l0 k x0 x1 x2 (x7 ++ [x8]) (wrap64 (x8 + 1))) else (none)) else (cubbyref11_union.l0 k x0 x1 x2 x7 (wrap64 (x8 + 1))))))) else (some x7)
def cubbyref11_union.f (k : Nat) (l0 : List Int) (l1 : List Int) (a2 : Int) : Option (List Int) := cubbyref11_union.l0 k l0 l1 a2 (([] : List Int)) 0
set_option maxHeartbeats 8000000 in
set_option maxRecDepth 100000 in
theorem cubbyref11_union.calls (k : Nat) (A0 : Option Addr) (c0 : Nat) (l0 : List Int) (A1 : Option Addr) (c1 : Nat) (l1 : List Int) (a2 : Int) (r : List Int) (w : World) (hr0 : Kd.C (Kd.int .i64) w A0 l0.length l0) (hc0 : l0.length ≤ c0) (hr1 : Kd.C (Kd.int .i64) w A1 l1.length l1) (hc1 : l1.length ≤ c1) (h : cubbyref11_union.f k l0 l1 a2 = some r) :
 Calls Tryd.prog 129 #[.slice A0 l0.length c0, .slice A1 l1.length c1, .int .i64 a2] w fun e w' => ∃ v0_ : Value, e = .returned (v0_) ∧ Kd.R (Kd.int .i64) 3 w' w.heap.size (fun _ => True) v0_ r ∧ Below w.heap.size w w' := by
 have HR0 := zA hr0
 have HC0 := zA hc0
 clear hr0 hc0
 have HR1 := zA hr1
 have HC1 := zA hc1
 clear hr1 hc1
 have HB := zA (Below.refl w.heap.size w)
 have H := h; clear h; unfold cubbyref11_union.f at H
 obtain ⟨y186, hy186⟩ : ∃ y_ : List Int, y_ = (([] : List Int)) := ⟨_, rfl⟩
 replace H : (cubbyref11_union.l0 k l0 l1 a2 y186 0) = some r := by (try rw [hy186]); first | with_reducible exact H | exact (zJ _ _).symm.trans H | exact H
 have Ny186 := zA hy186
 clear hy186
 have H' := zA H
 clear H
 go_enter Tryd.func129, Tryd.ntmps129
 go_wp2_with (first | ((with_reducible refine gate_dst (N := 9) rfl ?_); refine Kd.R_lit (Kd.int .i64) _ 3 (by rfl) (N := 9) (by rfl) (xs := ([] : List Int)) (inner := []) (ok := fun _ => True) (okp := fun _ => True) ?hr ?hp (fun _ hk => hk) trivial (Below.refl _ _) (Nat.le_refl _) (by simp) ?_; (case hr => go_simp <;> rfl); (case hp => exact (Reps.none _ _)); intro v187 w4 ho5 hb hg_ hnew_; clear hg_ hnew_; (first | rw [← Ny186.out] at ho5 | (simp only [Int.reduceToNat] at ho5; rw [← Ny186.out] at ho5)); have HO188 := zA (Kd.R_lower ho5 (below_size qB)); replace HB := qH hb; clear hb ho5))
 go_loopg [7, 8] k (fun kq v7 v8 w' => ∃ (x7_1 : List Int) (x8_1 : Int), v8 = .int .i64 x8_1 ∧ Aside0 (cubbyref11_union.l0 kq l0 l1 a2 x7_1 x8_1 = some r) ∧ Aside0 (kq ≤ k) ∧ Aside0 (Kd.R (Kd.int .i64) 3 w' w.heap.size (fun _ => True) v7 x7_1) ∧ Aside0 (Below w.heap.size w w'))
 case atStart => exact ⟨(y186), (0), qT, H', ⟨Nat.le_refl _⟩, ⟨qR HO188.out⟩, ⟨qB⟩⟩
 case round =>
  clear H'
  obtain ⟨x7_1, x8_1, rfl, HA, HK1, HO_7, HB⟩ := hrel
  cases gk with
  | zero => exact absurd HA.out (by simp [cubbyref11_union.l0])
  | succ k1 =>
   have H := HA.out
   clear HA
   simp only [cubbyref11_union.l0] at H
   by_cases c6 : x8_1 < a2
   ·rw [zC c6] at H
    have c6b0 := zF c6
    clear c6
    replace H := qb H; obtain ⟨t189, A7, H⟩ := H
    by_cases c8 : t189 = true
    ·subst c8
     have H1 : (if x7_1.length < 17592186044416 then (cubbyref11_union.l0 k1 l0 l1 a2 (x7_1 ++ [x8_1]) (wrap64 (x8_1 + 1))) else (none)) = some r := by rw [zC rfl] at H; exact H
     clear H
     have H := H1
     clear H1
     by_cases c9 : x7_1.length < 17592186044416
     ·rw [zC c9] at H
      have LMc9 := zA c9
      clear c9
      obtain ⟨y190, hy190⟩ : ∃ y_ : List Int, y_ = (x7_1 ++ [x8_1]) := ⟨_, rfl⟩
      replace H : (cubbyref11_union.l0 k1 l0 l1 a2 y190 (wrap64 (x8_1 + 1))) = some r := by (try rw [hy190]); first | with_reducible exact H | exact (zJ _ _).symm.trans H | exact H
      have Ny190 := zA hy190
      clear hy190
      have H' := zA H
      clear H
      go_wp2_with (first | ((with_reducible refine gate_callee (f := 158) rfl ?_); refine goesL_ (some 17) rfl rfl Tryd.func158 (by kernel_rfl) rfl #[.slice A0 l0.length c0, .int .i64 x8_1] rfl qL ?_; (with_reducible refine (cubbyref11_has.calls k1 _ _ l0 x8_1 true _ ?side1 ?side2 A7.out).mono ?_); (case side1 => exact qCB HR0.out); (case side2 => exact HC0.out); rintro e w' ⟨rfl, ⟨nd, rfl⟩⟩; refine ⟨_, rfl, ?_⟩) | ((with_reducible refine gate_builtin (b := .append) (xs := #[.tmp 23, .tmp 25]) rfl ?_); at_builtin; refine Kd.R_append (Kd.int .i64) (w0 := w) w.heap.size rfl (.tmp 23) (.tmp 25) 35 3 (.int .i64 0) 8 rfl Tryd.underlying35 info3 rfl (by decide) (by omega) u7 x7_1 x8_1 [.int .i64 x8_1] (fun _ => True) (fun _ => False) rfl rfl ?aP (fun _ hk => hk.elim) ?aF ?aO ?aB ?aS ?aL ?_; (case aP => exact rfl); (case aB => exact qB); (case aF => exact (fun _ _ => trivial)); (case aO => exact (qR HO_7.out)); (case aS => exact (below_size qB)); (case aL => have := LMc9.out; omega); intro v191 w10 ho hb hg hat; rw [← Ny190.out] at ho; replace HB := zA (hb); have HO192 := zA (ho); clear HO_7; clear ho hb hg hat))
      go_roundg k1
      case measure => have := HK1.out; omega
      case rel => exact ⟨(y190), (wrap64 (x8_1 + 1)), qT, H', ⟨by have := HK1.out; omega⟩, ⟨qR HO192.out⟩, ⟨qB⟩⟩
     ·rw [zD c9] at H
      exact absurd H (by simp)
    ·replace c8 := Bool.eq_false_iff.mpr c8
     subst c8
     have H1 : ((cubbyref11_has.f k1 l1 x8_1).bind fun t193 => (if t193 = true then (if x7_1.length < 17592186044416 then (cubbyref11_union.l0 k1 l0 l1 a2 (x7_1 ++ [x8_1]) (wrap64 (x8_1 + 1))) else (none)) else (cubbyref11_union.l0 k1 l0 l1 a2 x7_1 (wrap64 (x8_1 + 1))))) = some r := by rw [zD (show ¬ (false = true) by decide)] at H; exact H
     clear H
     have H := H1
     clear H1
     replace H := qb H; obtain ⟨t193, A11, H⟩ := H
     by_cases c12 : t193 = true
     ·subst c12
      have H1 : (if x7_1.length < 17592186044416 then (cubbyref11_union.l0 k1 l0 l1 a2 (x7_1 ++ [x8_1]) (wrap64 (x8_1 + 1))) else (none)) = some r := by rw [zC rfl] at H; exact H
      clear H
      have H := H1
      clear H1
      by_cases c13 : x7_1.length < 17592186044416
      ·rw [zC c13] at H
       have LMc13 := zA c13
       clear c13
       obtain ⟨y194, hy194⟩ : ∃ y_ : List Int, y_ = (x7_1 ++ [x8_1]) := ⟨_, rfl⟩
       replace H : (cubbyref11_union.l0 k1 l0 l1 a2 y194 (wrap64 (x8_1 + 1))) = some r := by (try rw [hy194]); first | with_reducible exact H | exact (zJ _ _).symm.trans H | exact H
       have Ny194 := zA hy194
       clear hy194
       have H' := zA H
       clear H
       go_wp2_with (first | ((with_reducible refine gate_callee (f := 158) rfl ?_); refine goesL_ (some 17) rfl rfl Tryd.func158 (by kernel_rfl) rfl #[.slice A0 l0.length c0, .int .i64 x8_1] rfl qL ?_; (with_reducible refine (cubbyref11_has.calls k1 _ _ l0 x8_1 false _ ?side1 ?side2 A7.out).mono ?_); (case side1 => exact qCB HR0.out); (case side2 => exact HC0.out); rintro e w' ⟨rfl, ⟨nd, rfl⟩⟩; refine ⟨_, rfl, ?_⟩) | (go_at_call 158; (with_reducible refine (cubbyref11_has.calls k1 _ _ l1 x8_1 true _ ?side1 ?side2 A11.out).mono ?_); (case side1 => repeat (first | exact (Kd.C_below HR1.out qB) | (with_reducible refine Kd.C_alloc ?_ _) | (with_reducible refine Kd.C_drewN ?_ _) | (with_reducible refine Kd.C_drew ?_))); (case side2 => exact HC1.out); (try clear A11); rintro e w' ⟨rfl, ⟨nd, rfl⟩⟩) | ((with_reducible refine gate_builtin (b := .append) (xs := #[.tmp 23, .tmp 25]) rfl ?_); at_builtin; refine Kd.R_append (Kd.int .i64) (w0 := w) w.heap.size rfl (.tmp 23) (.tmp 25) 35 3 (.int .i64 0) 8 rfl Tryd.underlying35 info3 rfl (by decide) (by omega) u7 x7_1 x8_1 [.int .i64 x8_1] (fun _ => True) (fun _ => False) rfl rfl ?aP (fun _ hk => hk.elim) ?aF ?aO ?aB ?aS ?aL ?_; (case aP => exact rfl); (case aB => exact qB); (case aF => exact (fun _ _ => trivial)); (case aO => exact (qR HO_7.out)); (case aS => exact (below_size qB)); (case aL => have := LMc13.out; omega); intro v195 w14 ho hb hg hat; rw [← Ny194.out] at ho; replace HB := zA (hb); have HO196 := zA (ho); clear HO_7; clear ho hb hg hat))
       go_roundg k1
       case measure => have := HK1.out; omega
       case rel => exact ⟨(y194), (wrap64 (x8_1 + 1)), qT, H', ⟨by have := HK1.out; omega⟩, ⟨qR HO196.out⟩, ⟨qB⟩⟩
      ·rw [zD c13] at H
       exact absurd H (by simp)
     ·replace c12 := Bool.eq_false_iff.mpr c12
      subst c12
      have H1 : (cubbyref11_union.l0 k1 l0 l1 a2 x7_1 (wrap64 (x8_1 + 1))) = some r := by rw [zD (show ¬ (false = true) by decide)] at H; exact H
      clear H
      have H := H1
      clear H1
      have H' := zA H
      clear H
      go_wp2_with (first | ((with_reducible refine gate_callee (f := 158) rfl ?_); refine goesL_ (some 17) rfl rfl Tryd.func158 (by kernel_rfl) rfl #[.slice A0 l0.length c0, .int .i64 x8_1] rfl qL ?_; (with_reducible refine (cubbyref11_has.calls k1 _ _ l0 x8_1 false _ ?side1 ?side2 A7.out).mono ?_); (case side1 => exact qCB HR0.out); (case side2 => exact HC0.out); rintro e w' ⟨rfl, ⟨nd, rfl⟩⟩; refine ⟨_, rfl, ?_⟩) | (go_at_call 158; (with_reducible refine (cubbyref11_has.calls k1 _ _ l1 x8_1 false _ ?side1 ?side2 A11.out).mono ?_); (case side1 => repeat (first | exact (Kd.C_below HR1.out qB) | (with_reducible refine Kd.C_alloc ?_ _) | (with_reducible refine Kd.C_drewN ?_ _) | (with_reducible refine Kd.C_drew ?_))); (case side2 => exact HC1.out); (try clear A11); rintro e w' ⟨rfl, ⟨nd, rfl⟩⟩))
      go_roundg k1
      case measure => have := HK1.out; omega
      case rel => exact ⟨(x7_1), (wrap64 (x8_1 + 1)), qT, H', ⟨by have := HK1.out; omega⟩, ⟨qR HO_7.out⟩, ⟨qB⟩⟩
   ·rw [zD c6] at H
    have c6b0 := zG c6
    clear c6
    obtain rfl := zI H
    go_wp2
    go_ret
    exact ⟨_, qE, qR HO_7.out, qB⟩

def cubbyref11_behind.l0 : Nat → List (List Int) → List Int → List Int → Int → ByteArray → Int → Int → List (List (SIns)) → Option (List Int)
 | 0, _, _, _, _, _, _, _, _ => none
 | k + 1, x1, x7, x8, x9, x198000, x198001, x198002, x198003 => if x9 < (x8.length : Int) then (if 0 ≤ x9 then (if 0 ≤ (rd x8 x9) then (if (rd x8 x9) < (x1.length : Int) then ((cubbyref11_union.f k x7 (rd_LInt x1 (rd x8 x9)) x198002).bind fun t206 => (cubbyref11_behind.l0 k x1 t206 x8 (wrap64 (x9 + 1)) x198000 x198001 x198002 x198003)) else (none)) else (none)) else (none)) else (some x7)
def cubbyref11_behind.f (k : Nat) (a0_0 : ByteArray) (a0_1 : Int) (a0_2 : Int) (l0_3 : List (List (SIns))) (l1 : List (List Int)) (a2 : Int) : Option (List Int) := (cubbyref09_Succs.f k l0_3 a2).bind fun t201 => (cubbyref11_behind.l0 k l1 (([] : List Int)) t201 0 a0_0 a0_1 a0_2 l0_3)
def cubbyref11_behind.T6 : Bool × List (List Nat × List Nat) := (true, [([], []), ([], []), ([], []), ([], []), ([2, 3], [2, 3]), ([4], [4]), ([1, 5], [1, 5]), ([6], [6]), ([], []), ([8], [8]), ([0, 7, 9], [0, 7, 9]), ([10, 10, 0, 1, 2, 3, 4, 5, 6, 7, 8, 9, 10], [0, 10])])
def cubbyref11_behind.B6 : List Nat := [0, 0, 0, 0, 12, 28, 62, 126, 0, 256, 1023, 2047]
theorem cubbyref11_behind.tab6 : rtab .any (opsOf Tryd.f89 6) = cubbyref11_behind.T6 := by kernel_rfl
theorem cubbyref11_behind.bits6 : waitsOk cubbyref11_behind.T6.2 cubbyref11_behind.B6 = true := by kernel_rfl
set_option maxHeartbeats 8000000 in
set_option maxRecDepth 100000 in
theorem cubbyref11_behind.calls (k : Nat) (a0_0 : ByteArray) (a0_1 : Int) (a0_2 : Int) (A0_3 : Option Addr) (c0_3 : Nat) (l0_3 : List (List (SIns))) (A1 : Option Addr) (c1 : Nat) (l1 : List (List Int)) (a2 : Int) (r : List Int) (w : World) (hr0_3 : Kd.C (Kd.slice 38 kIns) w A0_3 l0_3.length l0_3) (hc0_3 : l0_3.length ≤ c0_3) (hr1 : Kd.C (Kd.slice 3 (Kd.int .i64)) w A1 l1.length l1) (hc1 : l1.length ≤ c1) (h : cubbyref11_behind.f k a0_0 a0_1 a0_2 l0_3 l1 a2 = some r) :
 Calls Tryd.prog 89 #[.agg #[.string a0_0, .int .i64 a0_1, .int .i64 a0_2, .slice A0_3 l0_3.length c0_3], .slice A1 l1.length c1, .int .i64 a2] w fun e w' => ∃ v0_ : Value, e = .returned (v0_) ∧ Kd.R (Kd.int .i64) 3 w' w.heap.size (fun _ => True) v0_ r ∧ Below w.heap.size w w' := by
 have hu24 := Tryd.underlying24
 have HR0_3 := zA hr0_3
 have HC0_3 := zA hc0_3
 clear hr0_3 hc0_3
 have HR1 := zA hr1
 have HC1 := zA hc1
 clear hr1 hc1
 have HB := zA (Below.refl w.heap.size w)
 have H := h; clear h; unfold cubbyref11_behind.f at H
 obtain ⟨y198, hy198⟩ : ∃ y_ : List Int, y_ = (([] : List Int)) := ⟨_, rfl⟩
 replace H : ((cubbyref09_Succs.f k l0_3 a2).bind fun t201 => (cubbyref11_behind.l0 k l1 y198 t201 0 a0_0 a0_1 a0_2 l0_3)) = some r := by (try rw [hy198]); first | with_reducible exact H | exact (zJ _ _).symm.trans H | exact H
 have Ny198 := zA hy198
 clear hy198
 replace H := qb H; obtain ⟨t201, A4, H⟩ := H
 have H' := zA H
 clear H
 go_enter Tryd.func89, Tryd.ntmps89
 go_wp2_with (first | ((with_reducible refine gate_dst (N := 3) rfl ?_); refine box_event (by rfl) (N := 3) (by rfl) (cs := #[.string a0_0, .int .i64 a0_1, .int .i64 a0_2, .slice A0_3 l0_3.length c0_3]) (t := 24) ?hr ?_; (case hr => go_simp <;> rfl); intro gb197 hg w5 hbox hb; have BK197 := zA (hbox); have GW197 := qG hg; have GE197 := GW197; replace HB := qH hb; clear hb hbox hg) | ((with_reducible refine gate_dst (N := 10) rfl ?_); refine Kd.R_lit (Kd.int .i64) _ 3 (by rfl) (N := 10) (by rfl) (xs := ([] : List Int)) (inner := []) (ok := fun _ => True) (okp := fun _ => True) ?hr ?hp (fun _ hk => hk) trivial (Below.refl _ _) (Nat.le_refl _) (by simp) ?_; (case hr => go_simp <;> rfl); (case hp => exact (Reps.none _ _)); intro v199 w6 ho7 hb hg_ hnew_; clear hg_ hnew_; (first | rw [← Ny198.out] at ho7 | (simp only [Int.reduceToNat] at ho7; rw [← Ny198.out] at ho7)); have HO200 := zA (Kd.R_lower ho7 (below_size qB)); replace BK197 := qW BK197 hb; replace HB := qH hb; clear hb ho7; have z8_0 := bk4 BK197.out) | ((with_reducible refine gate_callee (f := 123) rfl ?_); refine goesL_ (some 14) rfl rfl Tryd.func123 (by kernel_rfl) rfl #[.slice A0_3 l0_3.length c0_3, .int .i64 a2] rfl qL ?_; (with_reducible refine (cubbyref09_Succs.calls k _ _ l0_3 a2 t201 _ ?side1 ?side2 A4.out).mono ?_); (case side1 => exact qCB HR0_3.out); (case side2 => exact HC0_3.out); rintro e w9 ⟨v202, rfl, ho0, hb⟩; refine ⟨_, rfl, ?_⟩; have HO203 := zA (Kd.R_lower (Kd.R_new' ho0 (Kd.R_lt (qR HO200.out))) (below_size qB)); replace HO200 := zA (Kd.R_elder' (qR HO200.out) (Kd.R_base ho0) hb); replace BK197 := qW BK197 hb; replace HB := qH hb; (try clear hb); (try clear ho0)))
 go_loopg [7, 9] k (fun kq v7 v9 w' => ∃ (x7_1 : List Int) (x9_1 : Int), v9 = .int .i64 x9_1 ∧ Aside0 (cubbyref11_behind.l0 kq l1 x7_1 t201 x9_1 a0_0 a0_1 a0_2 l0_3 = some r) ∧ Aside0 (kq ≤ k) ∧ Aside0 (Kd.R (Kd.int .i64) 3 w' w.heap.size (fun k_ => some k_ ≠ (v202 : Value).ownBlock) v7 x7_1) ∧ Aside0 (Kd.R (Kd.int .i64) 3 w' w.heap.size (fun k_ => some k_ ≠ (v7 : Value).ownBlock) v202 t201) ∧ Aside0 (w'.heap[gb197]? = some (.cells #[.string a0_0, .int .i64 a0_1, .int .i64 a0_2, (.slice A0_3 l0_3.length c0_3)] 24 (0, 0))) ∧ Aside0 (Below w.heap.size w w'))
 case atStart => exact ⟨(y198), (0), qT, H', ⟨Nat.le_refl _⟩, ⟨by (with_reducible repeat (first | apply Kd.R_alloc | apply Kd.R_drewN | apply Kd.R_drew)); exact Kd.R_mono HO200.out (fun _ hk => hk.2)⟩, ⟨by (with_reducible repeat (first | apply Kd.R_alloc | apply Kd.R_drewN | apply Kd.R_drew)); exact Kd.R_mono HO203.out (fun _ hk => hk.2)⟩, ⟨qK BK197.out⟩, ⟨qB⟩⟩
 case round =>
  clear H'
  obtain ⟨x7_1, x9_1, rfl, HA, HK1, HO_7, HO_8, BK197, HB⟩ := hrel
  cases gk with
  | zero => exact absurd HA.out (by simp [cubbyref11_behind.l0])
  | succ k1 =>
   have H := HA.out
   clear HA
   simp only [cubbyref11_behind.l0] at H
   by_cases c10 : x9_1 < (t201.length : Int)
   ·rw [zC c10] at H
    have c10b0 := zF c10
    clear c10
    by_cases c11 : 0 ≤ x9_1
    ·rw [zC c11] at H
     have c11b0 := zF c11
     clear c11
     by_cases c12 : 0 ≤ (rd t201 x9_1)
     ·rw [zC c12] at H
      have c12b0 := zF c12
      clear c12
      by_cases c13 : (rd t201 x9_1) < (l1.length : Int)
      ·rw [zC c13] at H
       have c13b0 := zF c13
       clear c13
       replace H := qb H; obtain ⟨t206, A14, H⟩ := H
       have H' := zA H
       clear H
       obtain ⟨Ao15, co15, eo15⟩ := Kd.R_slice HO_8.out
       subst eo15
       try go_wp2
       have n0_ := zA (Kd.R_drew HO_7.out)
       have n1_ := zA (Kd.R_drew HO_8.out)
       have n2_ := zA (blk_drew BK197.out)
       have n3_ := zA (below_drew1 HB.out)
       clear HO_7
       clear HO_8
       clear BK197
       clear HB
       have HO_7 := n0_
       have HO_8 := n1_
       have BK197 := n2_
       have HB := n3_
       clear n0_ n1_ n2_ n3_
       have p204 : 0 ≤ (x9_1 : Int) := zB qA
       have q204 : x9_1 < (t201.length : Int) := zB qA
       obtain ⟨ad204, e204, hx204_0⟩ := Kd.at_int (Kd.R_reads' HO_8.out).2.2 x9_1 p204 q204
       cases e204
       replace p204 := eq_true p204
       replace q204 := eq_true q204
       have p205 : 0 ≤ ((rd t201 x9_1) : Int) := zB qA
       have q205 : (rd t201 x9_1) < (l1.length : Int) := zB qA
       obtain ⟨ad205, A205_0, c205_0, e205, hx205_0, hl205_0, hi205_0⟩ := at_LInt HR1.out (rd t201 x9_1) p205 q205
       have hw205_0 := hx205_0
       cases e205
       replace hx205_0 := (HB.out.cell (zE w _ hx205_0)).trans hx205_0
       have HR205_0 := zA hi205_0
       have HC205_0 := zA hl205_0
       clear hi205_0 hl205_0
       replace p205 := eq_true p205
       replace q205 := eq_true q205
       obtain ⟨Ao17, co17, eo17⟩ := Kd.R_slice HO_7.out
       (first | subst eo17 | (injection eo17 with f1_ f2_ f3_; have f4_ := f1_.symm; have f5_ := f3_.symm; clear f1_ f2_ f3_; subst f4_; subst f5_))
       refine start_ (n := 12) (S := fun w' => w'.cell? ⟨gb197, 0, none⟩ = some (.string a0_0) ∧ w'.cell? ⟨gb197, 1, none⟩ = some (.int .i64 a0_1) ∧ w'.cell? ⟨gb197, 2, none⟩ = some (.int .i64 a0_2) ∧ w'.cell? ⟨gb197, 3, none⟩ = some (.slice A0_3 l0_3.length c0_3) ∧ w'.cell? (ad204.add (x9_1).toNat) = some (.int .i64 (rd t201 x9_1)) ∧ w'.cell? (ad205.add ((rd t201 x9_1)).toNat) = some (.slice A205_0 (rd_LInt l1 (rd t201 x9_1)).length c205_0)) (ds := []) (bA 12 0) (by kernel_rfl) rfl rfl ⟨(blk_cell BK197.out 0).trans rfl, (blk_cell BK197.out 1).trans rfl, (blk_cell BK197.out 2).trans rfl, (blk_cell BK197.out 3).trans rfl, hx204_0, ((HB.out.cell (zE w _ hw205_0)).trans hw205_0)⟩ (fun hHeld => ?_); refine with_tabW cubbyref11_behind.tab6 cubbyref11_behind.bits6 (fun HT_ HW_ => ?_)
       generalize wr.drew = w16 at HO_7 HO_8 BK197 HB HR205_0 hx204_0 hx205_0 hHeld ⊢
       refine pu_ (i := 0) (N := some 21) (bA 12 1) ?_
       refine pu_ (i := 1) (N := some 22) (bA 12 3) ?_
       refine pu_ (i := 2) (N := some 23) (bA 12 7) ?_
       refine pu_ (i := 3) (N := some 24) (bA 12 15) ?_
       refine pu_ (i := 4) (N := some 25) (bA 12 31) ?_
       refine pu_ (i := 8) (N := some 29) (bA 12 287) ?_
       refine tk_ (i := 5) (N := some 26) (bA 12 319) ?_
       refine pu_ (i := 6) (N := some 27) (bA 12 383) ?_
       refine tk_ (i := 7) (N := some 28) (bA 12 511) ?_
       refine tk_ (i := 9) (N := some 30) (bA 12 1023) ?_
       refine one_ (i := 10) (N := some 31) (bA 12 2047) rfl rfl (one_of HT_.out (by kernel_rfl)) (by decide) (fun K hK => ?_)
       refine goes_ Tryd.func129 (by kernel_rfl) rfl #[.slice Ao17 x7_1.length co17, .slice A205_0 (rd_LInt l1 (rd t201 x9_1)).length c205_0, .int .i64 a0_2] (by rfl) rfl rfl qL ?_
       with_reducible refine (cubbyref11_union.calls k1 _ _ x7_1 _ _ (rd_LInt l1 (rd t201 x9_1)) a0_2 t206 _ ?side1 ?side2 ?side3 ?side4 A14.out).mono ?_
       (case side1 => repeat (first | exact (Kd.R_reads' HO_7.out).2.2 | (with_reducible refine Kd.C_alloc ?_ _) | (with_reducible refine Kd.C_drewN ?_ _) | (with_reducible refine Kd.C_drew ?_)))
       (case side2 => exact (Kd.R_reads' HO_7.out).2.1)
       (case side3 => exact qCB HR205_0.out)
       (case side4 => exact HC205_0.out)
       rintro e w18 ⟨v207, rfl, ho0, hb⟩
       have HS4_ := (hb.cell (zE _ _ (hHeld.2.2.2.2.1))).trans (hHeld.2.2.2.2.1)
       refine ⟨_, rfl, ?_⟩
       have n0_ := zA (Kd.R_elder' (qR HO_7.out) (Kd.R_base ho0) hb)
       have n1_ := zA (Kd.R_elder' (qR HO_8.out) (Kd.R_base ho0) hb)
       have n2_ := zA (Kd.R_lower (Kd.R_new' (Kd.R_new' ho0 (Kd.R_lt (qR HO_7.out))) (Kd.R_lt (qR HO_8.out))) (below_size qB))
       have n3_ := qW BK197 hb
       have n4_ := qH hb
       clear HO_7
       clear HO_8
       clear BK197
       clear HB
       have HO_7 := n0_
       have HO_8 := n1_
       have HO208 := n2_
       have BK197 := n3_
       have HB := n4_
       clear n0_ n1_ n2_ n3_ n4_
       (try clear hb)
       (try clear hb2)
       (try clear hk)
       (try clear hi)
       (try clear ho0)
       refine hK.out _ _ ⟨(blk_cell BK197.out 0).trans rfl, (blk_cell BK197.out 1).trans rfl, (blk_cell BK197.out 2).trans rfl, (blk_cell BK197.out 3).trans rfl, HS4_, ((HB.out.cell (zE w _ hw205_0)).trans hw205_0)⟩ (fun hHeld => ?_)
       clear hK K
       refine norm_ (a' := ?_) ?_ ?_
       rotate_left
       ·show Act.put _ (some 31) _ = _
        simp only [Act.put, List.setIfInBounds_toArray, List.set_cons_zero, List.set_cons_succ, i64_w, i32_w]
        rfl
       refine pu_ (i := 11) (N := some 7) (bA 12 4095) ?_
       refine done_ (done_of HT_.out (by kernel_rfl)) ?_
       try go_wp2
       go_roundg k1
       case measure => have := HK1.out; omega
       case rel => exact ⟨(t206), (wrap64 (x9_1 + 1)), qT, H', ⟨by have := HK1.out; omega⟩, ⟨by (with_reducible repeat (first | apply Kd.R_alloc | apply Kd.R_drewN | apply Kd.R_drew)); exact Kd.R_mono HO208.out (fun _ hk => hk.2)⟩, ⟨by (with_reducible repeat (first | apply Kd.R_alloc | apply Kd.R_drewN | apply Kd.R_drew)); exact Kd.R_mono HO_8.out (fun _ hk => hk.2)⟩, ⟨qK BK197.out⟩, ⟨qB⟩⟩
      ·rw [zD c13] at H
       exact absurd H (by simp)
     ·rw [zD c12] at H
      exact absurd H (by simp)
    ·rw [zD c11] at H
     exact absurd H (by simp)
   ·rw [zD c10] at H
    have c10b0 := zG c10
    clear c10
    obtain rfl := zI H
    obtain ⟨Ao19, co19, eo19⟩ := Kd.R_slice HO_8.out
    subst eo19
    go_wp2
    go_ret
    exact ⟨_, qE, by (with_reducible repeat (first | apply Kd.R_alloc | apply Kd.R_drewN | apply Kd.R_drew)); exact Kd.R_mono HO_7.out (fun _ hk => trivial), qB⟩

def cubbyref11_through.l0 : Nat → List Int → Int → List Int → Int → Int → Int → Int → Int → ByteArray → List Int → Option (List Int)
 | 0, _, _, _, _, _, _, _, _, _, _ => none
 | k + 1, x1, x2, x7, x8, x210000, x210001, x210002, x210003, x210004, x210005 => if x8 < (x1.length : Int) then (if 0 ≤ x8 then ((cubbyref07_Def.f x210000 x210001 x210002 x210003 x210004 x210005).bind fun t214 => (if (rd x1 x8) = t214 then (cubbyref11_through.l0 k x1 x2 x7 (wrap64 (x8 + 1)) x210000 x210001 x210002 x210003 x210004 x210005) else (if x7.length < 17592186044416 then (cubbyref11_through.l0 k x1 x2 (x7 ++ [rd x1 x8]) (wrap64 (x8 + 1)) x210000 x210001 x210002 x210003 x210004 x210005) else (none)))) else (none)) else ((cubbyref07_Uses.f k x210000 x210001 x210002 x210003 x210004 x210005).bind fun t219 => ((cubbyref11_union.f k x7 t219 x2).bind fun t222 => (some t222)))
def cubbyref11_through.f (k : Nat) (a0_0 : Int) (a0_1 : Int) (a0_2 : Int) (a0_3 : Int) (a0_4 : ByteArray) (l0_5 : List Int) (l1 : List Int) (a2 : Int) : Option (List Int) := cubbyref11_through.l0 k l1 a2 (([] : List Int)) 0 a0_0 a0_1 a0_2 a0_3 a0_4 l0_5
set_option maxHeartbeats 8000000 in
set_option maxRecDepth 100000 in
theorem cubbyref11_through.calls (k : Nat) (a0_0 : Int) (a0_1 : Int) (a0_2 : Int) (a0_3 : Int) (a0_4 : ByteArray) (A0_5 : Option Addr) (c0_5 : Nat) (l0_5 : List Int) (A1 : Option Addr) (c1 : Nat) (l1 : List Int) (a2 : Int) (r : List Int) (w : World) (hr0_5 : Kd.C (Kd.int .i64) w A0_5 l0_5.length l0_5) (hc0_5 : l0_5.length ≤ c0_5) (hr1 : Kd.C (Kd.int .i64) w A1 l1.length l1) (hc1 : l1.length ≤ c1) (h : cubbyref11_through.f k a0_0 a0_1 a0_2 a0_3 a0_4 l0_5 l1 a2 = some r) :
 Calls Tryd.prog 90 #[.agg #[.int .i64 a0_0, .int .i64 a0_1, .int .i64 a0_2, .int .i64 a0_3, .string a0_4, .slice A0_5 l0_5.length c0_5], .slice A1 l1.length c1, .int .i64 a2] w fun e w' => ∃ v0_ : Value, e = .returned (v0_) ∧ Kd.R (Kd.int .i64) 3 w' w.heap.size (fun _ => True) v0_ r ∧ Below w.heap.size w w' := by
 have hu38 := Tryd.underlying38
 have HR0_5 := zA hr0_5
 have HC0_5 := zA hc0_5
 clear hr0_5 hc0_5
 have HR1 := zA hr1
 have HC1 := zA hc1
 clear hr1 hc1
 have HB := zA (Below.refl w.heap.size w)
 have H := h; clear h; unfold cubbyref11_through.f at H
 obtain ⟨y210, hy210⟩ : ∃ y_ : List Int, y_ = (([] : List Int)) := ⟨_, rfl⟩
 replace H : (cubbyref11_through.l0 k l1 a2 y210 0 a0_0 a0_1 a0_2 a0_3 a0_4 l0_5) = some r := by (try rw [hy210]); first | with_reducible exact H | exact (zJ _ _).symm.trans H | exact H
 have Ny210 := zA hy210
 clear hy210
 have H' := zA H
 clear H
 go_enter Tryd.func90, Tryd.ntmps90
 go_wp2_with (first | ((with_reducible refine gate_dst (N := 3) rfl ?_); refine box_event (by rfl) (N := 3) (by rfl) (cs := #[.int .i64 a0_0, .int .i64 a0_1, .int .i64 a0_2, .int .i64 a0_3, .string a0_4, .slice A0_5 l0_5.length c0_5]) (t := 38) ?hr ?_; (case hr => go_simp <;> rfl); intro gb209 hg w4 hbox hb; have BK209 := zA (hbox); have GW209 := qG hg; have GE209 := GW209; replace HB := qH hb; clear hb hbox hg) | ((with_reducible refine gate_dst (N := 9) rfl ?_); refine Kd.R_lit (Kd.int .i64) _ 3 (by rfl) (N := 9) (by rfl) (xs := ([] : List Int)) (inner := []) (ok := fun _ => True) (okp := fun _ => True) ?hr ?hp (fun _ hk => hk) trivial (Below.refl _ _) (Nat.le_refl _) (by simp) ?_; (case hr => go_simp <;> rfl); (case hp => exact (Reps.none _ _)); intro v211 w5 ho6 hb hg_ hnew_; clear hg_ hnew_; (first | rw [← Ny210.out] at ho6 | (simp only [Int.reduceToNat] at ho6; rw [← Ny210.out] at ho6)); have HO212 := zA (Kd.R_lower ho6 (below_size qB)); replace BK209 := qW BK209 hb; replace HB := qH hb; clear hb ho6))
 go_loopg [7, 8] k (fun kq v7 v8 w' => ∃ (x7_1 : List Int) (x8_1 : Int), v8 = .int .i64 x8_1 ∧ Aside0 (cubbyref11_through.l0 kq l1 a2 x7_1 x8_1 a0_0 a0_1 a0_2 a0_3 a0_4 l0_5 = some r) ∧ Aside0 (kq ≤ k) ∧ Aside0 (Kd.R (Kd.int .i64) 3 w' w.heap.size (fun _ => True) v7 x7_1) ∧ Aside0 (w'.heap[gb209]? = some (.cells #[.int .i64 a0_0, .int .i64 a0_1, .int .i64 a0_2, .int .i64 a0_3, .string a0_4, (.slice A0_5 l0_5.length c0_5)] 38 (0, 0))) ∧ Aside0 (Below w.heap.size w w'))
 case atStart => exact ⟨(y210), (0), qT, H', ⟨Nat.le_refl _⟩, ⟨qR HO212.out⟩, ⟨qK BK209.out⟩, ⟨qB⟩⟩
 case round =>
  clear H'
  obtain ⟨x7_1, x8_1, rfl, HA, HK1, HO_7, BK209, HB⟩ := hrel
  cases gk with
  | zero => exact absurd HA.out (by simp [cubbyref11_through.l0])
  | succ k1 =>
   have H := HA.out
   clear HA
   simp only [cubbyref11_through.l0] at H
   by_cases c7 : x8_1 < (l1.length : Int)
   ·rw [zC c7] at H
    have c7b0 := zF c7
    clear c7
    by_cases c8 : 0 ≤ x8_1
    ·rw [zC c8] at H
     have c8b0 := zF c8
     clear c8
     replace H := qb H; obtain ⟨t214, A9, H⟩ := H
     by_cases c10 : (rd l1 x8_1) = t214
     ·rw [zC c10] at H
      obtain ⟨c10b0, c10b1⟩ := qe c10; clear c10
      have H' := zA H
      clear H
      try go_wp2
      have n0_ := zA (Kd.R_drew HO_7.out)
      have n1_ := zA (blk_drew BK209.out)
      have n2_ := zA (below_drew1 HB.out)
      clear HO_7
      clear BK209
      clear HB
      have HO_7 := n0_
      have BK209 := n1_
      have HB := n2_
      clear n0_ n1_ n2_
      have p213 : 0 ≤ (x8_1 : Int) := zB qA
      have q213 : x8_1 < (l1.length : Int) := zB qA
      obtain ⟨ad213, e213, hx213_0⟩ := Kd.at_int HR1.out x8_1 p213 q213
      have hw213_0 := hx213_0
      cases e213
      replace hx213_0 := (HB.out.cell (zE w _ hx213_0)).trans hx213_0
      replace p213 := eq_true p213
      replace q213 := eq_true q213
      refine start_ (n := 7) (S := fun w' => w'.cell? ⟨gb209, 0, none⟩ = some (.int .i64 a0_0) ∧ w'.cell? ⟨gb209, 1, none⟩ = some (.int .i64 a0_1) ∧ w'.cell? ⟨gb209, 2, none⟩ = some (.int .i64 a0_2) ∧ w'.cell? ⟨gb209, 3, none⟩ = some (.int .i64 a0_3) ∧ w'.cell? ⟨gb209, 4, none⟩ = some (.string a0_4) ∧ w'.cell? ⟨gb209, 5, none⟩ = some (.slice A0_5 l0_5.length c0_5) ∧ w'.cell? (ad213.add (x8_1).toNat) = some (.int .i64 (rd l1 x8_1))) (ds := []) (bA 7 0) (by kernel_rfl) rfl rfl ⟨(blk_cell BK209.out 0).trans rfl, (blk_cell BK209.out 1).trans rfl, (blk_cell BK209.out 2).trans rfl, (blk_cell BK209.out 3).trans rfl, (blk_cell BK209.out 4).trans rfl, (blk_cell BK209.out 5).trans rfl, ((HB.out.cell (zE w _ hw213_0)).trans hw213_0)⟩ (fun hHeld => ?_)
      generalize wr.drew = w11 at HO_7 BK209 HB hx213_0 hHeld ⊢
      refine pure_ (i := 0) (N := some 16) (v := ?_) (a' := ?_) (bA 7 1) rfl rfl (by kernel_rfl) (fun _ _ _ h => h) (Or.inl ⟨by rfl, ?_⟩) ?_ ?_
      rotate_left
      ·intro w'
       go_simp
       with_reducible rfl
      rotate_left
      ·simp only [Act.put, List.setIfInBounds_toArray, List.set_cons_zero, List.set_cons_succ, i64_w, i32_w]
       rfl
      refine pure_ (i := 1) (N := some 17) (v := ?_) (a' := ?_) (bA 7 3) rfl rfl (by kernel_rfl) (fun _ _ _ h => h) (Or.inl ⟨by rfl, ?_⟩) ?_ ?_
      rotate_left
      ·intro w'
       go_simp
       with_reducible rfl
      rotate_left
      ·simp only [Act.put, List.setIfInBounds_toArray, List.set_cons_zero, List.set_cons_succ, i64_w, i32_w]
       rfl
      refine pure_ (i := 2) (N := some 18) (v := ?_) (a' := ?_) (bA 7 7) rfl rfl (by kernel_rfl) (fun _ _ _ h => h) (Or.inl ⟨by rfl, ?_⟩) ?_ ?_
      rotate_left
      ·intro w'
       go_simp
       with_reducible rfl
      rotate_left
      ·simp only [Act.put, List.setIfInBounds_toArray, List.set_cons_zero, List.set_cons_succ, i64_w, i32_w]
       rfl
      refine take_ (i := 3) (N := some 19) (v := ?_) (a' := ?_) (bA 7 15) rfl rfl (by kernel_rfl) (fun _ _ _ h => h) (Or.inl ⟨by rfl, ?_⟩) hHeld ?_ ?_
      rotate_left
      ·rintro w' ⟨s0, s1, s2, s3, s4, s5, s6⟩
       go_simp
       with_reducible rfl
      rotate_left
      ·simp only [Act.put, List.setIfInBounds_toArray, List.set_cons_zero, List.set_cons_succ, i64_w, i32_w]
       rfl
      refine take_ (i := 4) (N := some 20) (v := ?_) (a' := ?_) (bA 7 31) rfl rfl (by kernel_rfl) (fun _ _ _ h => h) (Or.inl ⟨by rfl, ?_⟩) hHeld ?_ ?_
      rotate_left
      ·rintro w' ⟨s0, s1, s2, s3, s4, s5, s6⟩
       go_simp
       with_reducible rfl
      rotate_left
      ·simp only [Act.put, List.setIfInBounds_toArray, List.set_cons_zero, List.set_cons_succ, i64_w, i32_w]
       rfl
      refine one_ (i := 5) (N := some 21) (bA 7 63) rfl rfl (by kernel_rfl) (by decide) (fun K hK => ?_)
      refine goes_ Tryd.func18 (by kernel_rfl) rfl #[.agg #[.int .i64 a0_0, .int .i64 a0_1, .int .i64 a0_2, .int .i64 a0_3, .string a0_4, .slice A0_5 l0_5.length c0_5]] (by rfl) rfl rfl qL ?_
      with_reducible refine (cubbyref07_Def.calls a0_0 a0_1 a0_2 a0_3 a0_4 _ _ l0_5 t214 _ ?side1 ?side2 A9.out).mono ?_
      (case side1 => exact qCB HR0_5.out)
      (case side2 => exact HC0_5.out)
      rintro e w12 ⟨rfl, hb⟩
      refine ⟨_, rfl, ?_⟩
      have n0_ := zA (Kd.R_below (qR HO_7.out) hb)
      have n1_ := qW BK209 hb
      have n2_ := qH hb
      clear HO_7
      clear BK209
      clear HB
      have HO_7 := n0_
      have BK209 := n1_
      have HB := n2_
      clear n0_ n1_ n2_
      (try clear hb)
      (try clear hb2)
      (try clear hk)
      (try clear hi)
      refine hK.out _ _ ⟨(blk_cell BK209.out 0).trans rfl, (blk_cell BK209.out 1).trans rfl, (blk_cell BK209.out 2).trans rfl, (blk_cell BK209.out 3).trans rfl, (blk_cell BK209.out 4).trans rfl, (blk_cell BK209.out 5).trans rfl, ((HB.out.cell (zE w _ hw213_0)).trans hw213_0)⟩ (fun hHeld => ?_)
      clear hK K
      refine norm_ (a' := ?_) ?_ ?_
      rotate_left
      ·show Act.put _ (some 21) _ = _
       simp only [Act.put, List.setIfInBounds_toArray, List.set_cons_zero, List.set_cons_succ, i64_w, i32_w]
       rfl
      refine pure_ (i := 6) (N := some 22) (v := ?_) (a' := ?_) (bA 7 127) rfl rfl (by kernel_rfl) (fun _ _ _ h => h) (Or.inl ⟨by rfl, ?_⟩) ?_ ?_
      rotate_left
      ·intro w'
       go_simp
       with_reducible rfl
      rotate_left
      ·simp only [Act.put, List.setIfInBounds_toArray, List.set_cons_zero, List.set_cons_succ, i64_w, i32_w]
       rfl
      refine done_ (by kernel_rfl) ?_
      try go_wp2
      go_roundg k1
      case measure => have := HK1.out; omega
      case rel => exact ⟨(x7_1), (wrap64 (x8_1 + 1)), qT, H', ⟨by have := HK1.out; omega⟩, ⟨qR HO_7.out⟩, ⟨qK BK209.out⟩, ⟨qB⟩⟩
     ·rw [zD c10] at H
      obtain ⟨c10b0, c10b1⟩ := qn c10
      by_cases c13 : x7_1.length < 17592186044416
      ·rw [zC c13] at H
       have LMc13 := zA c13
       clear c13
       obtain ⟨y216, hy216⟩ : ∃ y_ : List Int, y_ = (x7_1 ++ [rd l1 x8_1]) := ⟨_, rfl⟩
       replace H : (cubbyref11_through.l0 k1 l1 a2 y216 (wrap64 (x8_1 + 1)) a0_0 a0_1 a0_2 a0_3 a0_4 l0_5) = some r := by (try rw [hy216]); first | with_reducible exact H | exact (zJ _ _).symm.trans H | exact H
       have Ny216 := zA hy216
       clear hy216
       have H' := zA H
       clear H
       try go_wp2
       have n0_ := zA (Kd.R_drew HO_7.out)
       have n1_ := zA (blk_drew BK209.out)
       have n2_ := zA (below_drew1 HB.out)
       clear HO_7
       clear BK209
       clear HB
       have HO_7 := n0_
       have BK209 := n1_
       have HB := n2_
       clear n0_ n1_ n2_
       have p213 : 0 ≤ (x8_1 : Int) := zB qA
       have q213 : x8_1 < (l1.length : Int) := zB qA
       obtain ⟨ad213, e213, hx213_0⟩ := Kd.at_int HR1.out x8_1 p213 q213
       have hw213_0 := hx213_0
       cases e213
       replace hx213_0 := (HB.out.cell (zE w _ hx213_0)).trans hx213_0
       replace p213 := eq_true p213
       replace q213 := eq_true q213
       refine start_ (n := 7) (S := fun w' => w'.cell? ⟨gb209, 0, none⟩ = some (.int .i64 a0_0) ∧ w'.cell? ⟨gb209, 1, none⟩ = some (.int .i64 a0_1) ∧ w'.cell? ⟨gb209, 2, none⟩ = some (.int .i64 a0_2) ∧ w'.cell? ⟨gb209, 3, none⟩ = some (.int .i64 a0_3) ∧ w'.cell? ⟨gb209, 4, none⟩ = some (.string a0_4) ∧ w'.cell? ⟨gb209, 5, none⟩ = some (.slice A0_5 l0_5.length c0_5) ∧ w'.cell? (ad213.add (x8_1).toNat) = some (.int .i64 (rd l1 x8_1))) (ds := []) (bA 7 0) (by kernel_rfl) rfl rfl ⟨(blk_cell BK209.out 0).trans rfl, (blk_cell BK209.out 1).trans rfl, (blk_cell BK209.out 2).trans rfl, (blk_cell BK209.out 3).trans rfl, (blk_cell BK209.out 4).trans rfl, (blk_cell BK209.out 5).trans rfl, ((HB.out.cell (zE w _ hw213_0)).trans hw213_0)⟩ (fun hHeld => ?_)
       generalize wr.drew = w14 at HO_7 BK209 HB hx213_0 hHeld ⊢
       refine pure_ (i := 0) (N := some 16) (v := ?_) (a' := ?_) (bA 7 1) rfl rfl (by kernel_rfl) (fun _ _ _ h => h) (Or.inl ⟨by rfl, ?_⟩) ?_ ?_
       rotate_left
       ·intro w'
        go_simp
        with_reducible rfl
       rotate_left
       ·simp only [Act.put, List.setIfInBounds_toArray, List.set_cons_zero, List.set_cons_succ, i64_w, i32_w]
        rfl
       refine pure_ (i := 1) (N := some 17) (v := ?_) (a' := ?_) (bA 7 3) rfl rfl (by kernel_rfl) (fun _ _ _ h => h) (Or.inl ⟨by rfl, ?_⟩) ?_ ?_
       rotate_left
       ·intro w'
        go_simp
        with_reducible rfl
       rotate_left
       ·simp only [Act.put, List.setIfInBounds_toArray, List.set_cons_zero, List.set_cons_succ, i64_w, i32_w]
        rfl
       refine pure_ (i := 2) (N := some 18) (v := ?_) (a' := ?_) (bA 7 7) rfl rfl (by kernel_rfl) (fun _ _ _ h => h) (Or.inl ⟨by rfl, ?_⟩) ?_ ?_
       rotate_left
       ·intro w'
        go_simp
        with_reducible rfl
       rotate_left
       ·simp only [Act.put, List.setIfInBounds_toArray, List.set_cons_zero, List.set_cons_succ, i64_w, i32_w]
        rfl
       refine take_ (i := 3) (N := some 19) (v := ?_) (a' := ?_) (bA 7 15) rfl rfl (by kernel_rfl) (fun _ _ _ h => h) (Or.inl ⟨by rfl, ?_⟩) hHeld ?_ ?_
       rotate_left
       ·rintro w' ⟨s0, s1, s2, s3, s4, s5, s6⟩
        go_simp
        with_reducible rfl
       rotate_left
       ·simp only [Act.put, List.setIfInBounds_toArray, List.set_cons_zero, List.set_cons_succ, i64_w, i32_w]
        rfl
       refine take_ (i := 4) (N := some 20) (v := ?_) (a' := ?_) (bA 7 31) rfl rfl (by kernel_rfl) (fun _ _ _ h => h) (Or.inl ⟨by rfl, ?_⟩) hHeld ?_ ?_
       rotate_left
       ·rintro w' ⟨s0, s1, s2, s3, s4, s5, s6⟩
        go_simp
        with_reducible rfl
       rotate_left
       ·simp only [Act.put, List.setIfInBounds_toArray, List.set_cons_zero, List.set_cons_succ, i64_w, i32_w]
        rfl
       refine one_ (i := 5) (N := some 21) (bA 7 63) rfl rfl (by kernel_rfl) (by decide) (fun K hK => ?_)
       refine goes_ Tryd.func18 (by kernel_rfl) rfl #[.agg #[.int .i64 a0_0, .int .i64 a0_1, .int .i64 a0_2, .int .i64 a0_3, .string a0_4, .slice A0_5 l0_5.length c0_5]] (by rfl) rfl rfl qL ?_
       with_reducible refine (cubbyref07_Def.calls a0_0 a0_1 a0_2 a0_3 a0_4 _ _ l0_5 t214 _ ?side1 ?side2 A9.out).mono ?_
       (case side1 => exact qCB HR0_5.out)
       (case side2 => exact HC0_5.out)
       rintro e w15 ⟨rfl, hb⟩
       refine ⟨_, rfl, ?_⟩
       have n0_ := zA (Kd.R_below (qR HO_7.out) hb)
       have n1_ := qW BK209 hb
       have n2_ := qH hb
       clear HO_7
       clear BK209
       clear HB
       have HO_7 := n0_
       have BK209 := n1_
       have HB := n2_
       clear n0_ n1_ n2_
       (try clear hb)
       (try clear hb2)
       (try clear hk)
       (try clear hi)
       refine hK.out _ _ ⟨(blk_cell BK209.out 0).trans rfl, (blk_cell BK209.out 1).trans rfl, (blk_cell BK209.out 2).trans rfl, (blk_cell BK209.out 3).trans rfl, (blk_cell BK209.out 4).trans rfl, (blk_cell BK209.out 5).trans rfl, ((HB.out.cell (zE w _ hw213_0)).trans hw213_0)⟩ (fun hHeld => ?_)
       clear hK K
       refine norm_ (a' := ?_) ?_ ?_
       rotate_left
       ·show Act.put _ (some 21) _ = _
        simp only [Act.put, List.setIfInBounds_toArray, List.set_cons_zero, List.set_cons_succ, i64_w, i32_w]
        rfl
       refine pure_ (i := 6) (N := some 22) (v := ?_) (a' := ?_) (bA 7 127) rfl rfl (by kernel_rfl) (fun _ _ _ h => h) (Or.inl ⟨by rfl, ?_⟩) ?_ ?_
       rotate_left
       ·intro w'
        go_simp
        with_reducible rfl
       rotate_left
       ·simp only [Act.put, List.setIfInBounds_toArray, List.set_cons_zero, List.set_cons_succ, i64_w, i32_w]
        rfl
       refine done_ (by kernel_rfl) ?_
       have p215 : 0 ≤ (x8_1 : Int) := zB qA
       have q215 : x8_1 < (l1.length : Int) := zB qA
       obtain ⟨ad215, e215, hx215_0⟩ := Kd.at_int HR1.out x8_1 p215 q215
       obtain rfl : ad213 = ad215 := (by injection e215)
       replace hx215_0 := (HB.out.cell (zE w _ hx215_0)).trans hx215_0
       replace p215 := eq_true p215
       replace q215 := eq_true q215
       try go_wp2_with (first | ((with_reducible refine gate_builtin (b := .append) (xs := #[.tmp 23, .tmp 28]) rfl ?_); at_builtin; refine Kd.R_append (Kd.int .i64) (w0 := w) w.heap.size rfl (.tmp 23) (.tmp 28) 35 3 (.int .i64 0) 8 rfl Tryd.underlying35 info3 rfl (by decide) (by omega) u7 x7_1 (rd l1 x8_1) [.int .i64 (rd l1 x8_1)] (fun _ => True) (fun _ => False) rfl rfl ?aP (fun _ hk => hk.elim) ?aF ?aO ?aB ?aS ?aL ?_; (case aP => exact rfl); (case aB => exact qB); (case aF => exact (fun _ _ => trivial)); (case aO => exact (qR HO_7.out)); (case aS => exact (below_size qB)); (case aL => have := LMc13.out; omega); intro v217 w16 ho hb hg hat; rw [← Ny216.out] at ho; replace BK209 := zA (blk_grown (qK BK209.out) hg (Kd.R_ne HO_7.out BK209.out (by decide))); replace HB := zA (hb); have HO218 := zA (ho); clear HO_7; clear ho hb hg hat))
       go_roundg k1
       case measure => have := HK1.out; omega
       case rel => exact ⟨(y216), (wrap64 (x8_1 + 1)), qT, H', ⟨by have := HK1.out; omega⟩, ⟨qR HO218.out⟩, ⟨qK BK209.out⟩, ⟨qB⟩⟩
      ·rw [zD c13] at H
       exact absurd H (by simp)
    ·rw [zD c8] at H
     exact absurd H (by simp)
   ·rw [zD c7] at H
    have c7b0 := zG c7
    clear c7
    replace H := qb H; obtain ⟨t219, A17, H⟩ := H
    replace H := qb H; obtain ⟨t222, A18, H⟩ := H
    obtain rfl := zI H
    have z19_0 := bk6 BK209.out
    go_wp2_with (first | ((with_reducible refine gate_callee (f := 17) rfl ?_); refine goesL_ (some 32) rfl rfl Tryd.func17 (by kernel_rfl) rfl #[.agg #[.int .i64 a0_0, .int .i64 a0_1, .int .i64 a0_2, .int .i64 a0_3, .string a0_4, .slice A0_5 l0_5.length c0_5]] rfl qL ?_; (with_reducible refine (cubbyref07_Uses.calls k1 a0_0 a0_1 a0_2 a0_3 a0_4 _ _ l0_5 t219 _ ?side1 ?side2 A17.out).mono ?_); (case side1 => exact qCB HR0_5.out); (case side2 => exact HC0_5.out); rintro e w20 ⟨v220, rfl, ho0, hb⟩; refine ⟨_, rfl, ?_⟩; have HO221 := zA (Kd.R_lower (Kd.R_new' ho0 (Kd.R_lt (qR HO_7.out))) (below_size qB)); replace HO_7 := zA (Kd.R_elder' (qR HO_7.out) (Kd.R_base ho0) hb); replace BK209 := qW BK209 hb; replace HB := qH hb; (try clear hb); (try clear ho0); obtain ⟨Ao21, co21, eo21⟩ := Kd.R_slice HO_7.out; subst eo21; obtain ⟨Ao22, co22, eo22⟩ := Kd.R_slice HO221.out; subst eo22) | ((with_reducible refine gate_callee (f := 129) rfl ?_); refine goesL_ (some 34) rfl rfl Tryd.func129 (by kernel_rfl) rfl #[.slice Ao21 x7_1.length co21, .slice Ao22 t219.length co22, .int .i64 a2] rfl qL ?_; (with_reducible refine (cubbyref11_union.calls k1 _ _ x7_1 _ _ t219 a2 t222 _ ?side1 ?side2 ?side3 ?side4 A18.out).mono ?_); (case side1 => repeat (first | exact (Kd.R_reads' HO_7.out).2.2 | (with_reducible refine Kd.C_alloc ?_ _) | (with_reducible refine Kd.C_drewN ?_ _) | (with_reducible refine Kd.C_drew ?_))); (case side2 => exact (Kd.R_reads' HO_7.out).2.1); (case side3 => repeat (first | exact (Kd.R_reads' HO221.out).2.2 | (with_reducible refine Kd.C_alloc ?_ _) | (with_reducible refine Kd.C_drewN ?_ _) | (with_reducible refine Kd.C_drew ?_))); (case side4 => exact (Kd.R_reads' HO221.out).2.1); rintro e w23 ⟨v223, rfl, ho0, hb⟩; refine ⟨_, rfl, ?_⟩; have HO224 := zA (Kd.R_lower (Kd.R_new' (Kd.R_new' ho0 (Kd.R_lt (qR HO_7.out))) (Kd.R_lt (qR HO221.out))) (below_size qB)); replace HO_7 := zA (Kd.R_elder' (qR HO_7.out) (Kd.R_base ho0) hb); replace HO221 := zA (Kd.R_elder' (qR HO221.out) (Kd.R_base ho0) hb); replace BK209 := qW BK209 hb; replace HB := qH hb; (try clear hb); (try clear ho0)))
    go_ret
    exact ⟨_, qE, by (with_reducible repeat (first | apply Kd.R_alloc | apply Kd.R_drewN | apply Kd.R_drew)); exact Kd.R_mono HO224.out (fun _ hk => trivial), qB⟩
end Go.Proofs.YtpkimbkjjmbmcaaDoor.Q
