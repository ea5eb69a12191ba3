/- For every input the law FlowAhead returns true, and its arguments read behind the call as they did: no condition. -/
import Derived.SizedLaws
import Derived.Deep.Slices
import Derived.ProofKit
import Derived.OpenShut
import Derived.Test.YthidcafbhjahdaaProg
import Derived.Below
import Derived.Deep.Draws
import Derived.Deep.AppendLies
import Derived.Maps.AppendAt
import Derived.OwnWalk
import Derived.Laws.BytesArg
import Derived.Laws.MakeOwn
import Derived.Laws.OwnMore
import Derived.Deep.OwnRows
import Derived.Tactics
import Derived.Lib.ConvBytes
import Derived.Laws.Slices
import Derived.WalkKit
import Derived.KernelRfl
import Derived.RowKit3
import Derived.Deep.LoopGhost
import Derived.Deep.QuietTactic
import Derived.BigQuiet
import Derived.WideLaws
import Derived.Deep.DeepCutAuto
import Derived.Deep.CutBlock
import Derived.Deep.RegionHeld3
import Derived.Laws.Rows
import Derived.Lib.AppendStr
import Derived.ArgAppend
import Derived.Laws.IdiomCopy
import Derived.OrdersHeld
import Derived.Laws.BitsLemmas
import Derived.RowKit
import Derived.OneCell
import Derived.Test.YthidcafbhjahdaaRows
import Derived.ShutString
import Derived.ChangeOld
import Derived.Test.YthidcafbhjahdaaMFlowAhead1
namespace Go.Proofs.Ythidcafbhjahdaa.Open
open Go Go.Proofs.YthidcafbhjahdaaW.PrintWords
def Opens (P : Program) (t : TypeId) {α : Type} (d : Kd α) (G : α → Prop) : Prop :=
 P.cellsOf t = d.sz ∧ ∀ {H : Type} (enc : TypeId × Value → H) (w : World) (fuel : Nat) (cs : List Value) (x : DataW H × List MemPlace),
  DataW.trod enc P w 0 (fun _ => true) true fuel t cs = some x → (∀ n ∈ x.1.weights P t, n ≤ 140737488351232) → ∃ y, d.K w y cs ∧ G y
theorem Opens.int {P : Program} {t : TypeId} {k : IntKind} (ht : P.underlying t = some (.int k)) (hc : P.cellsOf t = 1) : Opens P t (Kd.int k) (fun n => (Lit.int k n).wf = true) := by
 refine ⟨hc, fun enc w fuel cs x h _ => ?_⟩
 obtain ⟨n, rfl, _, hw⟩ := DataW.trod_int ht h
 exact ⟨n, rfl, hw⟩
theorem Opens.bool {P : Program} {t : TypeId} (ht : P.underlying t = some .bool) (hc : P.cellsOf t = 1) : Opens P t Kd.bool (fun _ => True) := by
 refine ⟨hc, fun enc w fuel cs x h _ => ?_⟩
 obtain ⟨b, rfl, _⟩ := DataW.trod_bool ht h
 exact ⟨b, rfl, trivial⟩
theorem Opens.string {P : Program} {t : TypeId} (ht : P.underlying t = some .string) (hc : P.cellsOf t = 1) : Opens P t Kd.string (fun s => s.size ≤ 140737488351232) := by
 refine ⟨hc, fun enc w fuel cs x h hz => ?_⟩
 obtain ⟨s, rfl, rfl, _⟩ := DataW.trod_string ht h
 refine ⟨s, rfl, ?_⟩
 have := hz s.data.toList.length (by simp [DataW.weights])
 simpa using this
theorem weightsAll_mem {H : Type} {P : Program} {e : TypeId} : ∀ {l : List (DataW H)} {d : DataW H}, d ∈ l → ∀ n ∈ d.weights P e, n ∈ DataW.weightsAll P e l
 | a :: l, d, hd, n, hn => by
  simp only [DataW.weightsAll, List.mem_append]
  rcases List.mem_cons.1 hd with rfl | hd
  ·exact Or.inl hn
  ·exact Or.inr (weightsAll_mem hd n hn)
theorem choose_list {α : Type} {Q : Nat → α → Prop} : ∀ (n : Nat), (∀ i, i < n → ∃ y, Q i y) → ∃ ys : List α, ys.length = n ∧ ∀ i y, ys[i]? = some y → Q i y
 | 0, _ => ⟨[], rfl, fun i y h => by simp at h⟩
 | n + 1, h => by
  obtain ⟨ys, hl, hq⟩ := choose_list n (fun i hi => h i (by omega))
  obtain ⟨y, hy⟩ := h n (by omega)
  refine ⟨ys ++ [y], by simp [hl], fun i z hz => ?_⟩
  rcases Nat.lt_or_ge i n with hi | hi
  ·rw [List.getElem?_append_left (by omega)] at hz
   exact hq i z hz
  ·rw [List.getElem?_append_right (by omega)] at hz
   have : i = n := by
    have := (List.getElem?_eq_some_iff.1 hz).1
    simp at this
    omega
   subst this
   rw [hl, Nat.sub_self] at hz
   simp at hz
   subst hz
   exact hy
theorem Opens.slice {P : Program} {t e : TypeId} {α : Type} {d : Kd α} {G : α → Prop} {B : Nat} (ht : P.underlying t = some (.slice e)) (hc : P.cellsOf t = 1) (hB : P.bytesOf e = B) (hd : Opens P e d G) :
 Opens P t (Kd.slice e d) (fun xs => xs.length * B ≤ 140737488351232 ∧ xs.length ≤ maxLen ∧ ∀ x ∈ xs, G x) := by
 refine ⟨hc, fun enc w fuel cs x h hz => ?_⟩
 rcases Go.Deep.open_slice ht h with ⟨rfl, rfl⟩ | ⟨a, len, cap, m, n, D, Pl, rfl, _, hl, hm, hmc, rfl, hel⟩
 ·refine ⟨[], ⟨none, 0, rfl, Nat.le_refl _, ?_⟩, by simp [maxLen]⟩
  exact ⟨rfl, by simp, fun h => absurd h (by simp)⟩
 ·replace hmc : m = cap := by rw [hmc]; rfl
  subst hmc
  have hw : ∀ i, i < len → ∀ q ∈ (D i).weights P e, q ≤ 140737488351232 := by
   intro i hi q hq
   apply hz
   simp only [DataW.weights, ht, List.mem_cons, List.mem_append]
   right; left
   exact weightsAll_mem (d := D i) (List.mem_map.2 ⟨i, by simpa using hi, rfl⟩) q hq
  have hbig : (len + (m - len)) * B ≤ 140737488351232 := by
   apply hz
   simp only [DataW.weights, ht, List.mem_cons, List.length_map, List.length_range, hB]
   left; trivial
  obtain ⟨ys, hyl, hys⟩ := choose_list (Q := fun i y => ∃ c, w.cells? 0 (a.add (i * P.cellsOf e)) (P.cellsOf e) = some c ∧ d.K w y c ∧ G y) len (fun i hi => by
   obtain ⟨c, h1, h2⟩ := hel i (by omega)
   obtain ⟨y, hk, hg⟩ := hd.2 enc w _ _ _ h2 (hw i hi)
   exact ⟨y, c, h1, hk, hg⟩)
  refine ⟨ys, ⟨some a, m, by rw [hyl], by omega, ?_⟩, ?_, by omega, ?_⟩
  ·refine ⟨rfl, by unfold maxLen at hm; omega, fun _ => ⟨a, rfl, fun j p hj => ?_⟩⟩
   obtain ⟨c, h1, hk, hg⟩ := hys j p hj
   obtain ⟨_, h3, h4⟩ := World.cells?_some h1
   refine ⟨c, by rw [h3, hd.1], hk, fun i u hu => ?_⟩
   have hi : i < P.cellsOf e := by
    have := (List.getElem?_eq_some_iff.1 hu).1
    omega
   have h5 := h4 i hi
   rw [hu] at h5
   rw [← h5, ← hd.1]
   congr 1
   rw [Addr.add_add]
  ·rw [hyl]
   exact Nat.le_trans (Nat.mul_le_mul_right _ (by omega)) hbig
  ·intro y hy
   obtain ⟨i, hi⟩ := List.getElem?_of_mem hy
   obtain ⟨_, _, _, hg⟩ := hys i y hi
   exact hg
structure OpensFs (P : Program) (fs : List Field) (off : Nat) {α : Type} (d : Kd α) (G : α → Prop) : Prop where
 out : ∀ (H : Type) (enc : TypeId × Value → H) (w : World) (fuel : Nat) (cs : List Value) (xs : List (DataW H × List MemPlace)), cs.length = off + d.sz → xs.length = fs.length →
  (∀ (i : Nat) (f : Field), fs[i]? = some f → DataW.trod enc P w 0 (fun _ => true) true fuel f.type ((cs.drop f.offset).take (P.cellsOf f.type)) = xs[i]?) →
  (∀ n ∈ DataW.weightsEach P (fs.map (·.type)) (xs.map (·.1)), n ≤ 140737488351232) → ∃ y, d.K w y (cs.drop off) ∧ G y
theorem OpensFs.one {P : Program} {f : Field} {off : Nat} {α : Type} {d : Kd α} {G : α → Prop} (ho : f.offset = off) (hd : Opens P f.type d G) : OpensFs P [f] off d G := by
 refine ⟨fun H enc w fuel cs xs hl hx hf hz => ?_⟩
 have h0 := hf 0 f rfl
 obtain ⟨x, rfl⟩ : ∃ x, xs = [x] := by
  match xs, hx with
  | [x], _ => exact ⟨x, rfl⟩
 have h1 : (cs.drop f.offset).take (P.cellsOf f.type) = cs.drop off := by
  rw [ho, hd.1, List.take_of_length_le (by simp; omega)]
 rw [h1] at h0
 exact hd.2 enc w fuel _ x h0 (fun n hn => hz n (by simpa [DataW.weightsEach] using hn))
theorem OpensFs.cons {P : Program} {f : Field} {fs : List Field} {off : Nat} {α β : Type} {d : Kd α} {d2 : Kd β} {G : α → Prop} {G2 : β → Prop} (ho : f.offset = off) (hd : Opens P f.type d G) (h2 : OpensFs P fs (off + d.sz) d2 G2) :
 OpensFs P (f :: fs) off (Kd.pair d d2) (fun y => G y.1 ∧ G2 y.2) := by
 refine ⟨fun H enc w fuel cs xs hl hx hf hz => ?_⟩
 have hp : (Kd.pair d d2).sz = d.sz + d2.sz := rfl
 match xs, hx with
 | x :: xs, hx =>
  have h0 := hf 0 f rfl
  simp only [List.getElem?_cons_zero] at h0
  obtain ⟨y, hk, hg⟩ := hd.2 enc w fuel _ x h0 (fun n hn => hz n (by simp only [List.map_cons, DataW.weightsEach, List.mem_append]; exact Or.inl hn))
  obtain ⟨y2, hk2, hg2⟩ := h2.out H enc w fuel cs xs (by omega) (by simpa using hx) (fun i g hi => by simpa using hf (i + 1) g (by simpa using hi)) (fun n hn => hz n (by simp only [List.map_cons, DataW.weightsEach, List.mem_append]; exact Or.inr hn))
  refine ⟨(y, y2), ⟨_, _, ?_, hk, hk2⟩, hg, hg2⟩
  rw [ho, hd.1, ← List.drop_drop, List.take_append_drop]
theorem Opens.struct {P : Program} {t : TypeId} {fs : Array Field} {α : Type} {d : Kd α} {G : α → Prop} (ht : P.underlying t = some (.struct fs)) (hc : P.cellsOf t = d.sz) (hf : OpensFs P fs.toList 0 d G) : Opens P t d G := by
 refine ⟨hc, fun enc w fuel cs x h hz => ?_⟩
 obtain ⟨xs, n, rfl, rfl, hl, hx, hi⟩ := DataW.trod_struct ht h
 have := hf.out _ enc w n cs xs (by omega) (by simpa using hx) (fun i f h => hi i f (by simpa using h)) (fun q hq => hz q (by simpa [DataW.weights, ht] using hq))
 simpa using this
theorem Opens.iso {P : Program} {t : TypeId} {α β : Type} {d : Kd α} {G : α → Prop} (f : β → α) (g : α → β) (hg : ∀ y, f (g y) = y) (h : Opens P t d G) : Opens P t (Kd.iso d f) (fun x => G (f x)) := by
 refine ⟨h.1, fun enc w fuel cs x hx hz => ?_⟩
 obtain ⟨y, hk, hy⟩ := h.2 enc w fuel cs x hx hz
 exact ⟨g y, by show d.K w (f (g y)) cs; rw [hg]; exact hk, by show G (f (g y)); rw [hg]; exact hy⟩
theorem Opens.imp {P : Program} {t : TypeId} {α : Type} {d : Kd α} {G G' : α → Prop} (h : Opens P t d G) (hG : ∀ y, G y → G' y) : Opens P t d G' :=
 ⟨h.1, fun enc w fuel cs x hx hz => by
  obtain ⟨y, hk, hy⟩ := h.2 enc w fuel cs x hx hz
  exact ⟨y, hk, hG y hy⟩⟩
theorem Opens.arg {P : Program} {t : TypeId} {α : Type} {d : Kd α} {G : α → Prop} (h : Opens P t d G) {H : Type} {enc : TypeId × Value → H} {w : World} {v : Value} {x : DataW H} {ps : List MemPlace} (ht : DataW.Trod enc P w 0 (fun _ => true) true t v x ps)
 {ts : List TypeId} {ds : List (DataW H)} (hsz : (DataW.weightsEach P ts ds).all (· ≤ reachBytes) = true) {j : Nat} (h1 : ts[j]? = some t) (h2 : ds[j]? = some x) : ∃ y, d.K w y v.cells.toList ∧ G y := by
 obtain ⟨fuel, hf⟩ := ht
 refine h.2 enc w fuel _ _ hf (fun n hn => ?_)
 have := List.all_eq_true.1 hsz _ (DataW.weights_mem_each h1 h2 n hn)
 exact zB this
theorem Opens.arr {P : Program} {t e : TypeId} {α : Type} {d : Kd α} {G : α → Prop} {n : Nat} {hs : 0 < d.sz} (ht : P.underlying t = some (.array n e)) (hc : P.cellsOf t = n * d.sz) (hd : Opens P e d G) :
 Opens P t (Kd.arr n d hs) (fun xs => xs.length = n ∧ ∀ x ∈ xs, G x) := by
 refine ⟨hc, fun enc w fuel cs x h hz => ?_⟩
 obtain ⟨xs, m, rfl, rfl, hl, hx, hi⟩ := DataW.trod_array ht h
 obtain ⟨ys, hyl, hys⟩ := choose_list (Q := fun i y => d.K w y ((cs.drop (i * d.sz)).take d.sz) ∧ G y) n (fun i hin => by
  have h1 := hi i hin
  have hix : i < xs.length := by omega
  rw [List.getElem?_eq_getElem hix, hd.1] at h1
  obtain ⟨y, hk, hg⟩ := hd.2 enc w _ _ _ h1 (fun q hq => hz q (by
   simp only [DataW.weights, ht]
   exact weightsAll_mem (List.mem_map.2 ⟨xs[i], List.getElem_mem hix, rfl⟩) q hq))
  exact ⟨y, hk, hg⟩)
 refine ⟨ys, ⟨hyl, by rw [hl, hc, hyl], fun j p hj => (hys j p hj).1⟩, hyl, fun y hy => ?_⟩
 obtain ⟨i, hi⟩ := List.getElem?_of_mem hy
 exact (hys i y hi).2
end Go.Proofs.Ythidcafbhjahdaa.Open
namespace Go.Proofs.Ythidcafbhjahdaa.Q
open Go.RowKit Go.Proofs.YthidcafbhjahdaaW.PrintWords Go.Proofs.YthidcafbhjahdaaW.PrintLast Go.Proofs.YthidcafbhjahdaaW.PrintMore
attribute [local go_sem] max2_int min2_int max_two min_two max_three min_three max_four min_four
set_option linter.unusedVariables false
set_option linter.unusedSimpArgs false
def errW : Option Int → Value
 | none => .nilIface
 | some c => .iface 0 (.int .i64 c)
theorem errW_none : errW none = .nilIface := rfl
theorem errW_some (c : Int) : errW (some c) = .iface 0 (.int .i64 c) := rfl
theorem info3 : (Try.prog.info? 3).map (fun i => (i.zero, i.size, i.bytes)) = some (some (.int .i64 0), 1, 8) := by kernel_rfl
-- the values' own types

structure SIns where
 f0 : Int
 f1 : Int
 f2 : Int
 f3 : Int
 f4 : ByteArray
 f5 : (List Int)
def zIns : SIns := ⟨(0 : Int), (0 : Int), (0 : Int), (0 : Int), (⟨#[]⟩ : ByteArray), ([] : List Int)⟩
def kIns : Kd SIns := Kd.iso (Kd.pair (Kd.int .i64) (Kd.pair (Kd.int .i64) (Kd.pair (Kd.int .i64) (Kd.pair (Kd.int .i64) (Kd.pair Kd.string (Kd.slice 3 (Kd.int .i64))))))) (fun x : SIns => (x.f0, x.f1, x.f2, x.f3, x.f4, x.f5))
theorem kIns_open {w : World} {x : SIns} {cs : List Value} (h : kIns.K w x cs) : ∃ A5 c5, cs = [.int .i64 x.f0, .int .i64 x.f1, .int .i64 x.f2, .int .i64 x.f3, .string x.f4, .slice A5 x.f5.length c5] ∧ x.f5.length ≤ c5 ∧ (Kd.int .i64).C w A5 x.f5.length x.f5 := by
 obtain ⟨_, _, rfl, rfl, ⟨_, _, rfl, rfl, ⟨_, _, rfl, rfl, ⟨_, _, rfl, rfl, ⟨_, _, rfl, rfl, ⟨A5, c5, rfl, l5, g5⟩⟩⟩⟩⟩⟩ := h
 exact ⟨A5, c5, rfl, l5, g5⟩
theorem kIns_mkM (w : World) (base : Nat) (ok : Nat → Prop) (x : SIns) {v5 : Value} (g5 : (Kd.int .i64).R 3 w base ok v5 x.f5) : kIns.M w base ok x [.int .i64 x.f0, .int .i64 x.f1, .int .i64 x.f2, .int .i64 x.f3, .string x.f4, v5] := ⟨[.int .i64 x.f0], [.int .i64 x.f1, .int .i64 x.f2, .int .i64 x.f3, .string x.f4, v5], rfl, rfl, ⟨[.int .i64 x.f1], [.int .i64 x.f2, .int .i64 x.f3, .string x.f4, v5], rfl, rfl, ⟨[.int .i64 x.f2], [.int .i64 x.f3, .string x.f4, v5], rfl, rfl, ⟨[.int .i64 x.f3], [.string x.f4, v5], rfl, rfl, ⟨[.string x.f4], [v5], rfl, rfl, ⟨v5, rfl, g5⟩⟩⟩⟩⟩⟩
def rd_TIns (xs : List SIns) (i : Int) : SIns := xs.getD i.toNat zIns
theorem at_TIns {w : World} {A : Option Addr} {n : Nat} {xs : List SIns} (h : Kd.C kIns w A n xs) (i : Int) (h0 : 0 ≤ i) (h1 : i < n) : ∃ ad A5 c5, A = some ad ∧ w.cell? (ad.add (i.toNat * 6)) = some (.int .i64 (rd_TIns xs i).f0) ∧ w.cell? ⟨(ad.add (i.toNat * 6)).block, (ad.add (i.toNat * 6)).off + 1, none⟩ = some (.int .i64 (rd_TIns xs i).f1) ∧ w.cell? ⟨(ad.add (i.toNat * 6)).block, (ad.add (i.toNat * 6)).off + 2, none⟩ = some (.int .i64 (rd_TIns xs i).f2) ∧ w.cell? ⟨(ad.add (i.toNat * 6)).block, (ad.add (i.toNat * 6)).off + 3, none⟩ = some (.int .i64 (rd_TIns xs i).f3) ∧ w.cell? ⟨(ad.add (i.toNat * 6)).block, (ad.add (i.toNat * 6)).off + 4, none⟩ = some (.string (rd_TIns xs i).f4) ∧ w.cell? ⟨(ad.add (i.toNat * 6)).block, (ad.add (i.toNat * 6)).off + 5, none⟩ = some (.slice A5 (rd_TIns xs i).f5.length c5) ∧ (rd_TIns xs i).f5.length ≤ c5 ∧ (Kd.int .i64).C w A5 (rd_TIns xs i).f5.length (rd_TIns xs i).f5 := by
 obtain ⟨ad, c, e, _, hK, hc0⟩ := Kd.C_get h zIns i h0 h1
 have hc : ∀ j u, c[j]? = some u → w.cell? (ad.add (i.toNat * 6 + j)) = some u := hc0
 obtain ⟨A5, c5, rfl, l5, g5⟩ := kIns_open hK
 exact ⟨ad, A5, c5, e, hc 0 _ rfl, by rw [← add_field _ _ 1 (by omega)]; exact hc 1 _ rfl, by rw [← add_field _ _ 2 (by omega)]; exact hc 2 _ rfl, by rw [← add_field _ _ 3 (by omega)]; exact hc 3 _ rfl, by rw [← add_field _ _ 4 (by omega)]; exact hc 4 _ rfl, by rw [← add_field _ _ 5 (by omega)]; exact hc 5 _ rfl, l5, g5⟩
def rd_LIns (xs : List (List SIns)) (i : Int) : (List SIns) := xs.getD i.toNat ([] : List SIns)
theorem at_LIns {w : World} {A : Option Addr} {n : Nat} {xs : List (List SIns)} (h : Kd.C (Kd.slice 27 kIns) w A n xs) (i : Int) (h0 : 0 ≤ i) (h1 : i < n) : ∃ ad A0 c0, A = some ad ∧ w.cell? (ad.add i.toNat) = some (.slice A0 (rd_LIns xs i).length c0) ∧ (rd_LIns xs i).length ≤ c0 ∧ kIns.C w A0 (rd_LIns xs i).length (rd_LIns xs i) := by
 obtain ⟨ad, c, e, _, hK, hc0⟩ := Kd.C_get h ([] : List SIns) i h0 h1
 have hc : ∀ j u, c[j]? = some u → w.cell? (ad.add (i.toNat * 1 + j)) = some u := hc0
 obtain ⟨A0, c0, rfl, l0, g0⟩ := hK
 exact ⟨ad, A0, c0, e, by have hq := hc 0 _ rfl; rwa [Nat.mul_one, Nat.add_zero] at hq, l0, g0⟩
end Go.Proofs.Ythidcafbhjahdaa.Q
namespace Go.Proofs.Ythidcafbhjahdaa.Q
open Go.RowKit Go.Proofs.YthidcafbhjahdaaW.PrintWords Go.Proofs.YthidcafbhjahdaaW.PrintLast Go.Proofs.YthidcafbhjahdaaW.PrintMore
set_option linter.unusedVariables false
section
variable {P Q : Prop}
theorem qB (h : P := by repeat (first | (with_reducible first | exact HB.out | apply below_alloc | apply pw_below_drewN | apply below_drew1 | refine below_set ?_ (Aside0.out (by assumption))) | exact HB.out)) : P := h
theorem qA (h : P := by first | (with_reducible assumption) | assumption) : P := h
theorem qE (h : P := by first | rfl | (simp [errW_none, errW_some] <;> rfl) | (simp [*, errW_none, errW_some] <;> rfl)) : P := h
theorem qT (h : P := by first | rfl | (simp; done) | (simp [*]; done)) : P := h
theorem qO (h : P := by first | omega | exact Nat.le_refl _) : P := h
theorem qD (h : P := by repeat (first | exact Drawn0.refl _ | apply Drawn0.step)) : P := h
theorem qL (h : P := by (try simp only [List.map_toArray, List.map_cons, List.map_nil]); first | done | rfl | (simp only [List.length_drop, List.length_take]; rfl)) : P := h
theorem qK (q : Q) (h : Q → P := by intro h_; (with_reducible repeat (first | refine blk_drewN ?_ _ | refine blk_drew ?_ | refine blk_alloc ?_ _)); exact h_) : P := h q
theorem qR (q : Q) (h : Q → P := by intro h_; (with_reducible repeat (first | apply Kd.R_alloc | apply Kd.R_drewN | apply Kd.R_drew)); exact h_) : P := h q
theorem qV (q : Q) (h : Q → P := by intro h_; (with_reducible repeat (first | apply Kd.V_alloc | apply Kd.V_drewN | apply Kd.V_drew)); exact h_) : P := h q
theorem qCB (q : Q) (h : Q → P := by intro h_; repeat (first | exact (Kd.C_below h_ HB.out) | (with_reducible refine Kd.C_alloc ?_ _) | (with_reducible refine Kd.C_drewN ?_ _) | (with_reducible refine Kd.C_drew ?_))) : P := h q
end
theorem qW {w0 w w1 : World} {g : Nat} {o : Obj} (bk : Aside0 (w0.heap[g]? = some o)) (hb : Below w.heap.size w w1) (h : w0.heap[g]? = some o → w.heap[g]? = some o := by intro h_; (with_reducible repeat (first | refine blk_drewN ?_ _ | refine blk_drew ?_ | refine blk_alloc ?_ _)); exact h_) : Aside0 (w1.heap[g]? = some o) := ⟨blk_below (h bk.out) hb⟩
theorem qH {w W w2 : World} (hb : Below W.heap.size W w2) (h : Below w.heap.size w W := by repeat (first | (with_reducible first | exact HB.out | apply below_alloc | apply pw_below_drewN | apply below_drew1 | refine below_set ?_ (Aside0.out (by assumption))) | exact HB.out)) : Aside0 (Below w.heap.size w w2) := ⟨below_step h hb⟩
theorem qG {w W : World} {g : Nat} (hg : g = W.heap.size) (h : Below w.heap.size w W := by repeat (first | (with_reducible first | exact HB.out | apply below_alloc | apply pw_below_drewN | apply below_drew1 | refine below_set ?_ (Aside0.out (by assumption))) | exact HB.out)) : Aside0 (w.heap.size ≤ g) := ⟨by rw [hg]; exact below_size h⟩
theorem qb {α β : Type} {x : Option α} {f : α → Option β} {r : β} (h : x.bind f = some r) : ∃ t, Aside0 (x = some t) ∧ f t = some r := by
 obtain ⟨t, h1, h2⟩ := Option.bind_eq_some_iff.mp h
 exact ⟨t, ⟨h1⟩, h2⟩
theorem qe {α : Type} [BEq α] [LawfulBEq α] {a b : α} (h : a = b) : (a == b) = true ∧ (a != b) = false := ⟨beq_iff_eq.mpr h, bne_eq_false_iff_eq.mpr h⟩
theorem qn {α : Type} [BEq α] [LawfulBEq α] {a b : α} (h : ¬ a = b) : (a == b) = false ∧ (a != b) = true := ⟨beq_eq_false_iff_ne.mpr h, bne_iff_ne.mpr h⟩
theorem bk6 {w : World} {g : Nat} {t : TypeId} {c0 c1 c2 c3 c4 c5 : Value} (h : w.heap[g]? = some (.cells #[c0, c1, c2, c3, c4, c5] t (0, 0))) : w.cell? ⟨g, 0, none⟩ = some c0 ∧ w.cell? ⟨g, 1, none⟩ = some c1 ∧ w.cell? ⟨g, 2, none⟩ = some c2 ∧ w.cell? ⟨g, 3, none⟩ = some c3 ∧ w.cell? ⟨g, 4, none⟩ = some c4 ∧ w.cell? ⟨g, 5, none⟩ = some c5 ∧ w.frozen? ⟨g, 0, none⟩ = false ∧ w.frozen? ⟨g, 1, none⟩ = false ∧ w.frozen? ⟨g, 2, none⟩ = false ∧ w.frozen? ⟨g, 3, none⟩ = false ∧ w.frozen? ⟨g, 4, none⟩ = false ∧ w.frozen? ⟨g, 5, none⟩ = false := ⟨(blk_cell h 0).trans rfl, (blk_cell h 1).trans rfl, (blk_cell h 2).trans rfl, (blk_cell h 3).trans rfl, (blk_cell h 4).trans rfl, (blk_cell h 5).trans rfl, blk_frozen h 0, blk_frozen h 1, blk_frozen h 2, blk_frozen h 3, blk_frozen h 4, blk_frozen h 5⟩
def bA (n m : Nat) : Array Bool := ((List.range n).map m.testBit).toArray
section
variable {P : Program} {ops : Array Oper} {Q : Exit → Act → World → Prop} {md : Region.Mode} {S : World → Prop} {ds : List Nat}
theorem pu_ {i : Nat} {N : Option Tmp} {oi : Oper} {v : Value} {fuel : Nat} {l : Array Bool} {a a' : Act} {w : World} (l' : Array Bool) (h : wpAnyLast P md ops Q S ds fuel l' a' w) (hi : ops[i]? = some oi := by rfl) (hN : oi.dst = N := by rfl) (hc : anyB md ops l l' i = true := by exact any_of HT_.out (by kernel_rfl)) (hQ : ∀ c a w, Q (.panic c) (a.put oi.dst v) w → Q (.panic c) a w := by exact fun _ _ _ h => h) (hy : Yields P ops oi v a := by exact Or.inl ⟨by rfl, by intro w'; first | (go_simp; done) | (go_simp; with_reducible rfl)⟩) (ha : a.put N v = a' := by (conv => lhs; simp only [Act.put, List.setIfInBounds_toArray, List.set_cons_zero, List.set_cons_succ, i64_w, i32_w]); try rfl) : wpAnyLast P md ops Q S ds (fuel + 1) l a w := pure_ l' hi hN hc hQ hy ha h
theorem tk_ {i : Nat} {N : Option Tmp} {oi : Oper} {v : Value} {fuel : Nat} {l : Array Bool} {a a' : Act} {w : World} (l' : Array Bool) (h : wpAnyLast P md ops Q S ds fuel l' a' w) (hi : ops[i]? = some oi := by rfl) (hN : oi.dst = N := by rfl) (hc : takeB md ops ds l l' i = true := by exact take_ofW HT_.out HW_.out (by kernel_rfl)) (hQ : ∀ c a w, Q (.panic c) (a.put oi.dst v) w → Q (.panic c) a w := by exact fun _ _ _ h => h) (hy : YieldsIf P ops S oi v a := by refine Or.inl ⟨by rfl, ?_⟩; intro w' s_; repeat (obtain ⟨s0_, s_⟩ : _ ∧ _ := s_); first | (go_simp; done) | (go_simp; with_reducible rfl)) (hS : S w := by exact hHeld) (ha : a.put N v = a' := by (conv => lhs; simp only [Act.put, List.setIfInBounds_toArray, List.set_cons_zero, List.set_cons_succ, i64_w, i32_w]); try rfl) : wpAnyLast P md ops Q S ds (fuel + 1) l a w := take_ l' hi hN hc hQ hy hS ha h
end
end Go.Proofs.Ythidcafbhjahdaa.Q
namespace Go.Proofs.Ythidcafbhjahdaa.Q
open Go.RowKit Go.Proofs.YthidcafbhjahdaaW.PrintWords Go.Proofs.YthidcafbhjahdaaW.PrintLast Go.Proofs.YthidcafbhjahdaaW.PrintMore
attribute [local go_sem] max2_int min2_int max_two min_two max_three min_three max_four min_four
set_option linter.unusedVariables false
set_option linter.unusedSimpArgs false

def ir_Targets.f (a0_0 : Int) (a0_1 : Int) (a0_2 : Int) (a0_3 : Int) (a0_4 : ByteArray) (l0_5 : List Int) : Option (List Int) := if a0_0 = 12 then (some (([a0_2] : List Int))) else (if a0_0 = 13 then (some (([a0_3, a0_1] : List Int))) else (some ([] : List Int)))
set_option maxHeartbeats 8000000 in
set_option maxRecDepth 100000 in
theorem ir_Targets.calls (a0_0 : Int) (a0_1 : Int) (a0_2 : Int) (a0_3 : Int) (a0_4 : ByteArray) (A0_5 : Option Addr) (c0_5 : Nat) (l0_5 : List Int) (r : List Int) (w : World) (hr0_5 : Kd.C (Kd.int .i64) w A0_5 l0_5.length l0_5) (hc0_5 : l0_5.length ≤ c0_5) (h : ir_Targets.f a0_0 a0_1 a0_2 a0_3 a0_4 l0_5 = some r) :
 Calls Try.prog 11 #[.agg #[.int .i64 a0_0, .int .i64 a0_1, .int .i64 a0_2, .int .i64 a0_3, .string a0_4, .slice A0_5 l0_5.length c0_5]] w fun e w' => ∃ v0_ : Value, e = .returned (v0_) ∧ Kd.R (Kd.int .i64) 3 w' w.heap.size (fun _ => True) v0_ r ∧ Below w.heap.size w w' := by
 have hu27 := Try.underlying27
 have HR0_5 := zA hr0_5
 have HC0_5 := zA hc0_5
 clear hr0_5 hc0_5
 have HB := zA (Below.refl w.heap.size w)
 have H := h; clear h; unfold ir_Targets.f at H
 by_cases c2 : a0_0 = 12
 ·rw [zC c2] at H
  obtain ⟨c2b0, c2b1⟩ := qe c2; clear c2
  obtain ⟨y173, hy173⟩ : ∃ y_ : List Int, y_ = (([a0_2] : List Int)) := ⟨_, rfl⟩
  replace H : (some y173) = some r := by (try rw [hy173]); first | with_reducible exact H | exact (zJ _ _).symm.trans H | exact H
  have Ny173 := zA hy173
  clear hy173
  obtain rfl := zI H
  go_enter Try.func11, Try.ntmps11
  go_wp2_with (first | ((with_reducible refine gate_dst (N := 1) rfl ?_); refine box_event (by rfl) (N := 1) (by rfl) (cs := #[.int .i64 a0_0, .int .i64 a0_1, .int .i64 a0_2, .int .i64 a0_3, .string a0_4, .slice A0_5 l0_5.length c0_5]) (t := 27) ?hr ?_; (case hr => go_simp <;> rfl); intro gb172 hg w3 hbox hb; have BK172 := zA (hbox); have GW172 := qG hg; have GE172 := GW172; replace HB := qH hb; clear hb hbox hg; have z4_0 := bk6 BK172.out) | ((with_reducible refine gate_dst (N := 9) rfl ?_); refine Kd.R_lit (Kd.int .i64) _ 3 (by rfl) (N := 9) (by rfl) (xs := ([a0_2] : List Int)) (inner := [.int .i64 a0_2]) (ok := fun _ => True) (okp := fun _ => True) ?hr ?hp (fun _ hk => hk) trivial (Below.refl _ _) (Nat.le_refl _) (by simp) ?_; (case hr => go_simp <;> rfl); (case hp => exact (Reps.one (show Kd.M (Kd.int .i64) _ _ _ a0_2 [.int .i64 a0_2] from rfl) (Reps.none _ _))); intro v174 w5 ho6 hb hg_ hnew_; clear hg_ hnew_; (first | rw [← Ny173.out] at ho6 | (simp only [Int.reduceToNat] at ho6; rw [← Ny173.out] at ho6)); have HO175 := zA (Kd.R_lower ho6 (below_size qB)); replace BK172 := qW BK172 hb; replace HB := qH hb; clear hb ho6))
  go_ret
  exact ⟨_, qE, qR HO175.out, qB⟩
 ·rw [zD c2] at H
  obtain ⟨c2b0, c2b1⟩ := qn c2
  by_cases c7 : a0_0 = 13
  ·rw [zC c7] at H
   obtain ⟨c7b0, c7b1⟩ := qe c7; clear c7
   obtain ⟨y176, hy176⟩ : ∃ y_ : List Int, y_ = (([a0_3, a0_1] : List Int)) := ⟨_, rfl⟩
   replace H : (some y176) = some r := by (try rw [hy176]); first | with_reducible exact H | exact (zJ _ _).symm.trans H | exact H
   have Ny176 := zA hy176
   clear hy176
   obtain rfl := zI H
   go_enter Try.func11, Try.ntmps11
   go_wp2_with (first | ((with_reducible refine gate_dst (N := 1) rfl ?_); refine box_event (by rfl) (N := 1) (by rfl) (cs := #[.int .i64 a0_0, .int .i64 a0_1, .int .i64 a0_2, .int .i64 a0_3, .string a0_4, .slice A0_5 l0_5.length c0_5]) (t := 27) ?hr ?_; (case hr => go_simp <;> rfl); intro gb172 hg w8 hbox hb; have BK172 := zA (hbox); have GW172 := qG hg; have GE172 := GW172; replace HB := qH hb; clear hb hbox hg; have z9_0 := bk6 BK172.out) | ((with_reducible refine gate_dst (N := 16) rfl ?_); refine Kd.R_lit (Kd.int .i64) _ 3 (by rfl) (N := 16) (by rfl) (xs := ([a0_3, a0_1] : List Int)) (inner := [.int .i64 a0_3, .int .i64 a0_1]) (ok := fun _ => True) (okp := fun _ => True) ?hr ?hp (fun _ hk => hk) trivial (Below.refl _ _) (Nat.le_refl _) (by simp) ?_; (case hr => go_simp <;> rfl); (case hp => exact (Reps.one (show Kd.M (Kd.int .i64) _ _ _ a0_3 [.int .i64 a0_3] from rfl) (Reps.one (show Kd.M (Kd.int .i64) _ _ _ a0_1 [.int .i64 a0_1] from rfl) (Reps.none _ _)))); intro v177 w10 ho11 hb hg_ hnew_; clear hg_ hnew_; (first | rw [← Ny176.out] at ho11 | (simp only [Int.reduceToNat] at ho11; rw [← Ny176.out] at ho11)); have HO178 := zA (Kd.R_lower ho11 (below_size qB)); replace BK172 := qW BK172 hb; replace HB := qH hb; clear hb ho11))
   go_ret
   exact ⟨_, qE, qR HO178.out, qB⟩
  ·rw [zD c7] at H
   obtain ⟨c7b0, c7b1⟩ := qn c7
   obtain rfl := zI H
   go_enter Try.func11, Try.ntmps11
   go_wp2_with (first | ((with_reducible refine gate_dst (N := 1) rfl ?_); refine box_event (by rfl) (N := 1) (by rfl) (cs := #[.int .i64 a0_0, .int .i64 a0_1, .int .i64 a0_2, .int .i64 a0_3, .string a0_4, .slice A0_5 l0_5.length c0_5]) (t := 27) ?hr ?_; (case hr => go_simp <;> rfl); intro gb172 hg w12 hbox hb; have BK172 := zA (hbox); have GW172 := qG hg; have GE172 := GW172; replace HB := qH hb; clear hb hbox hg; have z13_0 := bk6 BK172.out))
   go_ret
   exact ⟨_, qE, by first | exact Kd.R_nil _ _ _ _ _ | exact Kd.N_nil _ _ _ _ _ | exact Kd.V_nil _ _ _ _ _ | exact Kd.Q_nil _ _ _ _ _ | exact Kd.S_nil _ _ _ _ _, qB⟩

def slices_Index_int_int.l0 : Nat → List Int → Int → Int → Int → Option (Int)
 | 0, _, _, _, _ => none
 | k + 1, x0, x1, x7, x8 => if x8 < x7 then (if 0 ≤ x8 then (if x8 < (x0.length : Int) then (if x1 = (rd x0 x8) then (some x8) else (slices_Index_int_int.l0 k x0 x1 x7 (wrap64 (x8 + 1)))) else (none)) else (none)) else (some (-1))
def slices_Index_int_int.f (k : Nat) (l0 : List Int) (a1 : Int) : Option (Int) := slices_Index_int_int.l0 k l0 a1 (l0.length : Int) 0
set_option maxHeartbeats 8000000 in
set_option maxRecDepth 100000 in
theorem slices_Index_int_int.calls (k : Nat) (A0 : Option Addr) (c0 : Nat) (l0 : List Int) (a1 : Int) (r : Int) (w : World) (hr0 : Kd.C (Kd.int .i64) w A0 l0.length l0) (hc0 : l0.length ≤ c0) (h : slices_Index_int_int.f k l0 a1 = some r) :
 Calls Try.prog 15 #[.slice A0 l0.length c0, .int .i64 a1] w fun e w' => e = .returned (.int .i64 r) ∧ Drawn0 w w' := by
 have HR0 := zA hr0
 have HC0 := zA hc0
 clear hr0 hc0
 have H := h; clear h; unfold slices_Index_int_int.f at H
 have H' := zA H
 clear H
 go_enter Try.func15, Try.ntmps15
 go_wp2
 go_loopg [8] k (fun kq v8 w' => ∃ (x8_1 : Int), v8 = .int .i64 x8_1 ∧ Aside0 (slices_Index_int_int.l0 kq l0 a1 (l0.length : Int) x8_1 = some r) ∧ Aside0 (kq ≤ k) ∧ Drawn0 w w')
 case atStart => exact ⟨(0), qT, H', ⟨Nat.le_refl _⟩, qD⟩
 case round =>
  clear H'
  obtain ⟨x8_1, rfl, HA, HK1, ⟨m1, rfl⟩⟩ := hrel
  cases gk with
  | zero => exact absurd HA.out (by simp [slices_Index_int_int.l0])
  | succ k1 =>
   have H := HA.out
   clear HA
   simp only [slices_Index_int_int.l0] at H
   by_cases c3 : x8_1 < (l0.length : Int)
   ·rw [zC c3] at H
    have c3b0 := zF c3
    clear c3
    by_cases c4 : 0 ≤ x8_1
    ·rw [zC c4] at H
     have c4b0 := zF c4
     clear c4
     by_cases c5 : x8_1 < (l0.length : Int)
     ·rw [zC c5] at H
      have c5b0 := zF c5
      clear c5
      by_cases c6 : a1 = (rd l0 x8_1)
      ·rw [zC c6] at H
       obtain ⟨c6b0, c6b1⟩ := qe c6; clear c6
       obtain rfl := zI H
       have p179 : 0 ≤ (x8_1 : Int) := zB qA
       have q179 : x8_1 < (l0.length : Int) := zB qA
       obtain ⟨ad179, e179, hx179_0⟩ := Kd.at_int HR0.out x8_1 p179 q179
       cases e179
       replace p179 := eq_true p179
       replace q179 := eq_true q179
       go_wp2
       go_ret
       exact ⟨by first | rfl | (simp; done) | (simp [*]; done), qD⟩
      ·rw [zD c6] at H
       obtain ⟨c6b0, c6b1⟩ := qn c6
       have H' := zA H
       clear H
       have p179 : 0 ≤ (x8_1 : Int) := zB qA
       have q179 : x8_1 < (l0.length : Int) := zB qA
       obtain ⟨ad179, e179, hx179_0⟩ := Kd.at_int HR0.out x8_1 p179 q179
       cases e179
       replace p179 := eq_true p179
       replace q179 := eq_true q179
       go_wp2
       go_roundg k1
       case measure => have := HK1.out; omega
       case rel => exact ⟨(wrap64 (x8_1 + 1)), qT, H', ⟨by have := HK1.out; omega⟩, qD⟩
     ·rw [zD c5] at H
      exact absurd H (by simp)
    ·rw [zD c4] at H
     exact absurd H (by simp)
   ·rw [zD c3] at H
    have c3b0 := zG c3
    clear c3
    obtain rfl := zI H
    go_wp2
    go_ret
    exact ⟨by first | rfl | (simp; done) | (simp [*]; done), qD⟩

def slices_Contains_int_int.f (k : Nat) (l0 : List Int) (a1 : Int) : Option (Bool) := (slices_Index_int_int.f k l0 a1).bind fun t180 => (some (decide (t180 ≥ 0)))
set_option maxHeartbeats 8000000 in
set_option maxRecDepth 100000 in
theorem slices_Contains_int_int.calls (k : Nat) (A0 : Option Addr) (c0 : Nat) (l0 : List Int) (a1 : Int) (r : Bool) (w : World) (hr0 : Kd.C (Kd.int .i64) w A0 l0.length l0) (hc0 : l0.length ≤ c0) (h : slices_Contains_int_int.f k l0 a1 = some r) :
 Calls Try.prog 12 #[.slice A0 l0.length c0, .int .i64 a1] w fun e w' => e = .returned (.bool r) ∧ Drawn0 w w' := by
 have HR0 := zA hr0
 have HC0 := zA hc0
 clear hr0 hc0
 have H := h; clear h; unfold slices_Contains_int_int.f at H
 replace H := qb H; obtain ⟨t180, A3, H⟩ := H
 obtain rfl := zI H
 go_enter Try.func12, Try.ntmps12
 go_wp2_with (first | ((with_reducible refine gate_callee (f := 15) rfl ?_); refine goesL_ (some 7) rfl rfl Try.func15 (by kernel_rfl) rfl #[.slice A0 l0.length c0, .int .i64 a1] rfl qL ?_; (with_reducible refine (slices_Index_int_int.calls k _ _ l0 a1 t180 _ ?side1 ?side2 A3.out).mono ?_); (case side1 => repeat (first | exact HR0.out | (with_reducible refine Kd.C_alloc ?_ _) | (with_reducible refine Kd.C_drewN ?_ _) | (with_reducible refine Kd.C_drew ?_))); (case side2 => exact HC0.out); rintro e w' ⟨rfl, ⟨nd, rfl⟩⟩; refine ⟨_, rfl, ?_⟩))
 go_ret
 exact ⟨by first | rfl | (simp; done) | (simp [*]; done), qD⟩

mutual
def flow_Succs.j0 : Nat → List (List (SIns)) → Int → Bool → Option (List Int)
 | 0, _, _, _ => none
 | k + 1, x0, x1, x24 => if x24 = true then (some ([] : List Int)) else (if 0 ≤ x1 then (if x1 < (x0.length : Int) then (if 0 ≤ (wrap64 (((rd_LIns x0 x1).length : Int) - 1)) then (if (wrap64 (((rd_LIns x0 x1).length : Int) - 1)) < ((rd_LIns x0 x1).length : Int) then ((ir_Targets.f ((rd_TIns (rd_LIns x0 x1) (wrap64 (((rd_LIns x0 x1).length : Int) - 1))).f0) ((rd_TIns (rd_LIns x0 x1) (wrap64 (((rd_LIns x0 x1).length : Int) - 1))).f1) ((rd_TIns (rd_LIns x0 x1) (wrap64 (((rd_LIns x0 x1).length : Int) - 1))).f2) ((rd_TIns (rd_LIns x0 x1) (wrap64 (((rd_LIns x0 x1).length : Int) - 1))).f3) ((rd_TIns (rd_LIns x0 x1) (wrap64 (((rd_LIns x0 x1).length : Int) - 1))).f4) ((rd_TIns (rd_LIns x0 x1) (wrap64 (((rd_LIns x0 x1).length : Int) - 1))).f5)).bind fun t184 => (flow_Succs.l0 k x0 ([] : List Int) t184 (t184.length : Int) 0)) else (none)) else (none)) else (none)) else (none))
def flow_Succs.l0 : Nat → List (List (SIns)) → List Int → List Int → Int → Int → Option (List Int)
 | 0, _, _, _, _, _ => none
 | k + 1, x0, x6, x35, x36, x37 => if x37 < x36 then (if 0 ≤ x37 then (if x37 < (x35.length : Int) then (if (rd x35 x37) ≥ 0 then (if (rd x35 x37) < (x0.length : Int) then ((slices_Contains_int_int.f k x6 (rd x35 x37)).bind fun t188 => (if t188 = true then (flow_Succs.l0 k x0 x6 x35 x36 (wrap64 (x37 + 1))) else (if x6.length < 17592186044416 then (flow_Succs.l0 k x0 (x6 ++ [rd x35 x37]) x35 x36 (wrap64 (x37 + 1))) else (none)))) else (flow_Succs.l0 k x0 x6 x35 x36 (wrap64 (x37 + 1)))) else (flow_Succs.l0 k x0 x6 x35 x36 (wrap64 (x37 + 1)))) else (none)) else (none)) else (some x6)
end
def flow_Succs.f (k : Nat) (l0 : List (List (SIns))) (a1 : Int) : Option (List Int) := if a1 < 0 then (flow_Succs.j0 k l0 a1 true) else (if a1 ≥ (l0.length : Int) then (flow_Succs.j0 k l0 a1 true) else (if 0 ≤ a1 then (if a1 < (l0.length : Int) then (flow_Succs.j0 k l0 a1 (((rd_LIns l0 a1).length : Int) == 0)) else (none)) else (none)))
set_option maxHeartbeats 8000000 in
set_option maxRecDepth 100000 in
theorem flow_Succs.calls (k : Nat) (A0 : Option Addr) (c0 : Nat) (l0 : List (List (SIns))) (a1 : Int) (r : List Int) (w : World) (hr0 : Kd.C (Kd.slice 27 kIns) w A0 l0.length l0) (hc0 : l0.length ≤ c0) (h : flow_Succs.f k l0 a1 = some r) :
 Calls Try.prog 7 #[.slice A0 l0.length c0, .int .i64 a1] w fun e w' => ∃ v0_ : Value, e = .returned (v0_) ∧ Kd.R (Kd.int .i64) 3 w' w.heap.size (fun _ => True) v0_ r ∧ Below w.heap.size w w' := by
 have hu27 := Try.underlying27
 have HR0 := zA hr0
 have HC0 := zA hc0
 clear hr0 hc0
 have HB := zA (Below.refl w.heap.size w)
 have H := h; clear h; unfold flow_Succs.f at H
 have HC3 := zA H
 clear H
 go_enter Try.func7, Try.ntmps7
 go_upto_region 1 with (fail)
 go_cut [24] (fun v24 wc => ∃ (kq : Nat) (x24_2 : Bool), v24 = .bool x24_2 ∧ Aside0 (flow_Succs.j0 kq l0 a1 x24_2 = some r) ∧ Aside0 (kq ≤ k) ∧ Aside0 (Below w.heap.size w wc))
 case first =>
  have H := HC3.out
  clear HC3
  by_cases c4 : a1 < 0
  ·rw [zC c4] at H
   have c4b0 := zF c4
   clear c4
   (first | rw [c4b0] | (simp only [i64_w, i32_w]; rw [c4b0]) | skip)
   have H' := zA H
   clear H
   go_wp2
   go_meet
   case rel => exact ⟨_, (true), qT, H', ⟨qO⟩, ⟨qB⟩⟩
  ·rw [zD c4] at H
   have c4b0 := zG c4
   clear c4
   (first | rw [c4b0] | (simp only [i64_w, i32_w]; rw [c4b0]) | skip)
   by_cases c5 : a1 ≥ (l0.length : Int)
   ·rw [zC c5] at H
    have c5b0 : decide ((l0.length : Int) ≤ a1) = true := zF c5
    clear c5
    have H' := zA H
    clear H
    go_wp2
    go_meet
    case rel => exact ⟨_, (true), qT, H', ⟨qO⟩, ⟨qB⟩⟩
   ·rw [zD c5] at H
    have c5b0 : decide ((l0.length : Int) ≤ a1) = false := zG c5
    clear c5
    by_cases c6 : 0 ≤ a1
    ·rw [zC c6] at H
     have c6b0 := zF c6
     clear c6
     by_cases c7 : a1 < (l0.length : Int)
     ·rw [zC c7] at H
      have c7b0 := zF c7
      clear c7
      have H' := zA H
      clear H
      have p181 : 0 ≤ (a1 : Int) := zB qA
      have q181 : a1 < (l0.length : Int) := zB qA
      obtain ⟨ad181, A181_0, c181_0, e181, hx181_0, hl181_0, hi181_0⟩ := at_LIns HR0.out a1 p181 q181
      cases e181
      replace hx181_0 := (HB.out.cell (zE w _ hx181_0)).trans hx181_0
      have HR181_0 := zA hi181_0
      have HC181_0 := zA hl181_0
      clear hi181_0 hl181_0
      replace p181 := eq_true p181
      replace q181 := eq_true q181
      go_wp2
      go_meet
      case rel => exact ⟨_, ((((rd_LIns l0 a1).length : Int) == 0)), qT, H', ⟨qO⟩, ⟨qB⟩⟩
     ·rw [zD c7] at H
      exact absurd H (by simp)
    ·rw [zD c6] at H
     exact absurd H (by simp)
 case rest =>
  clear HC3
  obtain ⟨kq, x24_2, rfl, HA, HJ2, HB⟩ := hcut
  cases kq with
  | zero => exact absurd HA.out (by simp [flow_Succs.j0])
  | succ kj2 =>
   have H := HA.out
   clear HA
   simp only [flow_Succs.j0] at H
   by_cases c8 : x24_2 = true
   ·subst c8
    have H1 : (some ([] : List Int)) = some r := by rw [zC rfl] at H; exact H
    clear H
    have H := H1
    clear H1
    obtain rfl := zI H
    go_wp2
    go_ret
    exact ⟨_, qE, by first | exact Kd.R_nil _ _ _ _ _ | exact Kd.N_nil _ _ _ _ _ | exact Kd.V_nil _ _ _ _ _ | exact Kd.Q_nil _ _ _ _ _ | exact Kd.S_nil _ _ _ _ _, qB⟩
   ·replace c8 := Bool.eq_false_iff.mpr c8
    subst c8
    have H1 : (if 0 ≤ a1 then (if a1 < (l0.length : Int) then (if 0 ≤ (wrap64 (((rd_LIns l0 a1).length : Int) - 1)) then (if (wrap64 (((rd_LIns l0 a1).length : Int) - 1)) < ((rd_LIns l0 a1).length : Int) then ((ir_Targets.f ((rd_TIns (rd_LIns l0 a1) (wrap64 (((rd_LIns l0 a1).length : Int) - 1))).f0) ((rd_TIns (rd_LIns l0 a1) (wrap64 (((rd_LIns l0 a1).length : Int) - 1))).f1) ((rd_TIns (rd_LIns l0 a1) (wrap64 (((rd_LIns l0 a1).length : Int) - 1))).f2) ((rd_TIns (rd_LIns l0 a1) (wrap64 (((rd_LIns l0 a1).length : Int) - 1))).f3) ((rd_TIns (rd_LIns l0 a1) (wrap64 (((rd_LIns l0 a1).length : Int) - 1))).f4) ((rd_TIns (rd_LIns l0 a1) (wrap64 (((rd_LIns l0 a1).length : Int) - 1))).f5)).bind fun t184 => (flow_Succs.l0 kj2 l0 ([] : List Int) t184 (t184.length : Int) 0)) else (none)) else (none)) else (none)) else (none)) = some r := by rw [zD (show ¬ (false = true) by decide)] at H; exact H
    clear H
    have H := H1
    clear H1
    by_cases c9 : 0 ≤ a1
    ·rw [zC c9] at H
     have c9b0 := zF c9
     clear c9
     by_cases c10 : a1 < (l0.length : Int)
     ·rw [zC c10] at H
      have c10b0 := zF c10
      clear c10
      obtain ⟨ji11, hji11⟩ : ∃ j_ : Int, (wrap64 (((rd_LIns l0 a1).length : Int) - 1)) = j_ := ⟨_, rfl⟩
      replace H : (if 0 ≤ (ji11) then (if (ji11) < ((rd_LIns l0 a1).length : Int) then ((ir_Targets.f ((rd_TIns (rd_LIns l0 a1) (ji11)).f0) ((rd_TIns (rd_LIns l0 a1) (ji11)).f1) ((rd_TIns (rd_LIns l0 a1) (ji11)).f2) ((rd_TIns (rd_LIns l0 a1) (ji11)).f3) ((rd_TIns (rd_LIns l0 a1) (ji11)).f4) ((rd_TIns (rd_LIns l0 a1) (ji11)).f5)).bind fun t184 => (flow_Succs.l0 kj2 l0 ([] : List Int) t184 (t184.length : Int) 0)) else (none)) else (none)) = some r := by first | (rw [hji11] at H; exact H) | (simp only [hji11] at H ⊢; exact H)
      have hji11w : (IntKind.i64.wrap (((rd_LIns l0 a1).length : Int) - 1)) = ji11 := (i64_w _).trans hji11
      by_cases c12 : 0 ≤ (ji11)
      ·rw [zC c12] at H
       have c12b0 := zF c12
       clear c12
       by_cases c13 : (ji11) < ((rd_LIns l0 a1).length : Int)
       ·rw [zC c13] at H
        have c13b0 := zF c13
        clear c13
        replace H := qb H; obtain ⟨t184, A14, H⟩ := H
        have H' := zA H
        clear H
        have p182 : 0 ≤ (a1 : Int) := zB qA
        have q182 : a1 < (l0.length : Int) := zB qA
        obtain ⟨ad182, A182_0, c182_0, e182, hx182_0, hl182_0, hi182_0⟩ := at_LIns HR0.out a1 p182 q182
        cases e182
        replace hx182_0 := (HB.out.cell (zE w _ hx182_0)).trans hx182_0
        have HR182_0 := zA hi182_0
        have HC182_0 := zA hl182_0
        clear hi182_0 hl182_0
        replace p182 := eq_true p182
        replace q182 := eq_true q182
        have p183 : 0 ≤ ((ji11) : Int) := zB qA
        have q183 : (ji11) < ((rd_LIns l0 a1).length : Int) := zB qA
        obtain ⟨ad183, A183_5, c183_5, e183, hx183_0, hx183_1, hx183_2, hx183_3, hx183_4, hx183_5, hl183_5, hi183_5⟩ := at_TIns HR182_0.out (ji11) p183 q183
        cases e183
        replace hx183_0 := (HB.out.cell (zE w _ hx183_0)).trans hx183_0
        replace hx183_1 := (HB.out.cell (zE w _ hx183_1)).trans hx183_1
        replace hx183_2 := (HB.out.cell (zE w _ hx183_2)).trans hx183_2
        replace hx183_3 := (HB.out.cell (zE w _ hx183_3)).trans hx183_3
        replace hx183_4 := (HB.out.cell (zE w _ hx183_4)).trans hx183_4
        replace hx183_5 := (HB.out.cell (zE w _ hx183_5)).trans hx183_5
        have HR183_5 := zA hi183_5
        have HC183_5 := zA hl183_5
        clear hi183_5 hl183_5
        replace p183 := eq_true p183
        replace q183 := eq_true q183
        go_wp2_with (first | ((with_reducible refine gate_callee (f := 11) rfl ?_); refine goesL_ (some 35) rfl rfl Try.func11 (by kernel_rfl) rfl #[.agg #[.int .i64 ((rd_TIns (rd_LIns l0 a1) (ji11)).f0), .int .i64 ((rd_TIns (rd_LIns l0 a1) (ji11)).f1), .int .i64 ((rd_TIns (rd_LIns l0 a1) (ji11)).f2), .int .i64 ((rd_TIns (rd_LIns l0 a1) (ji11)).f3), .string ((rd_TIns (rd_LIns l0 a1) (ji11)).f4), .slice A183_5 ((rd_TIns (rd_LIns l0 a1) (ji11)).f5).length c183_5]] rfl (by (try simp only [List.map_toArray, List.map_cons, List.map_nil]); first | done | (simp only [hji11]; rfl) | rfl | (simp only [List.length_drop, List.length_take]; rfl)) ?_; (with_reducible refine (ir_Targets.calls ((rd_TIns (rd_LIns l0 a1) (ji11)).f0) ((rd_TIns (rd_LIns l0 a1) (ji11)).f1) ((rd_TIns (rd_LIns l0 a1) (ji11)).f2) ((rd_TIns (rd_LIns l0 a1) (ji11)).f3) ((rd_TIns (rd_LIns l0 a1) (ji11)).f4) _ _ ((rd_TIns (rd_LIns l0 a1) (ji11)).f5) t184 _ ?side1 ?side2 A14.out).mono ?_); (case side1 => exact qCB HR183_5.out); (case side2 => exact HC183_5.out); rintro e w15 ⟨v185, rfl, ho0, hb⟩; refine ⟨_, rfl, ?_⟩; have HO186 := zA (Kd.R_lower ho0 (below_size qB)); replace HB := qH hb; (try clear hb); (try clear ho0); obtain ⟨Ao16, co16, eo16⟩ := Kd.R_slice HO186.out; subst eo16))
        go_loopg [6, 37] kj2 (fun kq v6 v37 w' => ∃ (x6_2 : List Int) (x37_2 : Int), v37 = .int .i64 x37_2 ∧ Aside0 (flow_Succs.l0 kq l0 x6_2 t184 (t184.length : Int) x37_2 = some r) ∧ Aside0 (kq ≤ kj2) ∧ Aside0 (Kd.R (Kd.int .i64) 3 w' w.heap.size (fun k_ => some k_ ≠ ((.slice Ao16 t184.length co16) : Value).ownBlock) v6 x6_2) ∧ Aside0 (Kd.R (Kd.int .i64) 3 w' w.heap.size (fun k_ => some k_ ≠ (v6 : Value).ownBlock) (.slice Ao16 t184.length co16) t184) ∧ Aside0 (Below w.heap.size w w'))
        case atStart => exact ⟨(([] : List Int)), (0), qT, H', ⟨Nat.le_refl _⟩, ⟨by first | exact Kd.R_nil _ _ _ _ _ | exact Kd.N_nil _ _ _ _ _ | exact Kd.V_nil _ _ _ _ _ | exact Kd.Q_nil _ _ _ _ _ | exact Kd.S_nil _ _ _ _ _⟩, ⟨by (with_reducible repeat (first | apply Kd.R_alloc | apply Kd.R_drewN | apply Kd.R_drew)); exact Kd.R_mono HO186.out (fun _ hk => (by simp [Value.ownBlock]))⟩, ⟨qB⟩⟩
        case round =>
         clear H'
         obtain ⟨x6_2, x37_2, rfl, HA, HK2, HO_6, HO_35, HB⟩ := hrel
         cases gk with
         | zero => exact absurd HA.out (by simp [flow_Succs.l0])
         | succ k2 =>
          have H := HA.out
          clear HA
          simp only [flow_Succs.l0] at H
          by_cases c17 : x37_2 < (t184.length : Int)
          ·rw [zC c17] at H
           have c17b0 := zF c17
           clear c17
           by_cases c18 : 0 ≤ x37_2
           ·rw [zC c18] at H
            have c18b0 := zF c18
            clear c18
            by_cases c19 : x37_2 < (t184.length : Int)
            ·rw [zC c19] at H
             have c19b0 := zF c19
             clear c19
             by_cases c20 : (rd t184 x37_2) ≥ 0
             ·rw [zC c20] at H
              have c20b0 : decide (0 ≤ (rd t184 x37_2)) = true := zF c20
              clear c20
              by_cases c21 : (rd t184 x37_2) < (l0.length : Int)
              ·rw [zC c21] at H
               have c21b0 := zF c21
               clear c21
               replace H := qb H; obtain ⟨t188, A22, H⟩ := H
               by_cases c23 : t188 = true
               ·subst c23
                have H1 : (flow_Succs.l0 k2 l0 x6_2 t184 (t184.length : Int) (wrap64 (x37_2 + 1))) = some r := by rw [zC rfl] at H; exact H
                clear H
                have H := H1
                clear H1
                have H' := zA H
                clear H
                have p187 : 0 ≤ (x37_2 : Int) := zB qA
                have q187 : x37_2 < (t184.length : Int) := zB qA
                obtain ⟨ad187, e187, hx187_0⟩ := Kd.at_int (Kd.R_reads' HO_35.out).2.2 x37_2 p187 q187
                cases e187
                replace p187 := eq_true p187
                replace q187 := eq_true q187
                obtain ⟨Ao24, co24, eo24⟩ := Kd.R_slice HO_6.out
                subst eo24
                go_wp2_with (first | (go_at_call 12; (with_reducible refine (slices_Contains_int_int.calls k2 _ _ x6_2 (rd t184 x37_2) true _ ?side1 ?side2 A22.out).mono ?_); (case side1 => repeat (first | exact (Kd.R_reads' HO_6.out).2.2 | (with_reducible refine Kd.C_alloc ?_ _) | (with_reducible refine Kd.C_drewN ?_ _) | (with_reducible refine Kd.C_drew ?_))); (case side2 => exact (Kd.R_reads' HO_6.out).2.1); (try clear A22); rintro e w' ⟨rfl, ⟨nd, rfl⟩⟩))
                go_roundg k2
                case measure => have := HJ2.out; have := HK2.out; omega
                case rel => exact ⟨(x6_2), (wrap64 (x37_2 + 1)), qT, H', ⟨by have := HJ2.out; have := HK2.out; omega⟩, ⟨qR HO_6.out⟩, ⟨qR HO_35.out⟩, ⟨qB⟩⟩
               ·replace c23 := Bool.eq_false_iff.mpr c23
                subst c23
                have H1 : (if x6_2.length < 17592186044416 then (flow_Succs.l0 k2 l0 (x6_2 ++ [rd t184 x37_2]) t184 (t184.length : Int) (wrap64 (x37_2 + 1))) else (none)) = some r := by rw [zD (show ¬ (false = true) by decide)] at H; exact H
                clear H
                have H := H1
                clear H1
                by_cases c25 : x6_2.length < 17592186044416
                ·rw [zC c25] at H
                 have LMc25 := zA c25
                 clear c25
                 obtain ⟨y189, hy189⟩ : ∃ y_ : List Int, y_ = (x6_2 ++ [rd t184 x37_2]) := ⟨_, rfl⟩
                 replace H : (flow_Succs.l0 k2 l0 y189 t184 (t184.length : Int) (wrap64 (x37_2 + 1))) = some r := by (try rw [hy189]); first | with_reducible exact H | exact (zJ _ _).symm.trans H | exact H
                 have Ny189 := zA hy189
                 clear hy189
                 have H' := zA H
                 clear H
                 have p187 : 0 ≤ (x37_2 : Int) := zB qA
                 have q187 : x37_2 < (t184.length : Int) := zB qA
                 obtain ⟨ad187, e187, hx187_0⟩ := Kd.at_int (Kd.R_reads' HO_35.out).2.2 x37_2 p187 q187
                 cases e187
                 replace p187 := eq_true p187
                 replace q187 := eq_true q187
                 obtain ⟨Ao26, co26, eo26⟩ := Kd.R_slice HO_6.out
                 subst eo26
                 go_wp2_with (first | (go_at_call 12; (with_reducible refine (slices_Contains_int_int.calls k2 _ _ x6_2 (rd t184 x37_2) false _ ?side1 ?side2 A22.out).mono ?_); (case side1 => repeat (first | exact (Kd.R_reads' HO_6.out).2.2 | (with_reducible refine Kd.C_alloc ?_ _) | (with_reducible refine Kd.C_drewN ?_ _) | (with_reducible refine Kd.C_drew ?_))); (case side2 => exact (Kd.R_reads' HO_6.out).2.1); (try clear A22); rintro e w' ⟨rfl, ⟨nd, rfl⟩⟩) | ((with_reducible refine gate_builtin (b := .append) (xs := #[.tmp 55, .tmp 57]) rfl ?_); (try (refine gate_guard (by rfl) ?_; dsimp only)); at_builtin; refine Kd.R_append (Kd.int .i64) (w0 := w) w.heap.size rfl (.tmp 55) (.tmp 57) 25 3 (.int .i64 0) 8 rfl Try.underlying25 info3 rfl (by decide) (by omega) (.slice Ao26 x6_2.length co26) x6_2 (rd t184 x37_2) [.int .i64 (rd t184 x37_2)] (fun k_ => some k_ ≠ (.slice (some ad187) t184.length co16 : Value).ownBlock) (fun _ => False) rfl rfl ?aP (fun _ hk => hk.elim) ?aF ?aO ?aB ?aS ?aL ?_; (case aP => exact rfl); (case aB => exact qB); (case aF => exact (fun k_ hk => Kd.fresh' (Kd.R_lt (qR HO_35.out)) k_ hk)); (case aO => exact (qR HO_6.out)); (case aS => exact (below_size qB)); (case aL => have := LMc25.out; omega); intro v190 w27 ho hb hg hat; rw [← Ny189.out] at ho; replace HO_35 := zA (Kd.R_after (ok := (fun _ => True)) (by (with_reducible repeat (first | apply Kd.R_alloc | apply Kd.R_drewN | apply Kd.R_drew)); exact Kd.R_mono HO_35.out (fun _ hk => ⟨trivial, hk⟩)) hg hat); replace HB := zA (hb); have HO191 := zA (ho); clear HO_6; clear ho hb hg hat))
                 go_roundg k2
                 case measure => have := HJ2.out; have := HK2.out; omega
                 case rel => exact ⟨(y189), (wrap64 (x37_2 + 1)), qT, H', ⟨by have := HJ2.out; have := HK2.out; omega⟩, ⟨qR HO191.out⟩, ⟨by (with_reducible repeat (first | apply Kd.R_alloc | apply Kd.R_drewN | apply Kd.R_drew)); exact Kd.R_mono HO_35.out (fun _ hk => hk.2)⟩, ⟨qB⟩⟩
                ·rw [zD c25] at H
                 exact absurd H (by simp)
              ·rw [zD c21] at H
               have c21b0 := zG c21
               clear c21
               have H' := zA H
               clear H
               have p187 : 0 ≤ (x37_2 : Int) := zB qA
               have q187 : x37_2 < (t184.length : Int) := zB qA
               obtain ⟨ad187, e187, hx187_0⟩ := Kd.at_int (Kd.R_reads' HO_35.out).2.2 x37_2 p187 q187
               cases e187
               replace p187 := eq_true p187
               replace q187 := eq_true q187
               go_wp2
               go_roundg k2
               case measure => have := HJ2.out; have := HK2.out; omega
               case rel => exact ⟨(x6_2), (wrap64 (x37_2 + 1)), qT, H', ⟨by have := HJ2.out; have := HK2.out; omega⟩, ⟨qR HO_6.out⟩, ⟨qR HO_35.out⟩, ⟨qB⟩⟩
             ·rw [zD c20] at H
              have c20b0 : decide (0 ≤ (rd t184 x37_2)) = false := zG c20
              clear c20
              have H' := zA H
              clear H
              have p187 : 0 ≤ (x37_2 : Int) := zB qA
              have q187 : x37_2 < (t184.length : Int) := zB qA
              obtain ⟨ad187, e187, hx187_0⟩ := Kd.at_int (Kd.R_reads' HO_35.out).2.2 x37_2 p187 q187
              cases e187
              replace p187 := eq_true p187
              replace q187 := eq_true q187
              go_wp2
              go_roundg k2
              case measure => have := HJ2.out; have := HK2.out; omega
              case rel => exact ⟨(x6_2), (wrap64 (x37_2 + 1)), qT, H', ⟨by have := HJ2.out; have := HK2.out; omega⟩, ⟨qR HO_6.out⟩, ⟨qR HO_35.out⟩, ⟨qB⟩⟩
            ·rw [zD c19] at H
             exact absurd H (by simp)
           ·rw [zD c18] at H
            exact absurd H (by simp)
          ·rw [zD c17] at H
           have c17b0 := zG c17
           clear c17
           obtain rfl := zI H
           go_wp2
           go_ret
           exact ⟨_, by first | rfl | (simp [errW_none, errW_some] <;> rfl) | (simp only [← hji11]; first | rfl | (simp [errW_none, errW_some] <;> rfl)) | (simp [*, errW_none, errW_some] <;> rfl), by (with_reducible repeat (first | apply Kd.R_alloc | apply Kd.R_drewN | apply Kd.R_drew)); exact Kd.R_mono HO_6.out (fun _ hk => trivial), qB⟩
       ·rw [zD c13] at H
        exact absurd H (by simp)
      ·rw [zD c12] at H
       exact absurd H (by simp)
     ·rw [zD c10] at H
      exact absurd H (by simp)
    ·rw [zD c9] at H
     exact absurd H (by simp)

def slices_Reverse_int_int.l0 : Nat → List Int → Int → Int → Option (List Int)
 | 0, _, _, _ => none
 | k + 1, x0, x2, x3 => if x2 < x3 then (if 0 ≤ x3 then (if x3 < (x0.length : Int) then (if 0 ≤ x2 then (if x2 < (x0.length : Int) then (slices_Reverse_int_int.l0 k ((x0.set (x2 : Int).toNat (rd x0 x3)).set (x3 : Int).toNat (rd x0 x2)) (wrap64 (x2 + 1)) (wrap64 (x3 - 1))) else (none)) else (none)) else (none)) else (none)) else (some x0)
def slices_Reverse_int_int.f (k : Nat) (l0 : List Int) : Option (List Int) := slices_Reverse_int_int.l0 k l0 0 (wrap64 ((l0.length : Int) - 1))
def slices_Reverse_int_int.T3 : Bool × List (List Nat × List Nat) := (true, [([], []), ([], []), ([], []), ([], []), ([], []), ([], []), ([4, 5], [4, 5]), ([6], [6]), ([], []), ([], []), ([8, 9], [8, 9]), ([10], [10]), ([0, 1, 0, 1, 4, 5, 6, 7, 11], [0, 1]), ([12, 7, 0, 1, 4, 5, 6, 7, 11], [7, 12]), ([2, 3, 0, 1, 2, 3, 4, 5, 6, 7, 8, 9, 10, 11, 12, 13], [2, 3]), ([14, 11, 13, 0, 1, 2, 3, 4, 5, 6, 7, 8, 9, 10, 11, 12, 13], [11, 14])])
def slices_Reverse_int_int.B3 : List Nat := [0, 0, 0, 0, 0, 0, 48, 112, 0, 0, 768, 1792, 4083, 8179, 16383, 32767]
theorem slices_Reverse_int_int.tab3 : rtab .any (opsOf Try.f9 3) = slices_Reverse_int_int.T3 := by kernel_rfl
theorem slices_Reverse_int_int.bits3 : waitsOk slices_Reverse_int_int.T3.2 slices_Reverse_int_int.B3 = true := by kernel_rfl
set_option maxHeartbeats 8000000 in
set_option maxRecDepth 100000 in
theorem slices_Reverse_int_int.calls (k : Nat) (P0_ : Nat → Prop) (u9000_ : Value) (l0 : List Int) (r : List Int) (w0 w : World) (hB : Below w0.heap.size w0 w) (ho0 : Kd.R (Kd.int .i64) 3 w w0.heap.size P0_ u9000_ l0) (h : slices_Reverse_int_int.f k l0 = some r) :
 Calls Try.prog 9 #[u9000_] w fun e w' => e = .returned (.tuple #[]) ∧ Kd.R (Kd.int .i64) 3 w' w0.heap.size (fun k_ => (P0_ k_ ∨ w.heap.size ≤ k_)) u9000_ r ∧ Below w0.heap.size w0 w' ∧ Kept w w' (fun k_ => P0_ k_) := by
 have HO0 := zA (show Kd.R (Kd.int .i64) 3 w w0.heap.size (fun k_ => (P0_ k_ ∨ w.heap.size ≤ k_)) u9000_ l0 from Kd.R_mono ho0 (fun k_ hk => (.inl hk)))
 have HK := zA (Kept.refl w (fun k_ => P0_ k_))
 have HW0 := zA hB.size
 have HB := zA hB
 clear hB
 have H := h; clear h; unfold slices_Reverse_int_int.f at H
 have H' := zA H
 clear H
 obtain ⟨Ao2, co2, eo2⟩ := Kd.R_slice HO0.out
 subst eo2
 go_enter Try.func9, Try.ntmps9
 go_wp2
 go_loopg [2, 3] k (fun kq v2 v3 w' => ∃ (x0_1 : List Int) (x2_1 : Int) (x3_1 : Int), v2 = .int .i64 x2_1 ∧ v3 = .int .i64 x3_1 ∧ Aside0 (slices_Reverse_int_int.l0 kq x0_1 x2_1 x3_1 = some r) ∧ Aside0 (kq ≤ k) ∧ Aside0 (Kd.R (Kd.int .i64) 3 w' w0.heap.size (fun k_ => (P0_ k_ ∨ w.heap.size ≤ k_)) (.slice Ao2 l0.length co2) x0_1) ∧ Aside0 (Kept w w' (fun k_ => P0_ k_)) ∧ Aside0 (Below w0.heap.size w0 w'))
 case atStart => exact ⟨(l0), (0), (wrap64 ((l0.length : Int) - 1)), qT, qT, H', ⟨Nat.le_refl _⟩, ⟨qR HO0.out⟩, ⟨by repeat (first | (with_reducible first | exact HK.out | apply Kept.alloc | apply Kept.drewN | apply Kept.drew) | exact HK.out)⟩, ⟨qB⟩⟩
 case round =>
  clear H'
  obtain ⟨x0_1, x2_1, x3_1, rfl, rfl, HA, HK1, HO_0, HK, HB⟩ := hrel
  have hl0_1 := (Kd.R_reads' HO_0.out).1
  rw [hl0_1] at HO_0
  (try simp only [hl0_1])
  cases gk with
  | zero => exact absurd HA.out (by simp [slices_Reverse_int_int.l0])
  | succ k1 =>
   have H := HA.out
   clear HA
   simp only [slices_Reverse_int_int.l0] at H
   by_cases c3 : x2_1 < x3_1
   ·rw [zC c3] at H
    have c3b0 := zF c3
    clear c3
    by_cases c4 : 0 ≤ x3_1
    ·rw [zC c4] at H
     have c4b0 := zF c4
     clear c4
     by_cases c5 : x3_1 < (x0_1.length : Int)
     ·rw [zC c5] at H
      have c5b0 := zF c5
      clear c5
      by_cases c6 : 0 ≤ x2_1
      ·rw [zC c6] at H
       have c6b0 := zF c6
       clear c6
       by_cases c7 : x2_1 < (x0_1.length : Int)
       ·rw [zC c7] at H
        have c7b0 := zF c7
        clear c7
        obtain ⟨y103, hy103⟩ : ∃ y_ : List Int, y_ = (x0_1.set (x2_1 : Int).toNat (rd x0_1 x3_1)) := ⟨_, rfl⟩
        replace H : (slices_Reverse_int_int.l0 k1 (y103.set (x3_1 : Int).toNat (rd x0_1 x2_1)) (wrap64 (x2_1 + 1)) (wrap64 (x3_1 - 1))) = some r := by (try rw [hy103]); first | with_reducible exact H | exact (zJ _ _).symm.trans H | exact H
        have Ny103 := zA hy103
        clear hy103
        obtain ⟨y104, hy104⟩ : ∃ y_ : List Int, y_ = (y103.set (x3_1 : Int).toNat (rd x0_1 x2_1)) := ⟨_, rfl⟩
        replace H : (slices_Reverse_int_int.l0 k1 y104 (wrap64 (x2_1 + 1)) (wrap64 (x3_1 - 1))) = some r := by (try rw [hy104]); first | with_reducible exact H | exact (zJ _ _).symm.trans H | exact H
        have Ny104 := zA hy104
        clear hy104
        have H' := zA H
        clear H
        try go_wp2
        have n0_ := zA (Kd.R_drew HO_0.out)
        have n1_ := zA (Kept.drew HK.out)
        have n2_ := zA (below_drew1 HB.out)
        clear HO_0
        clear HK
        clear HB
        have HO_0 := n0_
        have HK := n1_
        have HB := n2_
        clear n0_ n1_ n2_
        have p101 : 0 ≤ (x3_1 : Int) := zB qA
        have q101 : x3_1 < (x0_1.length : Int) := zB qA
        obtain ⟨ad101, e101, hx101_0⟩ := Kd.at_int (Kd.R_reads' HO_0.out).2.2 x3_1 p101 q101
        cases e101
        replace p101 := eq_true p101
        replace q101 := eq_true q101
        have p102 : 0 ≤ (x2_1 : Int) := zB qA
        have q102 : x2_1 < (x0_1.length : Int) := zB qA
        obtain ⟨ad102, e102, hx102_0⟩ := Kd.at_int (Kd.R_reads' HO_0.out).2.2 x2_1 p102 q102
        obtain rfl : ad101 = ad102 := (by injection e102)
        replace p102 := eq_true p102
        replace q102 := eq_true q102
        have p8 : 0 ≤ (x2_1 : Int) := zB qA
        have q8 : (x2_1 : Int) < ((x0_1.length : Int) : Int) := zB qA
        obtain ⟨go8, co8, eo8, gb8, gl8, cl8, HG8⟩ := Kd.R_form HO_0.out (by omega)
        (first | cases eo8 | (injection eo8 with ea_ en_ ec_; (first | subst ea_ | (injection ea_ with ea_; subst ea_)); subst ec_; clear en_))
        have GB8 := zA gb8
        have GG8 := zA HG8
        clear gb8 gl8 HG8
        have HMgo8 := zA (show (P0_ go8 ∨ w.heap.size ≤ go8) from (HO_0.out.1 _ rfl))
        (first | simp only [add_plain] at hx101_0 | skip)
        (first | simp only [add_plain] at hx102_0 | skip)
        obtain ⟨hx8_0, hf8_0⟩ := Kd.R_celln 0 HO_0.out (x2_1 : Int) p8 q8
        replace p8 := eq_true p8
        replace q8 := eq_true q8
        have HP11 := Kd.R_putn HO_0.out (x2_1 : Int) (rd x0_1 x3_1)
        rw [← Ny103.out] at HP11
        have HQ11 := zA HP11
        clear HP11
        have p9 : 0 ≤ (x3_1 : Int) := zB qA
        have q9 : (x3_1 : Int) < ((x0_1.length : Int) : Int) := zB qA
        obtain ⟨hx9_0, hf9_0⟩ := Kd.R_celln 0 HQ11.out (x3_1 : Int) p9 q9
        replace p9 := eq_true p9
        replace q9 := eq_true q9
        have HP12 := Kd.R_putn HQ11.out (x3_1 : Int) (rd x0_1 x2_1)
        rw [← Ny104.out] at HP12
        have HQ12 := zA HP12
        clear HP12
        refine start_ (n := 16) (S := fun w' => w'.cell? ⟨go8, (x3_1).toNat, none⟩ = some (.int .i64 (rd x0_1 x3_1)) ∧ w'.cell? ⟨go8, (x2_1).toNat, none⟩ = some (.int .i64 (rd x0_1 x2_1))) (ds := [13, 15]) (bA 16 0) (by kernel_rfl) rfl rfl ⟨hx101_0, hx102_0⟩ (fun hHeld => ?_); refine with_tabW slices_Reverse_int_int.tab3 slices_Reverse_int_int.bits3 (fun HT_ HW_ => ?_)
        generalize wr.drew = w10 at HO_0 HK HB GG8 HQ11 HQ12 hf8_0 hf9_0 hx101_0 hx102_0 hx8_0 hx9_0 hHeld ⊢
        refine pu_ (i := 0) (N := some 14) (bA 16 1) ?_
        refine pu_ (i := 1) (N := some 15) (bA 16 3) ?_
        refine pu_ (i := 2) (N := some 16) (bA 16 7) ?_
        refine pu_ (i := 3) (N := some 17) (bA 16 15) ?_
        refine pu_ (i := 4) (N := some 18) (bA 16 31) ?_
        refine pu_ (i := 5) (N := some 19) (bA 16 63) ?_
        refine pu_ (i := 6) (N := some 20) (bA 16 127) ?_
        refine pu_ (i := 8) (N := some 22) (bA 16 383) ?_
        refine pu_ (i := 9) (N := some 23) (bA 16 895) ?_
        refine pu_ (i := 10) (N := some 24) (bA 16 1919) ?_
        refine tk_ (i := 7) (N := some 21) (bA 16 2047) ?_
        refine tk_ (i := 11) (N := some 25) (bA 16 4095) ?_
        refine pu_ (i := 12) (N := some 26) (bA 16 8191) ?_
        refine last_ (i := 13) (N := none) (bA 16 16383) rfl rfl (one_of HT_.out (by kernel_rfl)) (by decide) (fun K hK => ?_)
        refine skip_ (w1 := ?_) (by rfl) rfl ?_ ?_
        rotate_left
        ·go_simp
         rfl
        refine hK.out _ _ ?_
        clear hK K
        refine pu_ (i := 14) (N := some 27) (bA 16 32767) ?_
        refine last_ (i := 15) (N := none) (bA 16 65535) rfl rfl (one_of HT_.out (by kernel_rfl)) (by decide) (fun K hK => ?_)
        refine skip_ (w1 := ?_) (by rfl) rfl ?_ ?_
        rotate_left
        ·go_simp
         rfl
        refine hK.out _ _ ?_
        clear hK K
        refine done_ (done_of HT_.out (by kernel_rfl)) ?_
        try go_wp2
        (try simp only [← hl0_1])
        go_roundg k1
        case measure => have := HK1.out; omega
        case rel => exact ⟨(y104), (wrap64 (x2_1 + 1)), (wrap64 (x3_1 - 1)), qT, qT, H', ⟨by have := HK1.out; omega⟩, ⟨by (try simp only [hl0_1]); (with_reducible repeat (first | apply Kd.R_alloc | apply Kd.R_drewN | apply Kd.R_drew)); exact HQ12.out⟩, ⟨by repeat (first | (with_reducible first | exact HK.out | apply Kept.alloc | apply Kept.drewN | apply Kept.drew | refine Kept.setCell ?_ HMgo8.out _ | refine Kept.setCell ?_ HMgo8.out _) | exact HK.out)⟩, ⟨by repeat (first | (with_reducible first | exact HB.out | apply below_alloc | apply pw_below_drewN | apply below_drew1 | refine below_set ?_ GB8.out | refine below_set ?_ GB8.out) | exact HB.out)⟩⟩
       ·rw [zD c7] at H
        exact absurd H (by simp)
      ·rw [zD c6] at H
       exact absurd H (by simp)
     ·rw [zD c5] at H
      exact absurd H (by simp)
    ·rw [zD c4] at H
     exact absurd H (by simp)
   ·rw [zD c3] at H
    have c3b0 := zG c3
    clear c3
    obtain rfl := zI H
    go_wp2
    first | go_end0 | ((try simp only [Exit.inBlock, Exit.then]); refine bodyPost_ret (results_none rfl _ _ _) rfl ?_)
    exact ⟨qE, (by first | exact (qR HO_0.out) | (simp only [hl0_1]; exact (qR HO_0.out))), qB, by repeat (first | (with_reducible first | exact HK.out | apply Kept.alloc | apply Kept.drewN | apply Kept.drew) | exact HK.out)⟩
end Go.Proofs.Ythidcafbhjahdaa.Q
namespace Go.Proofs.Ythidcafbhjahdaa.Q
theorem info4 : (Try.prog.info? 4).map (fun i => (i.zero, i.size, i.bytes)) = some (some (.bool false), 1, 1) := by kernel_rfl
theorem info28 : (Try.prog.info? 28).map (fun i => (i.zero, i.size, i.bytes)) = some (some (.slice none 0 0), 1, 24) := by kernel_rfl
end Go.Proofs.Ythidcafbhjahdaa.Q
namespace Go.Proofs.Ythidcafbhjahdaa.Q
open Go.RowKit Go.Proofs.YthidcafbhjahdaaW.PrintWords Go.Proofs.YthidcafbhjahdaaW.PrintLast Go.Proofs.YthidcafbhjahdaaW.PrintMore
set_option linter.unusedVariables false
set_option linter.unusedSimpArgs false
mutual
def flow_Order_1.l0 : Nat → List (List SIns) → Int → List Bool → List Int → List Int → Int → Option (List Bool × List Int)
 | 0, _, _, _, _, _, _ => none
 | k + 1, x, i, met, out, s, j =>
  if j < (s.length : Int) then
   if 0 ≤ j then
    if 0 ≤ rd s j then
     if rd s j < (met.length : Int) then
      if rdOf false met (rd s j) = true then flow_Order_1.l0 k x i met out s (wrap64 (j + 1))
      else (flow_Order_1.f k x (rd s j) met out).bind fun b => flow_Order_1.l0 k x i b.1 b.2 s (wrap64 (j + 1))
     else none
    else none
   else none
  else if out.length < 17592186044416 then some (met, out ++ [i]) else none
def flow_Order_1.f : Nat → List (List SIns) → Int → List Bool → List Int → Option (List Bool × List Int)
 | 0, _, _, _, _ => none
 | k + 1, x, i, met, out =>
  if 0 ≤ i then
   if i < (met.length : Int) then (flow_Succs.f k x i).bind fun s => flow_Order_1.l0 k x i (met.set i.toNat true) out s 0
   else none
  else none
end
structure OrderSt (w0 w : World) (gm gb gv go : Nat) (vm vo : Value) (A : Option Addr) (c : Nat) (x : List (List SIns)) (met : List Bool) (out : List Int) : Prop where
 bm : w.heap[gm]? = some (.cells #[vm] 33 (0, 0))
 bb : w.heap[gb]? = some (.cells #[.slice A x.length c] 23 (0, 0))
 bv : w.heap[gv]? = some (.cells #[.func (.func 8) #[] #[.pointer (some ⟨gm, 0, none⟩), .pointer (some ⟨gb, 0, none⟩), .pointer (some ⟨gv, 0, none⟩), .pointer (some ⟨go, 0, none⟩)]] 34 (0, 0))
 bo : w.heap[go]? = some (.cells #[vo] 25 (0, 0))
 hm : Kd.R Kd.bool 4 w w0.heap.size (fun _ => True) vm met
 ho : Kd.R (Kd.int .i64) 3 w w0.heap.size (fun _ => True) vo out
 hB : Below w0.heap.size w0 w
 gem : w0.heap.size ≤ gm
 geb : w0.heap.size ≤ gb
 gev : w0.heap.size ≤ gv
 geo : w0.heap.size ≤ go
 hx : Kd.C (Kd.slice 27 kIns) w0 A x.length x
 hc : x.length ≤ c
section
variable {w0 w w1 : World} {gm gb gv go : Nat} {vm vo vo' : Value} {A : Option Addr} {c : Nat} {x : List (List SIns)} {met : List Bool} {out : List Int}
theorem OrderSt.typm (hs : OrderSt w0 w gm gb gv go vm vo A c x met out) : ∀ k, vm.ownBlock = some k → ∃ cells, w.heap[k]? = some (.cells cells 4 (0, 0)) := Kd.R_typed hs.hm
theorem OrderSt.typo (hs : OrderSt w0 w gm gb gv go vm vo A c x met out) : ∀ k, vo.ownBlock = some k → ∃ cells, w.heap[k]? = some (.cells cells 3 (0, 0)) := Kd.R_typed hs.ho
theorem ne_own {g t t' : Nat} {cs : Array Value} {v : Value} (h : w.heap[g]? = some (.cells cs t (0, 0))) (ht : ∀ k, v.ownBlock = some k → ∃ cells, w.heap[k]? = some (.cells cells t' (0, 0))) (hne : t ≠ t') : v.ownBlock ≠ some g := by
 intro e
 obtain ⟨cells, hc⟩ := ht g e
 exact blk_ne h hc hne rfl
theorem OrderSt.below (hs : OrderSt w0 w gm gb gv go vm vo A c x met out) (hb : Below w.heap.size w w1) : OrderSt w0 w1 gm gb gv go vm vo A c x met out :=
 ⟨blk_below hs.bm hb, blk_below hs.bb hb, blk_below hs.bv hb, blk_below hs.bo hb, Kd.R_below hs.hm hb, Kd.R_below hs.ho hb, below_step hs.hB hb, hs.gem, hs.geb, hs.gev, hs.geo, hs.hx, hs.hc⟩
theorem OrderSt.putm {gx n cx : Nat} (hs : OrderSt w0 w gm gb gv go (.slice (some ⟨gx, 0, none⟩) n cx) vo A c x met out) (i : Int) (b : Bool) :
 OrderSt w0 (w.setCell ⟨gx, i.toNat, none⟩ (.bool b)) gm gb gv go (.slice (some ⟨gx, 0, none⟩) n cx) vo A c x (met.set i.toNat b) out := by
 obtain ⟨h1, h2⟩ := Kd.R_putg hs.hm i b
 obtain ⟨cells, hc⟩ := hs.typm gx (by simp [Value.ownBlock])
 exact ⟨blk_far hs.bm (p := ⟨gx, _, none⟩) (blk_ne hs.bm hc (by decide)) _, blk_far hs.bb (p := ⟨gx, _, none⟩) (blk_ne hs.bb hc (by decide)) _, blk_far hs.bv (p := ⟨gx, _, none⟩) (blk_ne hs.bv hc (by decide)) _, blk_far hs.bo (p := ⟨gx, _, none⟩) (blk_ne hs.bo hc (by decide)) _,
  h1, Kd.R_over' (v := .slice (some ⟨gx, 0, none⟩) n cx) hs.ho hs.typm (by decide) h2, below_set hs.hB (Kd.R_base hs.hm gx (by simp [Value.ownBlock])), hs.gem, hs.geb, hs.gev, hs.geo, hs.hx, hs.hc⟩
theorem OrderSt.app (hs : OrderSt w0 w gm gb gv go vm vo A c x met out) {out' : List Int} (ho : Kd.R (Kd.int .i64) 3 w1 w0.heap.size (fun _ => True) vo' out') (hB : Below w0.heap.size w0 w1) (hg : w.grownBy w1 vo.ownBlock) :
 OrderSt w0 (w1.setCell ⟨go, 0, none⟩ vo') gm gb gv go vm vo' A c x met out' := by
 have n1 := ne_own hs.bm hs.typo (by decide)
 have n2 := ne_own hs.bb hs.typo (by decide)
 have n3 := ne_own hs.bv hs.typo (by decide)
 have n4 := ne_own hs.bo hs.typo (by decide)
 have m1 := blk_grown hs.bm hg (Ne.symm n1)
 have m2 := blk_grown hs.bb hg (Ne.symm n2)
 have m3 := blk_grown hs.bv hg (Ne.symm n3)
 have m4 := blk_grown hs.bo hg (Ne.symm n4)
 exact ⟨blk_far m1 (p := ⟨go, 0, none⟩) (blk_ne m1 m4 (by decide)) _, blk_far m2 (p := ⟨go, 0, none⟩) (blk_ne m2 m4 (by decide)) _, blk_far m3 (p := ⟨go, 0, none⟩) (blk_ne m3 m4 (by decide)) _, blk_put m4 0 _ rfl,
  Kd.R_set (Kd.R_over' hs.hm hs.typo (by decide) hg) m4 (by decide) 0 _, Kd.R_set ho m4 (by decide) 0 _, below_set hB hs.geo, hs.gem, hs.geb, hs.gev, hs.geo, hs.hx, hs.hc⟩
end
abbrev OrderMay (go : Nat) (vm vo : Value) : Nat → Prop := fun b => b = go ∨ vm.ownBlock = some b ∨ vo.ownBlock = some b
set_option maxHeartbeats 8000000 in
set_option maxRecDepth 100000 in
theorem flow_Order_1.calls (k : Nat) : ∀ (x : List (List SIns)) (i : Int) (met : List Bool) (out : List Int) (met' : List Bool) (out' : List Int) (w0 w : World) (gm gb gv go : Nat) (vm vo : Value) (A : Option Addr) (c : Nat)
 (h : flow_Order_1.f k x i met out = some (met', out')) (hs : OrderSt w0 w gm gb gv go vm vo A c x met out),
 Calls Try.prog 8 #[.int .i64 i, .pointer (some ⟨gm, 0, none⟩), .pointer (some ⟨gb, 0, none⟩), .pointer (some ⟨gv, 0, none⟩), .pointer (some ⟨go, 0, none⟩)] w fun e w' =>
  e = .returned (.tuple #[]) ∧ ∃ vo', OrderSt w0 w' gm gb gv go vm vo' A c x met' out' ∧ Kept w w' (OrderMay go vm vo) ∧ ∀ b, vo'.ownBlock = some b → vo.ownBlock = some b ∨ w.heap.size ≤ b := by
 induction k using Nat.strongRecOn with
 | _ k ih =>
 intro x i met out met' out' w0 w gm gb gv go vm vo A c h hs
 cases k with
 | zero => exact absurd h (by simp [flow_Order_1.f])
 | succ k =>
 simp only [flow_Order_1.f] at h
 by_cases c1 : ¬ 0 ≤ i
 ·rw [zD c1] at h
  exact absurd h (by simp)
 replace c1 := Decidable.not_not.1 c1
 rw [zC c1] at h
 by_cases c2 : ¬ i < (met.length : Int)
 ·rw [zD c2] at h
  exact absurd h (by simp)
 replace c2 := Decidable.not_not.1 c2
 rw [zC c2] at h
 replace h := Option.bind_eq_some_iff.mp h
 obtain ⟨s, hsu, h⟩ := h
 have HSU := zA hsu
 have H := zA h
 have IH := zA ih
 clear hsu h ih
 obtain ⟨gx, cx, ex, gbx, glx, clx, HGx⟩ := Kd.R_form hs.hm (by omega)
 subst ex
 have HS := zA hs
 clear hs gbx glx HGx clx
 obtain ⟨hx0, hf0⟩ := Kd.R_celln false HS.out.hm i c1 c2
 have cm : w.cell? ⟨gm, 0, none⟩ = some _ := blk_cell HS.out.bm 0
 have HS1 := zA (HS.out.putm i true)
 go_enter Try.func8, Try.ntmps8
 go_wp2_with (first
  | ((with_reducible refine gate_store (t := 4) (p := 10) rfl ?_); refine store_event (t := 4) (p := 10) (v := ?vo_) (w1 := (w.setCell ⟨gx, i.toNat, none⟩ (.bool true))) ?hg ?ho ?hn ?hr ?_; (case ho => rfl); (case hg => rfl); (case hn => rfl); (case hr => go_simp <;> rfl); intro w1 hw; rw [← hw] at HS1; have HK1 := zA (hw ▸ Kept.setCell (S := OrderMay go (.slice (some ⟨gx, 0, none⟩) met.length cx) vo) (Kept.refl w _) (.inl (.inr (.inl (by simp [Value.ownBlock])))) _); clear hw cm hx0 hf0; have cb : w1.cell? ⟨gb, 0, none⟩ = some _ := blk_cell HS1.out.bb 0)
  | ((with_reducible refine gate_callee (f := 7) rfl ?_); refine goesL_ (some 13) rfl rfl Try.func7 (by kernel_rfl) rfl #[.slice A x.length c, .int .i64 i] rfl (by (try simp only [List.map_toArray, List.map_cons, List.map_nil]); first | done | rfl) ?_; (with_reducible refine (flow_Succs.calls k _ _ x i s _ ?side1 ?side2 HSU.out).mono ?_); (case side1 => repeat (first | exact (Kd.C_below HS1.out.hx HS1.out.hB) | (with_reducible refine Kd.C_alloc ?_ _) | (with_reducible refine Kd.C_drewN ?_ _) | (with_reducible refine Kd.C_drew ?_))); (case side2 => exact HS1.out.hc); rintro e w2 ⟨v0, rfl, ho0, hb⟩; refine ⟨_, rfl, ?_⟩;
      obtain ⟨As, cs, es⟩ := Kd.R_slice ho0; subst es; have HS2 := zA (HS1.out.below hb); have HK2 := zA (Kept.below HK1.out hb);
      have HR := zA (show Kd.R (Kd.int .i64) 3 w2 0 (fun k_ => k_ ≠ go ∧ some k_ ≠ (Value.slice (some ⟨gx, 0, none⟩) met.length cx).ownBlock ∧ some k_ ≠ vo.ownBlock) (.slice As s.length cs) s from Kd.R_lower (Kd.R_mono (Kd.R_bound ho0) (fun k_ hk => ⟨fun e_ => by have := blk_lt HS1.out.bo; omega, fun e_ => by have := Kd.R_lt HS1.out.hm k_ e_.symm; omega, fun e_ => by have := Kd.R_lt HS1.out.ho k_ e_.symm; omega⟩)) (Nat.zero_le _));
      clear HS1 HK1 ho0 hb HSU cb))
 go_loopg [15] k (fun kq v15 w' => ∃ (met1 : List Bool) (out1 : List Int) (vo1 : Value) (j : Int), v15 = .int .i64 j ∧ Aside0 (flow_Order_1.l0 kq x i met1 out1 s j = some (met', out')) ∧ Aside0 (kq ≤ k) ∧
  Aside0 (OrderSt w0 w' gm gb gv go (.slice (some ⟨gx, 0, none⟩) met.length cx) vo1 A c x met1 out1) ∧ Aside0 (Kept w w' (OrderMay go (.slice (some ⟨gx, 0, none⟩) met.length cx) vo)) ∧
  Aside0 (∀ b, vo1.ownBlock = some b → vo.ownBlock = some b ∨ w.heap.size ≤ b) ∧
  Aside0 (Kd.R (Kd.int .i64) 3 w' 0 (fun k_ => k_ ≠ go ∧ some k_ ≠ (Value.slice (some ⟨gx, 0, none⟩) met.length cx).ownBlock ∧ some k_ ≠ vo1.ownBlock) (.slice As s.length cs) s))
 case atStart => exact ⟨_, _, _, 0, by first | rfl | simp, H, ⟨Nat.le_refl _⟩, HS2, HK2, ⟨fun _ h => .inl h⟩, HR⟩
 case round =>
  clear H HS2 HK2 HR
  obtain ⟨met1, out1, vo1, j, rfl, HA, HK1, HS1, HK, HV, HR⟩ := hrel
  cases gk with
  | zero => exact absurd HA.out (by simp [flow_Order_1.l0])
  | succ k1 =>
   have H := HA.out
   clear HA
   simp only [flow_Order_1.l0] at H
   by_cases c3 : j < (s.length : Int)
   ·rw [zC c3] at H
    have c3b0 : decide (j < (s.length : Int)) = true := zF c3
    by_cases c4 : ¬ 0 ≤ j
    ·rw [zD c4] at H
     exact absurd H (by simp)
    replace c4 := Decidable.not_not.1 c4
    rw [zC c4] at H
    by_cases c5 : ¬ 0 ≤ rd s j
    ·rw [zD c5] at H
     exact absurd H (by simp)
    replace c5 := Decidable.not_not.1 c5
    rw [zC c5] at H
    by_cases c6 : ¬ rd s j < (met1.length : Int)
    ·rw [zD c6] at H
     exact absurd H (by simp)
    replace c6 := Decidable.not_not.1 c6
    rw [zC c6] at H
    obtain ⟨ad, ea, hx1⟩ := Kd.at_int (Kd.R_reads' HR.out).2.2 j c4 c3
    cases ea
    replace c6 : rd s j < (met.length : Int) := by have := (Kd.R_reads' HS1.out.hm).1; omega
    obtain ⟨hx2, hf2⟩ := Kd.R_celln false HS1.out.hm (rd s j) c5 c6
    have cm : wr.cell? ⟨gm, 0, none⟩ = some _ := blk_cell HS1.out.bm 0
    have cv : wr.cell? ⟨gv, 0, none⟩ = some _ := blk_cell HS1.out.bv 0
    by_cases c7 : rdOf false met1 (rd s j) = true
    ·rw [zC c7] at H
     have H' := zA H
     clear H
     have c7b : (!rdOf false met1 (rd s j)) = false := by rw [c7]; rfl
     clear c7
     go_wp2_with fail
     go_roundg k1
     case measure => have := HK1.out; omega
     case rel => exact ⟨met1, out1, vo1, _, by first | rfl | simp, H', ⟨by have := HK1.out; omega⟩, HS1, HK, HV, HR⟩
    ·rw [zD c7] at H
     replace H := Option.bind_eq_some_iff.mp H
     obtain ⟨b, hb0, H⟩ := H
     have H' := zA H
     have HB0 := zA hb0
     clear H hb0
     have c7b : (!rdOf false met1 (rd s j)) = true := by rw [Bool.eq_false_iff.mpr c7]; rfl
     clear c7
     go_wp2_with fail
     refine (IH.out k1 (by have := HK1.out; omega) x (rd s j) met1 out1 b.1 b.2 w0 wr gm gb gv go _ vo1 A c HB0.out HS1.out).mono ?_
     rintro e w3 ⟨rfl, vo3, hs3, hk3, hv3⟩
     have HS3 := zA hs3
     have HK3 := zA (Kept.then_ HK.out hk3 (fun b hb => by
      rcases hb with hb | hb | hb
      ·exact .inl (.inl hb)
      ·exact .inl (.inr (.inl hb))
      ·rcases HV.out b hb with h | h
       ·exact .inl (.inr (.inr h))
       ·exact .inr h))
     have HV3 := zA (show ∀ b, vo3.ownBlock = some b → vo.ownBlock = some b ∨ w.heap.size ≤ b from fun b hb => by
      rcases hv3 b hb with h | h
      ·exact HV.out b h
      ·exact .inr (Nat.le_trans HK.out.1 h))
     have HR3 := zA (show Kd.R (Kd.int .i64) 3 w3 0 (fun k_ => k_ ≠ go ∧ some k_ ≠ (Value.slice (some ⟨gx, 0, none⟩) met.length cx).ownBlock ∧ some k_ ≠ vo3.ownBlock) (.slice (some ad) s.length cs) s from
      Kd.R_mono (Kd.R_step (Kd.R_bound HR.out) (fun q hq hlt => hk3.2 q hlt (fun hm => by
       rcases hm with h | h | h
       ·exact hq.1.1 h
       ·exact hq.1.2.1 h.symm
       ·exact hq.1.2.2 h.symm))) (fun q hq => ⟨hq.1.1, hq.1.2.1, fun e_ => by
        rcases hv3 q e_.symm with h | h
        ·exact hq.1.2.2 h.symm
        ·have := hq.2.2.1; omega⟩))
     clear hs3 hk3 hv3 HS1 HK HV HR
     go_wp2_with fail
     go_roundg k1
     case measure => have := HK1.out; omega
     case rel => exact ⟨b.1, b.2, vo3, _, by first | rfl | simp, H', ⟨by have := HK1.out; omega⟩, HS3, HK3, HV3, HR3⟩
   ·rw [zD c3] at H
    have c3b0 : decide (j < (s.length : Int)) = false := zG c3
    by_cases c4 : ¬ out1.length < 17592186044416
    ·rw [zD c4] at H
     exact absurd H (by simp)
    replace c4 := Decidable.not_not.1 c4
    rw [zC c4] at H
    have HE := zA (Prod.mk.inj (zI H))
    have HL := zA c4
    clear H c4
    obtain ⟨y, hy⟩ : ∃ y_ : List Int, y_ = out1 ++ [i] := ⟨_, rfl⟩
    have NY := zA hy
    clear hy
    have co : wr.cell? ⟨go, 0, none⟩ = some vo1 := blk_cell HS1.out.bo 0
    have fo : wr.frozen? ⟨go, 0, none⟩ = false := blk_frozen HS1.out.bo 0
    go_wp2_with (first
     | ((with_reducible refine gate_builtin (b := .append) (xs := #[.tmp 28, .tmp 30]) rfl ?_); at_builtin; (refine Kd.R_append (Kd.int .i64) (w0 := w0) w0.heap.size rfl (.tmp 28) (.tmp 30) 25 3 (.int .i64 0) 8 rfl Try.underlying25 info3 rfl (by decide) (by omega) vo1 out1 i [.int .i64 i] (fun _ => True) (fun _ => False) rfl rfl ?aP (fun _ hk => hk.elim) ?aF ?aO ?aB ?aS ?aL ?_; (case aP => exact rfl); (case aF => exact fun _ _ => trivial); (case aO => exact HS1.out.ho); (case aB => exact HS1.out.hB); (case aS => exact below_size HS1.out.hB); (case aL => have := HL.out; omega); intro v1 w3 ho3 hb3 hg3 hat3; rw [← NY.out] at ho3; obtain ⟨A4, c4, e4⟩ := Kd.R_slice ho3; subst e4; have HS3 := zA (HS1.out.app ho3 hb3 hg3); have HK3 := zA (Kept.of_grown (S := OrderMay go (.slice (some ⟨gx, 0, none⟩) met.length cx) vo) hg3 HK.out (fun b hb => by rcases HV.out b hb with h | h; (exact .inl (.inr (.inr h))); exact .inr h)); have HV3 := zA (show ∀ b, (Value.slice A4 y.length c4).ownBlock = some b → vo.ownBlock = some b ∨ w.heap.size ≤ b from fun b hb => by rcases hat3 with h | ⟨q, h, hq⟩; (exact HV.out b (h ▸ hb)); (have := HK.out.1; have e_ : b = q := by rw [h] at hb; exact (zI hb).symm); (right; omega)); have fo3 : w3.frozen? ⟨go, 0, none⟩ = false := blk_frozen (blk_grown HS1.out.bo hg3 (Ne.symm (ne_own HS1.out.bo HS1.out.typo (by decide)))) 0; have co3 : w3.cell? ⟨go, 0, none⟩ = some vo1 := blk_cell (blk_grown HS1.out.bo hg3 (Ne.symm (ne_own HS1.out.bo HS1.out.typo (by decide)))) 0; clear ho3 hb3 hg3 hat3 HS1 HK HV HR co fo)))
    first | go_end0 | ((try simp only [Exit.inBlock, Exit.then]); refine bodyPost_ret (results_none rfl _ _ _) rfl ?_)
    obtain ⟨e1, e2⟩ := HE.out
    rw [← NY.out] at e2
    subst e1 e2
    exact ⟨rfl, _, HS3.out, Kept.setCell HK3.out (.inl (.inl rfl)) _, HV3.out⟩
def flow_Order.f (k : Nat) (l0 : List (List SIns)) : Option (List Int) :=
 if (l0.length : Int) = 0 then some []
 else if l0.length ≤ 281474976710656 then (flow_Order_1.f k l0 0 (List.replicate l0.length false) []).bind fun b => slices_Reverse_int_int.f k b.2
 else none
set_option maxHeartbeats 8000000 in
set_option maxRecDepth 100000 in
theorem flow_Order.calls (k : Nat) (A0 : Option Addr) (c0 : Nat) (l0 : List (List SIns)) (r : List Int) (w : World) (hr0 : Kd.C (Kd.slice 27 kIns) w A0 l0.length l0) (hc0 : l0.length ≤ c0) (h : flow_Order.f k l0 = some r) :
 Calls Try.prog 4 #[.slice A0 l0.length c0] w fun e w' => ∃ v0_ : Value, e = .returned (v0_) ∧ Kd.R (Kd.int .i64) 3 w' w.heap.size (fun _ => True) v0_ r ∧ Below w.heap.size w w' := by
 have HR0 := zA hr0
 have HC0 := zA hc0
 clear hr0 hc0
 unfold flow_Order.f at h
 by_cases c1 : (l0.length : Int) = 0
 ·rw [zC c1] at h
  obtain rfl := zI h
  have c1b : ((l0.length : Int) == 0) = true := beq_iff_eq.mpr c1
  have c1n : (l0.length == 0) = true := beq_iff_eq.mpr (by omega)
  clear c1 h
  go_enter Try.func4, Try.ntmps4
  go_wp2_with fail
  go_ret
  exact ⟨_, rfl, Kd.R_nil _ _ _ _ _, (Below.refl _ _).alloc (Nat.le_refl _) _⟩
 ·rw [zD c1] at h
  by_cases c2 : ¬ l0.length ≤ 281474976710656
  ·rw [zD c2] at h
   exact absurd h (by simp)
  replace c2 := Decidable.not_not.1 c2
  rw [zC c2] at h
  obtain ⟨b, hb, h⟩ := Option.bind_eq_some_iff.mp h
  have H := zA h
  have HB0 := zA hb
  clear h hb
  have c1b : ((l0.length : Int) == 0) = false := beq_eq_false_iff_ne.mpr c1
  have c1n : (l0.length == 0) = false := beq_eq_false_iff_ne.mpr (by omega)
  clear c1
  have hmf : ∀ (fn : Fn) (first cap : Array Value) (w : World), (Instr.makeFunc fn first cap).run Try.prog w = .ok (.func fn first cap) w := fun _ _ _ _ => rfl
  go_enter Try.func4, Try.ntmps4
  have hsf := fun (a : Addr) (c : Array Value) (w : World) => run_store Try.prog w a (.func (.func 8) #[] c) .plain rfl
  have HBz := zA (Below.refl w.heap.size w)
  go_wp2_with (first
   | ((with_reducible refine gate_dst (N := 1) rfl ?_); refine box_event ?hg (N := 1) ?hd (cs := #[.slice A0 l0.length c0]) (t := 23) ?hr ?_; (case hd => rfl); (case hg => rfl); (case hr => go_simp <;> rfl); intro gb hg w1 hbox hb; have HB1 := zA hb; have BB1 := zA hbox; have EB := zA hg; clear hb hbox hg HBz; have cb : w1.cell? ⟨gb, 0, none⟩ = some _ := blk_cell BB1.out 0)
   | ((with_reducible refine gate_dst (N := 11) rfl ?_); refine Kd.R_make Kd.bool _ 4 rfl (N := 11) rfl 33 _ _ rfl (l0.length : Int) rfl rfl Try.underlying33 (.bool false) 1 info4 rfl (by decide) (by omega) false (ok := fun _ => True) (okp := fun _ => True) rfl (fun _ hk => hk) trivial (by omega) (by omega) (Below.refl _ _) (Nat.le_refl _) ?_; intro vm w2 ho hb hg_ hnew_; rw [show ((l0.length : Int)).toNat = l0.length from by omega] at ho; obtain ⟨Am, cm, em⟩ := Kd.R_slice ho; subst em; have HB2 := zA (below_step HB1.out hb); have BB2 := zA (blk_below BB1.out hb); have HM2 := zA (Kd.R_lower ho (below_size HB1.out)); have GB := zA (show w.heap.size ≤ gb by rw [EB.out]; exact Nat.le_refl _); clear hg_ hnew_ HB1 BB1 cb hb ho EB)
   | ((with_reducible refine gate_dst (N := 3) rfl ?_); refine box_event ?hg (N := 3) ?hd (cs := #[.slice none 0 0]) (t := 33) ?hr ?_; (case hd => rfl); (case hg => rfl); (case hr => go_simp <;> rfl); intro gm hg w3 hbox hb; have HB3 := zA (below_step HB2.out hb); have BB3 := zA (blk_below BB2.out hb); have HM3 := zA (Kd.R_below HM2.out hb); have BM3 := zA hbox; have GM := zA (show w.heap.size ≤ gm by rw [hg]; exact below_size HB2.out); clear hb hbox hg HB2 BB2 HM2; have cm3 : w3.cell? ⟨gm, 0, none⟩ = some _ := blk_cell BM3.out 0; have fm3 : w3.frozen? ⟨gm, 0, none⟩ = false := blk_frozen BM3.out 0)
   | ((with_reducible refine gate_store (t := 33) (p := 3) rfl ?_); refine store_event (t := 33) (p := 3) (v := ?vo_) (w1 := (w3.setCell ⟨gm, 0, none⟩ (.slice Am (List.replicate l0.length false).length cm))) ?hg ?ho ?hn ?hr ?_; (case ho => rfl); (case hg => rfl); (case hn => rfl); (case hr => go_simp <;> rfl); intro w4 hw; have BM4 := zA (hw ▸ blk_put BM3.out 0 _ rfl : w4.heap[gm]? = some (.cells #[.slice Am (List.replicate l0.length false).length cm] 33 (0, 0))); have BB4 := zA (hw ▸ blk_far BB3.out (p := ⟨gm, 0, none⟩) (blk_ne BB3.out BM3.out (by decide)) _ : w4.heap[gb]? = some _); have HM4 := zA (hw ▸ Kd.R_set HM3.out BM3.out (by decide) 0 _ : Kd.R Kd.bool 4 w4 _ _ _ _); have HB4 := zA (hw ▸ below_set HB3.out GM.out : Below w.heap.size w w4); clear hw HB3 BB3 HM3 BM3 cm3 fm3))
  have hst : OrderSt w ((w4.alloc (.cells #[.slice none 0 0] 25)).alloc (.cells #[.func (.func 8) #[] #[.pointer (some ⟨gm, 0, none⟩), .pointer (some ⟨gb, 0, none⟩), .pointer (some ⟨w4.heap.size + 1, 0, none⟩), .pointer (some ⟨w4.heap.size, 0, none⟩)]] 34)) gm gb (w4.heap.size + 1) w4.heap.size
   (.slice Am (List.replicate l0.length false).length cm) (.slice none 0 0) A0 c0 l0 (List.replicate l0.length false) [] :=
   ⟨blk_alloc (blk_alloc BM4.out _) _, blk_alloc (blk_alloc BB4.out _) _, by have h := blk_new (w4.alloc (.cells #[.slice none 0 0] 25)) (.cells #[.func (.func 8) #[] #[.pointer (some ⟨gm, 0, none⟩), .pointer (some ⟨gb, 0, none⟩), .pointer (some ⟨w4.heap.size + 1, 0, none⟩), .pointer (some ⟨w4.heap.size, 0, none⟩)]] 34); simpa using h,
    blk_alloc (blk_new w4 _) _, Kd.R_alloc (Kd.R_alloc HM4.out _) _, Kd.R_nil _ _ _ _ _, below_alloc (below_alloc HB4.out _) _, GM.out, GB.out, by have := below_size HB4.out; omega, below_size HB4.out, HR0.out, HC0.out⟩
  refine (flow_Order_1.calls k l0 0 _ [] b.1 b.2 w _ gm gb _ _ _ _ A0 c0 HB0.out hst).mono ?_
  rintro e w6 ⟨rfl, vo6, hs6, -, -⟩
  clear hst BM4 BB4 HM4 HB4 hmf hsf
  obtain ⟨A6, c6, e6⟩ := Kd.R_slice hs6.ho
  subst e6
  have HS6 := zA hs6
  clear hs6
  have co : w6.cell? ⟨w4.heap.size, 0, none⟩ = some _ := blk_cell HS6.out.bo 0
  go_wp2_with ((with_reducible refine gate_callee (f := 9) rfl ?_); refine goesL_ (some 16) rfl rfl Try.func9 (by kernel_rfl) rfl #[.slice A6 b.2.length c6] rfl (by (try simp only [List.map_toArray, List.map_cons, List.map_nil]); first | done | rfl) ?_; (refine (slices_Reverse_int_int.calls k (fun k_ => some k_ = (Value.slice A6 b.2.length c6).ownBlock) _ b.2 r w w6 HS6.out.hB (Kd.R_tight rfl HS6.out.ho) H.out).mono ?_); rintro e w7 ⟨rfl, ho7, hb7, hk7⟩; refine ⟨_, rfl, ?_⟩; have HO7 := zA ho7; have HB7 := zA hb7; have co7 : w7.cell? ⟨w4.heap.size, 0, none⟩ = some _ := blk_cell (blk_kept HS6.out.bo hk7 (fun e_ => ne_own HS6.out.bo HS6.out.typo (by decide) e_.symm)) 0; clear ho7 hb7 hk7 HS6 co)
  go_ret
  exact ⟨_, rfl, Kd.R_mono HO7.out (fun _ _ => trivial), HB7.out⟩
end Go.Proofs.Ythidcafbhjahdaa.Q
namespace Go.Proofs.Ythidcafbhjahdaa.Q
open Go.RowKit Go.Proofs.YthidcafbhjahdaaW.PrintWords Go.Proofs.YthidcafbhjahdaaW.PrintLast Go.Proofs.YthidcafbhjahdaaW.PrintMore
attribute [local go_sem] max2_int min2_int max_two min_two max_three min_three max_four min_four
set_option linter.unusedVariables false
set_option linter.unusedSimpArgs false

def cubbyref07_Targets.f (a0_0 : Int) (a0_1 : Int) (a0_2 : Int) (a0_3 : Int) (a0_4 : ByteArray) (l0_5 : List Int) : Option (List Int) := (some (([] : List Int) : List Int)).bind fun y109 => (if a0_0 = 12 then (if y109.length < 17592186044416 then (some (y109 ++ [a0_2])) else (none)) else (if a0_0 = 13 then ((some (([a0_3, a0_1] : List Int) : List Int)).bind fun y115 => (if y109.length + y115.length < 17592186044416 then (some (y109 ++ y115)) else (none))) else (some y109)))
set_option maxHeartbeats 8000000 in
set_option maxRecDepth 100000 in
theorem cubbyref07_Targets.calls (a0_0 : Int) (a0_1 : Int) (a0_2 : Int) (a0_3 : Int) (a0_4 : ByteArray) (A0_5 : Option Addr) (c0_5 : Nat) (l0_5 : List Int) (r : List Int) (w : World) (hr0_5 : Kd.C (Kd.int .i64) w A0_5 l0_5.length l0_5) (hc0_5 : l0_5.length ≤ c0_5) (h : cubbyref07_Targets.f a0_0 a0_1 a0_2 a0_3 a0_4 l0_5 = some r) :
 Calls Try.prog 16 #[.agg #[.int .i64 a0_0, .int .i64 a0_1, .int .i64 a0_2, .int .i64 a0_3, .string a0_4, .slice A0_5 l0_5.length c0_5]] w fun e w' => ∃ v0_ : Value, e = .returned (v0_) ∧ Kd.R (Kd.int .i64) 3 w' w.heap.size (fun _ => True) v0_ r ∧ Below w.heap.size w w' := by
 have hu27 := Try.underlying27
 have HR0_5 := zA hr0_5
 have HC0_5 := zA hc0_5
 clear hr0_5 hc0_5
 have HB := zA (Below.refl w.heap.size w)
 have H := h; clear h; unfold cubbyref07_Targets.f at H
 obtain ⟨y109, hy109⟩ : ∃ y_ : List Int, y_ = (([] : List Int)) := ⟨_, rfl⟩
 replace H : (if a0_0 = 12 then (if y109.length < 17592186044416 then (some (y109 ++ [a0_2])) else (none)) else (if a0_0 = 13 then ((some (([a0_3, a0_1] : List Int) : List Int)).bind fun y115 => (if y109.length + y115.length < 17592186044416 then (some (y109 ++ y115)) else (none))) else (some y109))) = some r := by (try rw [hy109]); first | with_reducible exact H | exact (zJ _ _).symm.trans H | exact H
 have Ny109 := zA hy109
 clear hy109
 by_cases c2 : a0_0 = 12
 ·rw [zC c2] at H
  obtain ⟨c2b0, c2b1⟩ := qe c2; clear c2
  by_cases c3 : y109.length < 17592186044416
  ·rw [zC c3] at H
   have LMc3 := zA c3
   clear c3
   obtain ⟨y112, hy112⟩ : ∃ y_ : List Int, y_ = (y109 ++ [a0_2]) := ⟨_, rfl⟩
   replace H : (some y112) = some r := by (try rw [hy112]); first | with_reducible exact H | exact (zJ _ _).symm.trans H | exact H
   have Ny112 := zA hy112
   clear hy112
   obtain rfl := zI H
   go_enter Try.func16, Try.ntmps16
   go_wp2_with (first | ((with_reducible refine gate_dst (N := 1) rfl ?_); refine box_event (by rfl) (N := 1) (by rfl) (cs := #[.int .i64 a0_0, .int .i64 a0_1, .int .i64 a0_2, .int .i64 a0_3, .string a0_4, .slice A0_5 l0_5.length c0_5]) (t := 27) ?hr ?_; (case hr => go_simp <;> rfl); intro gb108 hg w4 hbox hb; have BK108 := zA (hbox); have GW108 := qG hg; have GE108 := GW108; replace HB := qH hb; clear hb hbox hg) | ((with_reducible refine gate_dst (N := 4) rfl ?_); refine Kd.R_lit (Kd.int .i64) _ 3 (by rfl) (N := 4) (by rfl) (xs := ([] : List Int)) (inner := []) (ok := fun _ => True) (okp := fun _ => True) ?hr ?hp (fun _ hk => hk) trivial (Below.refl _ _) (Nat.le_refl _) (by simp) ?_; (case hr => go_simp <;> rfl); (case hp => exact (Reps.none _ _)); intro v110 w5 ho6 hb hg_ hnew_; clear hg_ hnew_; (first | rw [← Ny109.out] at ho6 | (simp only [Int.reduceToNat] at ho6; rw [← Ny109.out] at ho6)); have HO111 := zA (Kd.R_lower ho6 (below_size qB)); replace BK108 := qW BK108 hb; replace HB := qH hb; clear hb ho6; have z7_0 := bk6 BK108.out) | ((with_reducible refine gate_builtin (b := .append) (xs := #[.tmp 8, .tmp 11]) rfl ?_); at_builtin; refine Kd.R_append (Kd.int .i64) (w0 := w) w.heap.size rfl (.tmp 8) (.tmp 11) 25 3 (.int .i64 0) 8 rfl Try.underlying25 info3 rfl (by decide) (by omega) v110 y109 a0_2 [.int .i64 a0_2] (fun _ => True) (fun _ => False) rfl rfl ?aP (fun _ hk => hk.elim) ?aF ?aO ?aB ?aS ?aL ?_; (case aP => exact rfl); (case aB => exact qB); (case aF => exact (fun _ _ => trivial)); (case aO => exact (qR HO111.out)); (case aS => exact (below_size qB)); (case aL => have := LMc3.out; omega); intro v113 w8 ho hb hg hat; rw [← Ny112.out] at ho; replace BK108 := zA (blk_grown (qK BK108.out) hg (Kd.R_ne HO111.out BK108.out (by decide))); replace HB := zA (hb); have HO114 := zA (ho); clear HO111; clear ho hb hg hat))
   go_ret
   exact ⟨_, qE, qR HO114.out, qB⟩
  ·rw [zD c3] at H
   exact absurd H (by simp)
 ·rw [zD c2] at H
  obtain ⟨c2b0, c2b1⟩ := qn c2
  by_cases c9 : a0_0 = 13
  ·rw [zC c9] at H
   obtain ⟨c9b0, c9b1⟩ := qe c9; clear c9
   obtain ⟨y115, hy115⟩ : ∃ y_ : List Int, y_ = (([a0_3, a0_1] : List Int)) := ⟨_, rfl⟩
   replace H : (if y109.length + y115.length < 17592186044416 then (some (y109 ++ y115)) else (none)) = some r := by (try rw [hy115]); first | with_reducible exact H | exact (zJ _ _).symm.trans H | exact H
   have Ny115 := zA hy115
   clear hy115
   by_cases c10 : y109.length + y115.length < 17592186044416
   ·rw [zC c10] at H
    have LMc10 := zA c10
    clear c10
    obtain ⟨y118, hy118⟩ : ∃ y_ : List Int, y_ = (y109 ++ y115) := ⟨_, rfl⟩
    replace H : (some y118) = some r := by (try rw [hy118]); first | with_reducible exact H | exact (zJ _ _).symm.trans H | exact H
    have Ny118 := zA hy118
    clear hy118
    obtain rfl := zI H
    go_enter Try.func16, Try.ntmps16
    go_wp2_with (first | ((with_reducible refine gate_dst (N := 1) rfl ?_); refine box_event (by rfl) (N := 1) (by rfl) (cs := #[.int .i64 a0_0, .int .i64 a0_1, .int .i64 a0_2, .int .i64 a0_3, .string a0_4, .slice A0_5 l0_5.length c0_5]) (t := 27) ?hr ?_; (case hr => go_simp <;> rfl); intro gb108 hg w11 hbox hb; have BK108 := zA (hbox); have GW108 := qG hg; have GE108 := GW108; replace HB := qH hb; clear hb hbox hg) | ((with_reducible refine gate_dst (N := 4) rfl ?_); refine Kd.R_lit (Kd.int .i64) _ 3 (by rfl) (N := 4) (by rfl) (xs := ([] : List Int)) (inner := []) (ok := fun _ => True) (okp := fun _ => True) ?hr ?hp (fun _ hk => hk) trivial (Below.refl _ _) (Nat.le_refl _) (by simp) ?_; (case hr => go_simp <;> rfl); (case hp => exact (Reps.none _ _)); intro v110 w12 ho13 hb hg_ hnew_; clear hg_ hnew_; (first | rw [← Ny109.out] at ho13 | (simp only [Int.reduceToNat] at ho13; rw [← Ny109.out] at ho13)); have HO111 := zA (Kd.R_lower ho13 (below_size qB)); replace BK108 := qW BK108 hb; replace HB := qH hb; clear hb ho13; have z14_0 := bk6 BK108.out) | ((with_reducible refine gate_dst (N := 21) rfl ?_); refine Kd.R_lit (Kd.int .i64) _ 3 (by rfl) (N := 21) (by rfl) (xs := ([a0_3, a0_1] : List Int)) (inner := [.int .i64 a0_3, .int .i64 a0_1]) (ok := fun _ => True) (okp := fun _ => True) ?hr ?hp (fun _ hk => hk) trivial (Below.refl _ _) (Nat.le_refl _) (by simp) ?_; (case hr => go_simp <;> rfl); (case hp => exact (Reps.one (show Kd.M (Kd.int .i64) _ _ _ a0_3 [.int .i64 a0_3] from rfl) (Reps.one (show Kd.M (Kd.int .i64) _ _ _ a0_1 [.int .i64 a0_1] from rfl) (Reps.none _ _)))); intro v116 w15 ho16 hb hg_ hnew_; clear hg_ hnew_; (first | rw [← Ny115.out] at ho16 | (simp only [Int.reduceToNat] at ho16; rw [← Ny115.out] at ho16)); have HO117 := zA (Kd.R_lower (Kd.R_new' ho16 (Kd.R_lt (qR HO111.out))) (below_size qB)); replace HO111 := zA (Kd.R_elder' (qR HO111.out) (Kd.R_base ho16) hb); replace BK108 := qW BK108 hb; replace HB := qH hb; clear hb ho16; obtain ⟨Ao18, co18, eo18⟩ := Kd.R_slice HO117.out; subst eo18) | ((with_reducible refine gate_builtin (b := .append) (xs := #[.tmp 16, .tmp 21]) rfl ?_); at_builtin; refine Kd.R_append_rows (Kd.int .i64) (w0 := w) w.heap.size rfl (.tmp 16) (.tmp 21) 25 3 (.int .i64 0) 8 rfl Try.underlying25 info3 rfl (by decide) (by omega) v110 y109 y115 _ _ _ (fun k_ => some k_ ≠ (.slice Ao18 y115.length co18 : Value).ownBlock) (fun _ => False) rfl rfl ?aO ?aR (fun _ _ h => h) (fun _ h => h.elim) ?aF ?aB ?aS ?aL ?_; (case aR => repeat (first | exact (Kd.R_reads' HO117.out).2.2 | (with_reducible refine Kd.C_alloc ?_ _) | (with_reducible refine Kd.C_drewN ?_ _) | (with_reducible refine Kd.C_drew ?_))); (case aB => exact qB); (case aF => exact (fun k_ hk => Kd.fresh' (Kd.R_lt (qR HO117.out)) k_ hk)); (case aO => exact (by (with_reducible repeat (first | apply Kd.R_alloc | apply Kd.R_drewN | apply Kd.R_drew)); exact Kd.R_mono HO111.out (fun _ hk => hk.2))); (case aS => exact (below_size qB)); (case aL => have := LMc10.out; omega); intro v119 w17 ho hb hg hat; rw [← Ny118.out] at ho; replace BK108 := zA (blk_grown (qK BK108.out) hg (Kd.R_ne HO111.out BK108.out (by decide))); replace HO117 := zA (Kd.R_after (ok := (fun _ => True)) (qR HO117.out) hg hat); replace HB := zA (hb); have HO120 := zA (ho); clear HO111; clear ho hb hg hat))
    go_ret
    exact ⟨_, qE, by (with_reducible repeat (first | apply Kd.R_alloc | apply Kd.R_drewN | apply Kd.R_drew)); exact Kd.R_mono HO120.out (fun _ hk => trivial), qB⟩
   ·rw [zD c10] at H
    exact absurd H (by simp)
  ·rw [zD c9] at H
   obtain ⟨c9b0, c9b1⟩ := qn c9
   obtain rfl := zI H
   go_enter Try.func16, Try.ntmps16
   go_wp2_with (first | ((with_reducible refine gate_dst (N := 1) rfl ?_); refine box_event (by rfl) (N := 1) (by rfl) (cs := #[.int .i64 a0_0, .int .i64 a0_1, .int .i64 a0_2, .int .i64 a0_3, .string a0_4, .slice A0_5 l0_5.length c0_5]) (t := 27) ?hr ?_; (case hr => go_simp <;> rfl); intro gb108 hg w19 hbox hb; have BK108 := zA (hbox); have GW108 := qG hg; have GE108 := GW108; replace HB := qH hb; clear hb hbox hg) | ((with_reducible refine gate_dst (N := 4) rfl ?_); refine Kd.R_lit (Kd.int .i64) _ 3 (by rfl) (N := 4) (by rfl) (xs := ([] : List Int)) (inner := []) (ok := fun _ => True) (okp := fun _ => True) ?hr ?hp (fun _ hk => hk) trivial (Below.refl _ _) (Nat.le_refl _) (by simp) ?_; (case hr => go_simp <;> rfl); (case hp => exact (Reps.none _ _)); intro v110 w20 ho21 hb hg_ hnew_; clear hg_ hnew_; (first | rw [← Ny109.out] at ho21 | (simp only [Int.reduceToNat] at ho21; rw [← Ny109.out] at ho21)); have HO111 := zA (Kd.R_lower ho21 (below_size qB)); replace BK108 := qW BK108 hb; replace HB := qH hb; clear hb ho21; have z22_0 := bk6 BK108.out))
   go_ret
   exact ⟨_, qE, qR HO111.out, qB⟩

def cubbyref09_has.l0 : Nat → List Int → Int → Int → Option (Bool)
 | 0, _, _, _ => none
 | k + 1, x0, x1, x5 => if x5 < (x0.length : Int) then (if 0 ≤ x5 then (if (rd x0 x5) = x1 then (some true) else (cubbyref09_has.l0 k x0 x1 (wrap64 (x5 + 1)))) else (none)) else (some false)
def cubbyref09_has.f (k : Nat) (l0 : List Int) (a1 : Int) : Option (Bool) := cubbyref09_has.l0 k l0 a1 0
set_option maxHeartbeats 8000000 in
set_option maxRecDepth 100000 in
theorem cubbyref09_has.calls (k : Nat) (A0 : Option Addr) (c0 : Nat) (l0 : List Int) (a1 : Int) (r : Bool) (w : World) (hr0 : Kd.C (Kd.int .i64) w A0 l0.length l0) (hc0 : l0.length ≤ c0) (h : cubbyref09_has.f k l0 a1 = some r) :
 Calls Try.prog 14 #[.slice A0 l0.length c0, .int .i64 a1] w fun e w' => e = .returned (.bool r) ∧ Drawn0 w w' := by
 have HR0 := zA hr0
 have HC0 := zA hc0
 clear hr0 hc0
 have H := h; clear h; unfold cubbyref09_has.f at H
 have H' := zA H
 clear H
 go_enter Try.func14, Try.ntmps14
 go_wp2
 go_loopg [5] k (fun kq v5 w' => ∃ (x5_1 : Int), v5 = .int .i64 x5_1 ∧ Aside0 (cubbyref09_has.l0 kq l0 a1 x5_1 = some r) ∧ Aside0 (kq ≤ k) ∧ Drawn0 w w')
 case atStart => exact ⟨(0), qT, H', ⟨Nat.le_refl _⟩, qD⟩
 case round =>
  clear H'
  obtain ⟨x5_1, rfl, HA, HK1, ⟨m1, rfl⟩⟩ := hrel
  cases gk with
  | zero => exact absurd HA.out (by simp [cubbyref09_has.l0])
  | succ k1 =>
   have H := HA.out
   clear HA
   simp only [cubbyref09_has.l0] at H
   by_cases c3 : x5_1 < (l0.length : Int)
   ·rw [zC c3] at H
    have c3b0 := zF c3
    clear c3
    by_cases c4 : 0 ≤ x5_1
    ·rw [zC c4] at H
     have c4b0 := zF c4
     clear c4
     by_cases c5 : (rd l0 x5_1) = a1
     ·rw [zC c5] at H
      obtain ⟨c5b0, c5b1⟩ := qe c5; clear c5
      obtain rfl := zI H
      have p107 : 0 ≤ (x5_1 : Int) := zB qA
      have q107 : x5_1 < (l0.length : Int) := zB qA
      obtain ⟨ad107, e107, hx107_0⟩ := Kd.at_int HR0.out x5_1 p107 q107
      cases e107
      replace p107 := eq_true p107
      replace q107 := eq_true q107
      go_wp2
      go_ret
      exact ⟨by first | rfl | (simp; done) | (simp [*]; done), qD⟩
     ·rw [zD c5] at H
      obtain ⟨c5b0, c5b1⟩ := qn c5
      have H' := zA H
      clear H
      have p107 : 0 ≤ (x5_1 : Int) := zB qA
      have q107 : x5_1 < (l0.length : Int) := zB qA
      obtain ⟨ad107, e107, hx107_0⟩ := Kd.at_int HR0.out x5_1 p107 q107
      cases e107
      replace p107 := eq_true p107
      replace q107 := eq_true q107
      go_wp2
      go_roundg k1
      case measure => have := HK1.out; omega
      case rel => exact ⟨(wrap64 (x5_1 + 1)), qT, H', ⟨by have := HK1.out; omega⟩, qD⟩
    ·rw [zD c4] at H
     exact absurd H (by simp)
   ·rw [zD c3] at H
    have c3b0 := zG c3
    clear c3
    obtain rfl := zI H
    go_wp2
    go_ret
    exact ⟨by first | rfl | (simp; done) | (simp [*]; done), qD⟩

mutual
def cubbyref09_Succs.j0 : Nat → List (List (SIns)) → Int → List Int → Bool → Option (List Int)
 | 0, _, _, _, _ => none
 | k + 1, x0, x1, x5, x24 => if x24 = true then (some x5) else (if 0 ≤ x1 then (if x1 < (x0.length : Int) then (if 0 ≤ (wrap64 (((rd_LIns x0 x1).length : Int) - 1)) then (if (wrap64 (((rd_LIns x0 x1).length : Int) - 1)) < ((rd_LIns x0 x1).length : Int) then ((cubbyref07_Targets.f ((rd_TIns (rd_LIns x0 x1) (wrap64 (((rd_LIns x0 x1).length : Int) - 1))).f0) ((rd_TIns (rd_LIns x0 x1) (wrap64 (((rd_LIns x0 x1).length : Int) - 1))).f1) ((rd_TIns (rd_LIns x0 x1) (wrap64 (((rd_LIns x0 x1).length : Int) - 1))).f2) ((rd_TIns (rd_LIns x0 x1) (wrap64 (((rd_LIns x0 x1).length : Int) - 1))).f3) ((rd_TIns (rd_LIns x0 x1) (wrap64 (((rd_LIns x0 x1).length : Int) - 1))).f4) ((rd_TIns (rd_LIns x0 x1) (wrap64 (((rd_LIns x0 x1).length : Int) - 1))).f5)).bind fun t128 => (cubbyref09_Succs.l0 k x0 x5 t128 0)) else (none)) else (none)) else (none)) else (none))
def cubbyref09_Succs.l0 : Nat → List (List (SIns)) → List Int → List Int → Int → Option (List Int)
 | 0, _, _, _, _ => none
 | k + 1, x0, x5, x6, x7 => if x7 < (x6.length : Int) then (if 0 ≤ x7 then (if (rd x6 x7) ≥ 0 then (if (rd x6 x7) < (x0.length : Int) then ((cubbyref09_has.f k x5 (rd x6 x7)).bind fun t134 => (if t134 = true then (cubbyref09_Succs.l0 k x0 x5 x6 (wrap64 (x7 + 1))) else (if x5.length < 17592186044416 then (cubbyref09_Succs.l0 k x0 (x5 ++ [rd x6 x7]) x6 (wrap64 (x7 + 1))) else (none)))) else (cubbyref09_Succs.l0 k x0 x5 x6 (wrap64 (x7 + 1)))) else (cubbyref09_Succs.l0 k x0 x5 x6 (wrap64 (x7 + 1)))) else (none)) else (some x5)
end
def cubbyref09_Succs.f (k : Nat) (l0 : List (List (SIns))) (a1 : Int) : Option (List Int) := (some (([] : List Int) : List Int)).bind fun y121 => (if a1 < 0 then (cubbyref09_Succs.j0 k l0 a1 y121 true) else (if a1 ≥ (l0.length : Int) then (cubbyref09_Succs.j0 k l0 a1 y121 true) else (if 0 ≤ a1 then (if a1 < (l0.length : Int) then (cubbyref09_Succs.j0 k l0 a1 y121 (((rd_LIns l0 a1).length : Int) == 0)) else (none)) else (none))))
def cubbyref09_Succs.T4 : Bool × List (List Nat × List Nat) := (true, [([], []), ([], []), ([0, 1], [0, 1]), ([2], [2]), ([], []), ([], []), ([4, 5], [4, 5]), ([6], [6]), ([7], [7]), ([8], [8]), ([3, 9], [3, 9]), ([10], [10]), ([11], [11]), ([12, 12, 0, 1, 2, 3, 4, 5, 6, 7, 8, 9, 10, 11, 12], [12])])
def cubbyref09_Succs.B4 : List Nat := [0, 0, 3, 7, 0, 0, 48, 112, 240, 496, 1023, 2047, 4095, 8191]
theorem cubbyref09_Succs.tab4 : rtab .any (opsOf Try.f13 4) = cubbyref09_Succs.T4 := by kernel_rfl
theorem cubbyref09_Succs.bits4 : waitsOk cubbyref09_Succs.T4.2 cubbyref09_Succs.B4 = true := by kernel_rfl
set_option maxHeartbeats 8000000 in
set_option maxRecDepth 100000 in
theorem cubbyref09_Succs.calls (k : Nat) (A0 : Option Addr) (c0 : Nat) (l0 : List (List (SIns))) (a1 : Int) (r : List Int) (w : World) (hr0 : Kd.C (Kd.slice 27 kIns) w A0 l0.length l0) (hc0 : l0.length ≤ c0) (h : cubbyref09_Succs.f k l0 a1 = some r) :
 Calls Try.prog 13 #[.slice A0 l0.length c0, .int .i64 a1] w fun e w' => ∃ v0_ : Value, e = .returned (v0_) ∧ Kd.R (Kd.int .i64) 3 w' w.heap.size (fun _ => True) v0_ r ∧ Below w.heap.size w w' := by
 have hu27 := Try.underlying27
 have HR0 := zA hr0
 have HC0 := zA hc0
 clear hr0 hc0
 have HB := zA (Below.refl w.heap.size w)
 have H := h; clear h; unfold cubbyref09_Succs.f at H
 obtain ⟨y121, hy121⟩ : ∃ y_ : List Int, y_ = (([] : List Int)) := ⟨_, rfl⟩
 replace H : (if a1 < 0 then (cubbyref09_Succs.j0 k l0 a1 y121 true) else (if a1 ≥ (l0.length : Int) then (cubbyref09_Succs.j0 k l0 a1 y121 true) else (if 0 ≤ a1 then (if a1 < (l0.length : Int) then (cubbyref09_Succs.j0 k l0 a1 y121 (((rd_LIns l0 a1).length : Int) == 0)) else (none)) else (none)))) = some r := by (try rw [hy121]); first | with_reducible exact H | exact (zJ _ _).symm.trans H | exact H
 have Ny121 := zA hy121
 clear hy121
 have HC3 := zA H
 clear H
 go_enter Try.func13, Try.ntmps13
 go_upto_region 2 with (first | ((with_reducible refine gate_dst (N := 8) rfl ?_); (try (refine gate_guard (by rfl) ?_; dsimp only)); refine Kd.R_lit (Kd.int .i64) _ 3 (by rfl) (N := 8) (by rfl) (xs := ([] : List Int)) (inner := []) (ok := fun _ => True) (okp := fun _ => True) ?hr ?hp (fun _ hk => hk) trivial (Below.refl _ _) (Nat.le_refl _) (by simp) ?_; (case hr => go_simp <;> rfl); (case hp => exact (Reps.none _ _)); intro v122 w4 ho5 hb hg_ hnew_; clear hg_ hnew_; (first | rw [← Ny121.out] at ho5 | (simp only [Int.reduceToNat] at ho5; rw [← Ny121.out] at ho5)); have HO123 := zA (Kd.R_lower ho5 (below_size qB)); replace HB := qH hb; clear hb ho5))
 (try simp only [Act.put, List.setIfInBounds_toArray, List.set_cons_zero, List.set_cons_succ])
 go_cut [24] (fun v24 wc => ∃ (kq : Nat) (x24_2 : Bool), v24 = .bool x24_2 ∧ Aside0 (cubbyref09_Succs.j0 kq l0 a1 y121 x24_2 = some r) ∧ Aside0 (kq ≤ k) ∧ Aside0 (Kd.R (Kd.int .i64) 3 wc w.heap.size (fun _ => True) v122 y121) ∧ Aside0 (Below w.heap.size w wc))
 case first =>
  have H := HC3.out
  clear HC3
  by_cases c6 : a1 < 0
  ·rw [zC c6] at H
   have c6b0 := zF c6
   clear c6
   (first | rw [c6b0] | (simp only [i64_w, i32_w]; rw [c6b0]) | skip)
   have H' := zA H
   clear H
   go_wp2
   go_meet
   case rel => exact ⟨_, (true), qT, H', ⟨qO⟩, ⟨qR HO123.out⟩, ⟨qB⟩⟩
  ·rw [zD c6] at H
   have c6b0 := zG c6
   clear c6
   (first | rw [c6b0] | (simp only [i64_w, i32_w]; rw [c6b0]) | skip)
   by_cases c7 : a1 ≥ (l0.length : Int)
   ·rw [zC c7] at H
    have c7b0 : decide ((l0.length : Int) ≤ a1) = true := zF c7
    clear c7
    have H' := zA H
    clear H
    go_wp2
    go_meet
    case rel => exact ⟨_, (true), qT, H', ⟨qO⟩, ⟨qR HO123.out⟩, ⟨qB⟩⟩
   ·rw [zD c7] at H
    have c7b0 : decide ((l0.length : Int) ≤ a1) = false := zG c7
    clear c7
    by_cases c8 : 0 ≤ a1
    ·rw [zC c8] at H
     have c8b0 := zF c8
     clear c8
     by_cases c9 : a1 < (l0.length : Int)
     ·rw [zC c9] at H
      have c9b0 := zF c9
      clear c9
      have H' := zA H
      clear H
      have p124 : 0 ≤ (a1 : Int) := zB qA
      have q124 : a1 < (l0.length : Int) := zB qA
      obtain ⟨ad124, A124_0, c124_0, e124, hx124_0, hl124_0, hi124_0⟩ := at_LIns HR0.out a1 p124 q124
      cases e124
      replace hx124_0 := (HB.out.cell (zE w _ hx124_0)).trans hx124_0
      have HR124_0 := zA hi124_0
      have HC124_0 := zA hl124_0
      clear hi124_0 hl124_0
      replace p124 := eq_true p124
      replace q124 := eq_true q124
      go_wp2
      go_meet
      case rel => exact ⟨_, ((((rd_LIns l0 a1).length : Int) == 0)), qT, H', ⟨qO⟩, ⟨qR HO123.out⟩, ⟨qB⟩⟩
     ·rw [zD c9] at H
      exact absurd H (by simp)
    ·rw [zD c8] at H
     exact absurd H (by simp)
 case rest =>
  clear HC3
  obtain ⟨kq, x24_2, rfl, HA, HJ2, HO_5, HB⟩ := hcut
  cases kq with
  | zero => exact absurd HA.out (by simp [cubbyref09_Succs.j0])
  | succ kj2 =>
   have H := HA.out
   clear HA
   simp only [cubbyref09_Succs.j0] at H
   by_cases c10 : x24_2 = true
   ·subst c10
    have H1 : (some y121) = some r := by rw [zC rfl] at H; exact H
    clear H
    have H := H1
    clear H1
    obtain rfl := zI H
    go_wp2
    go_ret
    exact ⟨_, qE, qR HO_5.out, qB⟩
   ·replace c10 := Bool.eq_false_iff.mpr c10
    subst c10
    have H1 : (if 0 ≤ a1 then (if a1 < (l0.length : Int) then (if 0 ≤ (wrap64 (((rd_LIns l0 a1).length : Int) - 1)) then (if (wrap64 (((rd_LIns l0 a1).length : Int) - 1)) < ((rd_LIns l0 a1).length : Int) then ((cubbyref07_Targets.f ((rd_TIns (rd_LIns l0 a1) (wrap64 (((rd_LIns l0 a1).length : Int) - 1))).f0) ((rd_TIns (rd_LIns l0 a1) (wrap64 (((rd_LIns l0 a1).length : Int) - 1))).f1) ((rd_TIns (rd_LIns l0 a1) (wrap64 (((rd_LIns l0 a1).length : Int) - 1))).f2) ((rd_TIns (rd_LIns l0 a1) (wrap64 (((rd_LIns l0 a1).length : Int) - 1))).f3) ((rd_TIns (rd_LIns l0 a1) (wrap64 (((rd_LIns l0 a1).length : Int) - 1))).f4) ((rd_TIns (rd_LIns l0 a1) (wrap64 (((rd_LIns l0 a1).length : Int) - 1))).f5)).bind fun t128 => (cubbyref09_Succs.l0 kj2 l0 y121 t128 0)) else (none)) else (none)) else (none)) else (none)) = some r := by rw [zD (show ¬ (false = true) by decide)] at H; exact H
    clear H
    have H := H1
    clear H1
    by_cases c11 : 0 ≤ a1
    ·rw [zC c11] at H
     have c11b0 := zF c11
     clear c11
     by_cases c12 : a1 < (l0.length : Int)
     ·rw [zC c12] at H
      have c12b0 := zF c12
      clear c12
      obtain ⟨ji13, hji13⟩ : ∃ j_ : Int, (wrap64 (((rd_LIns l0 a1).length : Int) - 1)) = j_ := ⟨_, rfl⟩
      replace H : (if 0 ≤ (ji13) then (if (ji13) < ((rd_LIns l0 a1).length : Int) then ((cubbyref07_Targets.f ((rd_TIns (rd_LIns l0 a1) (ji13)).f0) ((rd_TIns (rd_LIns l0 a1) (ji13)).f1) ((rd_TIns (rd_LIns l0 a1) (ji13)).f2) ((rd_TIns (rd_LIns l0 a1) (ji13)).f3) ((rd_TIns (rd_LIns l0 a1) (ji13)).f4) ((rd_TIns (rd_LIns l0 a1) (ji13)).f5)).bind fun t128 => (cubbyref09_Succs.l0 kj2 l0 y121 t128 0)) else (none)) else (none)) = some r := by first | (rw [hji13] at H; exact H) | (simp only [hji13] at H ⊢; exact H)
      have hji13w : (IntKind.i64.wrap (((rd_LIns l0 a1).length : Int) - 1)) = ji13 := (i64_w _).trans hji13
      by_cases c14 : 0 ≤ (ji13)
      ·rw [zC c14] at H
       have c14b0 := zF c14
       clear c14
       by_cases c15 : (ji13) < ((rd_LIns l0 a1).length : Int)
       ·rw [zC c15] at H
        have c15b0 := zF c15
        clear c15
        replace H := qb H; obtain ⟨t128, A16, H⟩ := H
        have H' := zA H
        clear H
        try go_wp2
        have n0_ := zA (Kd.R_drew HO_5.out)
        have n1_ := zA (below_drew1 HB.out)
        clear HO_5
        clear HB
        have HO_5 := n0_
        have HB := n1_
        clear n0_ n1_
        have p125 : 0 ≤ (a1 : Int) := zB qA
        have q125 : a1 < (l0.length : Int) := zB qA
        obtain ⟨ad125, A125_0, c125_0, e125, hx125_0, hl125_0, hi125_0⟩ := at_LIns HR0.out a1 p125 q125
        have hw125_0 := hx125_0
        cases e125
        replace hx125_0 := (HB.out.cell (zE w _ hx125_0)).trans hx125_0
        have HR125_0 := zA hi125_0
        have HC125_0 := zA hl125_0
        clear hi125_0 hl125_0
        replace p125 := eq_true p125
        replace q125 := eq_true q125
        have p126 : 0 ≤ (a1 : Int) := zB qA
        have q126 : a1 < (l0.length : Int) := zB qA
        obtain ⟨ad126, A126_0, c126_0, e126, hx126_0, hl126_0, hi126_0⟩ := at_LIns HR0.out a1 p126 q126
        have hw126_0 := hx126_0
        obtain rfl : ad125 = ad126 := (by injection e126)
        replace hx126_0 := (HB.out.cell (zE w _ hx126_0)).trans hx126_0
        have HR126_0 := zA hi126_0
        have HC126_0 := zA hl126_0
        clear hi126_0 hl126_0
        replace p126 := eq_true p126
        replace q126 := eq_true q126
        have ea_ := zI (hx125_0.symm.trans hx126_0)
        injection ea_ with ea_ en_ ec_
        subst ea_
        subst ec_
        clear en_
        have p127 : 0 ≤ ((ji13) : Int) := zB qA
        have q127 : (ji13) < ((rd_LIns l0 a1).length : Int) := zB qA
        obtain ⟨ad127, A127_5, c127_5, e127, hx127_0, hx127_1, hx127_2, hx127_3, hx127_4, hx127_5, hl127_5, hi127_5⟩ := at_TIns HR125_0.out (ji13) p127 q127
        have hw127_5 := hx127_5
        have hw127_4 := hx127_4
        have hw127_3 := hx127_3
        have hw127_2 := hx127_2
        have hw127_1 := hx127_1
        have hw127_0 := hx127_0
        cases e127
        replace hx127_0 := (HB.out.cell (zE w _ hx127_0)).trans hx127_0
        replace hx127_1 := (HB.out.cell (zE w _ hx127_1)).trans hx127_1
        replace hx127_2 := (HB.out.cell (zE w _ hx127_2)).trans hx127_2
        replace hx127_3 := (HB.out.cell (zE w _ hx127_3)).trans hx127_3
        replace hx127_4 := (HB.out.cell (zE w _ hx127_4)).trans hx127_4
        replace hx127_5 := (HB.out.cell (zE w _ hx127_5)).trans hx127_5
        have HR127_5 := zA hi127_5
        have HC127_5 := zA hl127_5
        clear hi127_5 hl127_5
        replace p127 := eq_true p127
        replace q127 := eq_true q127
        refine start_ (n := 14) (S := fun w' => w'.cell? (ad125.add (a1).toNat) = some (.slice (some ad127) (rd_LIns l0 a1).length c125_0) ∧ w'.cell? (ad125.add (a1).toNat) = some (.slice (some ad127) (rd_LIns l0 a1).length c125_0) ∧ w'.cell? (ad127.add (((ji13)).toNat * 6)) = some (.int .i64 ((rd_TIns (rd_LIns l0 a1) (ji13)).f0)) ∧ w'.cell? ⟨(ad127.add (((ji13)).toNat * 6)).block, (ad127.add (((ji13)).toNat * 6)).off + 1, none⟩ = some (.int .i64 ((rd_TIns (rd_LIns l0 a1) (ji13)).f1)) ∧ w'.cell? ⟨(ad127.add (((ji13)).toNat * 6)).block, (ad127.add (((ji13)).toNat * 6)).off + 2, none⟩ = some (.int .i64 ((rd_TIns (rd_LIns l0 a1) (ji13)).f2)) ∧ w'.cell? ⟨(ad127.add (((ji13)).toNat * 6)).block, (ad127.add (((ji13)).toNat * 6)).off + 3, none⟩ = some (.int .i64 ((rd_TIns (rd_LIns l0 a1) (ji13)).f3)) ∧ w'.cell? ⟨(ad127.add (((ji13)).toNat * 6)).block, (ad127.add (((ji13)).toNat * 6)).off + 4, none⟩ = some (.string ((rd_TIns (rd_LIns l0 a1) (ji13)).f4)) ∧ w'.cell? ⟨(ad127.add (((ji13)).toNat * 6)).block, (ad127.add (((ji13)).toNat * 6)).off + 5, none⟩ = some (.slice A127_5 ((rd_TIns (rd_LIns l0 a1) (ji13)).f5).length c127_5)) (ds := []) (bA 14 0) (by kernel_rfl) rfl rfl ⟨((HB.out.cell (zE w _ hw125_0)).trans hw125_0), ((HB.out.cell (zE w _ hw126_0)).trans hw126_0), ((HB.out.cell (zE w _ hw127_0)).trans hw127_0), ((HB.out.cell (zE w _ hw127_1)).trans hw127_1), ((HB.out.cell (zE w _ hw127_2)).trans hw127_2), ((HB.out.cell (zE w _ hw127_3)).trans hw127_3), ((HB.out.cell (zE w _ hw127_4)).trans hw127_4), ((HB.out.cell (zE w _ hw127_5)).trans hw127_5)⟩ (fun hHeld => ?_); refine with_tabW cubbyref09_Succs.tab4 cubbyref09_Succs.bits4 (fun HT_ HW_ => ?_)
        generalize wc.drew = w17 at HO_5 HB HR125_0 HR126_0 HR127_5 hx125_0 hx126_0 hx127_0 hx127_1 hx127_2 hx127_3 hx127_4 hx127_5 hHeld ⊢
        refine pu_ (i := 0) (N := some 26) (bA 14 1) ?_
        refine pu_ (i := 1) (N := some 27) (bA 14 3) ?_
        refine pu_ (i := 2) (N := some 28) (bA 14 7) ?_
        refine pu_ (i := 4) (N := some 30) (bA 14 23) ?_
        refine pu_ (i := 5) (N := some 31) (bA 14 55) ?_
        refine pu_ (i := 6) (N := some 32) (bA 14 119) ?_
        refine tk_ (i := 3) (N := some 29) (bA 14 127) ?_
        refine tk_ (i := 7) (N := some 33) (bA 14 255) ?_
        refine pu_ (i := 8) (N := some 34) (bA 14 511) ?_
        refine pu_ (i := 9) (N := some 35) (bA 14 1023) ?_
        refine pu_ (i := 10) (N := some 36) (bA 14 2047) ?_
        refine tk_ (i := 11) (N := some 37) (bA 14 4095) ?_
        refine one_ (i := 12) (N := some 38) (bA 14 8191) rfl rfl (one_of HT_.out (by kernel_rfl)) (by decide) (fun K hK => ?_)
        refine goes_ Try.func16 (by kernel_rfl) rfl #[.agg #[.int .i64 ((rd_TIns (rd_LIns l0 a1) (ji13)).f0), .int .i64 ((rd_TIns (rd_LIns l0 a1) (ji13)).f1), .int .i64 ((rd_TIns (rd_LIns l0 a1) (ji13)).f2), .int .i64 ((rd_TIns (rd_LIns l0 a1) (ji13)).f3), .string ((rd_TIns (rd_LIns l0 a1) (ji13)).f4), .slice A127_5 ((rd_TIns (rd_LIns l0 a1) (ji13)).f5).length c127_5]] (by rfl) rfl rfl (by (try simp only [List.map_toArray, List.map_cons, List.map_nil]); first | done | (simp only [hji13]; rfl) | rfl | (simp only [List.length_drop, List.length_take]; rfl)) ?_
        with_reducible refine (cubbyref07_Targets.calls ((rd_TIns (rd_LIns l0 a1) (ji13)).f0) ((rd_TIns (rd_LIns l0 a1) (ji13)).f1) ((rd_TIns (rd_LIns l0 a1) (ji13)).f2) ((rd_TIns (rd_LIns l0 a1) (ji13)).f3) ((rd_TIns (rd_LIns l0 a1) (ji13)).f4) _ _ ((rd_TIns (rd_LIns l0 a1) (ji13)).f5) t128 _ ?side1 ?side2 A16.out).mono ?_
        (case side1 => exact qCB HR127_5.out)
        (case side2 => exact HC127_5.out)
        rintro e w18 ⟨v129, rfl, ho0, hb⟩
        refine ⟨_, rfl, ?_⟩
        have n0_ := zA (Kd.R_elder' (qR HO_5.out) (Kd.R_base ho0) hb)
        have n1_ := zA (Kd.R_lower (Kd.R_new' ho0 (Kd.R_lt (qR HO_5.out))) (below_size qB))
        have n2_ := qH hb
        clear HO_5
        clear HB
        have HO_5 := n0_
        have HO130 := n1_
        have HB := n2_
        clear n0_ n1_ n2_
        (try clear hb)
        (try clear hb2)
        (try clear hk)
        (try clear hi)
        (try clear ho0)
        refine hK.out _ _ ⟨((HB.out.cell (zE w _ hw125_0)).trans hw125_0), ((HB.out.cell (zE w _ hw126_0)).trans hw126_0), ((HB.out.cell (zE w _ hw127_0)).trans hw127_0), ((HB.out.cell (zE w _ hw127_1)).trans hw127_1), ((HB.out.cell (zE w _ hw127_2)).trans hw127_2), ((HB.out.cell (zE w _ hw127_3)).trans hw127_3), ((HB.out.cell (zE w _ hw127_4)).trans hw127_4), ((HB.out.cell (zE w _ hw127_5)).trans hw127_5)⟩ (fun hHeld => ?_)
        clear hK K
        refine norm_ (a' := ?_) ?_ ?_
        rotate_left
        ·show Act.put _ (some 38) _ = _
         simp only [Act.put, List.setIfInBounds_toArray, List.set_cons_zero, List.set_cons_succ, i64_w, i32_w]
         rfl
        refine pu_ (i := 13) (N := some 6) (bA 14 16383) ?_
        refine done_ (done_of HT_.out (by kernel_rfl)) ?_
        try go_wp2
        go_loopg [5, 7] kj2 (fun kq v5 v7 w' => ∃ (x5_2 : List Int) (x7_2 : Int), v7 = .int .i64 x7_2 ∧ Aside0 (cubbyref09_Succs.l0 kq l0 x5_2 t128 x7_2 = some r) ∧ Aside0 (kq ≤ kj2) ∧ Aside0 (Kd.R (Kd.int .i64) 3 w' w.heap.size (fun k_ => some k_ ≠ (v129 : Value).ownBlock) v5 x5_2) ∧ Aside0 (Kd.R (Kd.int .i64) 3 w' w.heap.size (fun k_ => some k_ ≠ (v5 : Value).ownBlock) v129 t128) ∧ Aside0 (Below w.heap.size w w'))
        case atStart => exact ⟨(y121), (0), qT, H', ⟨Nat.le_refl _⟩, ⟨by (with_reducible repeat (first | apply Kd.R_alloc | apply Kd.R_drewN | apply Kd.R_drew)); exact Kd.R_mono HO_5.out (fun _ hk => hk.2)⟩, ⟨by (with_reducible repeat (first | apply Kd.R_alloc | apply Kd.R_drewN | apply Kd.R_drew)); exact Kd.R_mono HO130.out (fun _ hk => hk.2)⟩, ⟨qB⟩⟩
        case round =>
         clear H'
         obtain ⟨x5_2, x7_2, rfl, HA, HK2, HO_5, HO_6, HB⟩ := hrel
         cases gk with
         | zero => exact absurd HA.out (by simp [cubbyref09_Succs.l0])
         | succ k2 =>
          have H := HA.out
          clear HA
          simp only [cubbyref09_Succs.l0] at H
          by_cases c19 : x7_2 < (t128.length : Int)
          ·rw [zC c19] at H
           have c19b0 := zF c19
           clear c19
           by_cases c20 : 0 ≤ x7_2
           ·rw [zC c20] at H
            have c20b0 := zF c20
            clear c20
            by_cases c21 : (rd t128 x7_2) ≥ 0
            ·rw [zC c21] at H
             have c21b0 : decide (0 ≤ (rd t128 x7_2)) = true := zF c21
             clear c21
             by_cases c22 : (rd t128 x7_2) < (l0.length : Int)
             ·rw [zC c22] at H
              have c22b0 := zF c22
              clear c22
              replace H := qb H; obtain ⟨t134, A23, H⟩ := H
              by_cases c24 : t134 = true
              ·subst c24
               have H1 : (cubbyref09_Succs.l0 k2 l0 x5_2 t128 (wrap64 (x7_2 + 1))) = some r := by rw [zC rfl] at H; exact H
               clear H
               have H := H1
               clear H1
               have H' := zA H
               clear H
               obtain ⟨Ao25, co25, eo25⟩ := Kd.R_slice HO_6.out
               subst eo25
               have p131 : 0 ≤ (x7_2 : Int) := zB qA
               have q131 : x7_2 < (t128.length : Int) := zB qA
               obtain ⟨ad131, e131, hx131_0⟩ := Kd.at_int (Kd.R_reads' HO_6.out).2.2 x7_2 p131 q131
               cases e131
               replace p131 := eq_true p131
               replace q131 := eq_true q131
               have p132 : 0 ≤ (x7_2 : Int) := zB qA
               have q132 : x7_2 < (t128.length : Int) := zB qA
               obtain ⟨ad132, e132, hx132_0⟩ := Kd.at_int (Kd.R_reads' HO_6.out).2.2 x7_2 p132 q132
               obtain rfl : ad131 = ad132 := (by injection e132)
               replace p132 := eq_true p132
               replace q132 := eq_true q132
               have p133 : 0 ≤ (x7_2 : Int) := zB qA
               have q133 : x7_2 < (t128.length : Int) := zB qA
               obtain ⟨ad133, e133, hx133_0⟩ := Kd.at_int (Kd.R_reads' HO_6.out).2.2 x7_2 p133 q133
               obtain rfl : ad131 = ad133 := (by injection e133)
               replace p133 := eq_true p133
               replace q133 := eq_true q133
               obtain ⟨Ao26, co26, eo26⟩ := Kd.R_slice HO_5.out
               subst eo26
               go_wp2_with (first | (go_at_call 14; (with_reducible refine (cubbyref09_has.calls k2 _ _ x5_2 (rd t128 x7_2) true _ ?side1 ?side2 A23.out).mono ?_); (case side1 => repeat (first | exact (Kd.R_reads' HO_5.out).2.2 | (with_reducible refine Kd.C_alloc ?_ _) | (with_reducible refine Kd.C_drewN ?_ _) | (with_reducible refine Kd.C_drew ?_))); (case side2 => exact (Kd.R_reads' HO_5.out).2.1); (try clear A23); rintro e w' ⟨rfl, ⟨nd, rfl⟩⟩))
               go_roundg k2
               case measure => have := HJ2.out; have := HK2.out; omega
               case rel => exact ⟨(x5_2), (wrap64 (x7_2 + 1)), qT, H', ⟨by have := HJ2.out; have := HK2.out; omega⟩, ⟨qR HO_5.out⟩, ⟨qR HO_6.out⟩, ⟨qB⟩⟩
              ·replace c24 := Bool.eq_false_iff.mpr c24
               subst c24
               have H1 : (if x5_2.length < 17592186044416 then (cubbyref09_Succs.l0 k2 l0 (x5_2 ++ [rd t128 x7_2]) t128 (wrap64 (x7_2 + 1))) else (none)) = some r := by rw [zD (show ¬ (false = true) by decide)] at H; exact H
               clear H
               have H := H1
               clear H1
               by_cases c27 : x5_2.length < 17592186044416
               ·rw [zC c27] at H
                have LMc27 := zA c27
                clear c27
                obtain ⟨y136, hy136⟩ : ∃ y_ : List Int, y_ = (x5_2 ++ [rd t128 x7_2]) := ⟨_, rfl⟩
                replace H : (cubbyref09_Succs.l0 k2 l0 y136 t128 (wrap64 (x7_2 + 1))) = some r := by (try rw [hy136]); first | with_reducible exact H | exact (zJ _ _).symm.trans H | exact H
                have Ny136 := zA hy136
                clear hy136
                have H' := zA H
                clear H
                obtain ⟨Ao28, co28, eo28⟩ := Kd.R_slice HO_6.out
                subst eo28
                have p131 : 0 ≤ (x7_2 : Int) := zB qA
                have q131 : x7_2 < (t128.length : Int) := zB qA
                obtain ⟨ad131, e131, hx131_0⟩ := Kd.at_int (Kd.R_reads' HO_6.out).2.2 x7_2 p131 q131
                cases e131
                replace p131 := eq_true p131
                replace q131 := eq_true q131
                have p132 : 0 ≤ (x7_2 : Int) := zB qA
                have q132 : x7_2 < (t128.length : Int) := zB qA
                obtain ⟨ad132, e132, hx132_0⟩ := Kd.at_int (Kd.R_reads' HO_6.out).2.2 x7_2 p132 q132
                obtain rfl : ad131 = ad132 := (by injection e132)
                replace p132 := eq_true p132
                replace q132 := eq_true q132
                have p133 : 0 ≤ (x7_2 : Int) := zB qA
                have q133 : x7_2 < (t128.length : Int) := zB qA
                obtain ⟨ad133, e133, hx133_0⟩ := Kd.at_int (Kd.R_reads' HO_6.out).2.2 x7_2 p133 q133
                obtain rfl : ad131 = ad133 := (by injection e133)
                replace p133 := eq_true p133
                replace q133 := eq_true q133
                obtain ⟨Ao29, co29, eo29⟩ := Kd.R_slice HO_5.out
                subst eo29
                go_wp2_with (first | (go_at_call 14; (with_reducible refine (cubbyref09_has.calls k2 _ _ x5_2 (rd t128 x7_2) false _ ?side1 ?side2 A23.out).mono ?_); (case side1 => repeat (first | exact (Kd.R_reads' HO_5.out).2.2 | (with_reducible refine Kd.C_alloc ?_ _) | (with_reducible refine Kd.C_drewN ?_ _) | (with_reducible refine Kd.C_drew ?_))); (case side2 => exact (Kd.R_reads' HO_5.out).2.1); (try clear A23); rintro e w' ⟨rfl, ⟨nd, rfl⟩⟩; have p135 : 0 ≤ (x7_2 : Int) := zB qA; have q135 : x7_2 < (t128.length : Int) := zB qA; obtain ⟨ad135, e135, hx135_0⟩ := Kd.at_int (Kd.R_reads' HO_6.out).2.2 x7_2 p135 q135; obtain rfl : ad131 = ad135 := (by injection e135); replace p135 := eq_true p135; replace q135 := eq_true q135) | ((with_reducible refine gate_builtin (b := .append) (xs := #[.tmp 68, .tmp 73]) rfl ?_); (try (refine gate_guard (by rfl) ?_; dsimp only)); at_builtin; refine Kd.R_append (Kd.int .i64) (w0 := w) w.heap.size rfl (.tmp 68) (.tmp 73) 25 3 (.int .i64 0) 8 rfl Try.underlying25 info3 rfl (by decide) (by omega) (.slice Ao29 x5_2.length co29) x5_2 (rd t128 x7_2) [.int .i64 (rd t128 x7_2)] (fun k_ => some k_ ≠ (.slice (some ad131) t128.length co28 : Value).ownBlock) (fun _ => False) rfl rfl ?aP (fun _ hk => hk.elim) ?aF ?aO ?aB ?aS ?aL ?_; (case aP => exact rfl); (case aB => exact qB); (case aF => exact (fun k_ hk => Kd.fresh' (Kd.R_lt (qR HO_6.out)) k_ hk)); (case aO => exact (qR HO_5.out)); (case aS => exact (below_size qB)); (case aL => have := LMc27.out; omega); intro v137 w30 ho hb hg hat; rw [← Ny136.out] at ho; replace HO_6 := zA (Kd.R_after (ok := (fun _ => True)) (by (with_reducible repeat (first | apply Kd.R_alloc | apply Kd.R_drewN | apply Kd.R_drew)); exact Kd.R_mono HO_6.out (fun _ hk => ⟨trivial, hk⟩)) hg hat); replace HB := zA (hb); have HO138 := zA (ho); clear HO_5; clear ho hb hg hat))
                go_roundg k2
                case measure => have := HJ2.out; have := HK2.out; omega
                case rel => exact ⟨(y136), (wrap64 (x7_2 + 1)), qT, H', ⟨by have := HJ2.out; have := HK2.out; omega⟩, ⟨qR HO138.out⟩, ⟨by (with_reducible repeat (first | apply Kd.R_alloc | apply Kd.R_drewN | apply Kd.R_drew)); exact Kd.R_mono HO_6.out (fun _ hk => hk.2)⟩, ⟨qB⟩⟩
               ·rw [zD c27] at H
                exact absurd H (by simp)
             ·rw [zD c22] at H
              have c22b0 := zG c22
              clear c22
              have H' := zA H
              clear H
              obtain ⟨Ao31, co31, eo31⟩ := Kd.R_slice HO_6.out
              subst eo31
              have p131 : 0 ≤ (x7_2 : Int) := zB qA
              have q131 : x7_2 < (t128.length : Int) := zB qA
              obtain ⟨ad131, e131, hx131_0⟩ := Kd.at_int (Kd.R_reads' HO_6.out).2.2 x7_2 p131 q131
              cases e131
              replace p131 := eq_true p131
              replace q131 := eq_true q131
              have p132 : 0 ≤ (x7_2 : Int) := zB qA
              have q132 : x7_2 < (t128.length : Int) := zB qA
              obtain ⟨ad132, e132, hx132_0⟩ := Kd.at_int (Kd.R_reads' HO_6.out).2.2 x7_2 p132 q132
              obtain rfl : ad131 = ad132 := (by injection e132)
              replace p132 := eq_true p132
              replace q132 := eq_true q132
              go_wp2
              go_roundg k2
              case measure => have := HJ2.out; have := HK2.out; omega
              case rel => exact ⟨(x5_2), (wrap64 (x7_2 + 1)), qT, H', ⟨by have := HJ2.out; have := HK2.out; omega⟩, ⟨qR HO_5.out⟩, ⟨qR HO_6.out⟩, ⟨qB⟩⟩
            ·rw [zD c21] at H
             have c21b0 : decide (0 ≤ (rd t128 x7_2)) = false := zG c21
             clear c21
             have H' := zA H
             clear H
             obtain ⟨Ao32, co32, eo32⟩ := Kd.R_slice HO_6.out
             subst eo32
             have p131 : 0 ≤ (x7_2 : Int) := zB qA
             have q131 : x7_2 < (t128.length : Int) := zB qA
             obtain ⟨ad131, e131, hx131_0⟩ := Kd.at_int (Kd.R_reads' HO_6.out).2.2 x7_2 p131 q131
             cases e131
             replace p131 := eq_true p131
             replace q131 := eq_true q131
             go_wp2
             go_roundg k2
             case measure => have := HJ2.out; have := HK2.out; omega
             case rel => exact ⟨(x5_2), (wrap64 (x7_2 + 1)), qT, H', ⟨by have := HJ2.out; have := HK2.out; omega⟩, ⟨qR HO_5.out⟩, ⟨qR HO_6.out⟩, ⟨qB⟩⟩
           ·rw [zD c20] at H
            exact absurd H (by simp)
          ·rw [zD c19] at H
           have c19b0 := zG c19
           clear c19
           obtain rfl := zI H
           obtain ⟨Ao33, co33, eo33⟩ := Kd.R_slice HO_6.out
           subst eo33
           go_wp2
           go_ret
           exact ⟨_, by first | rfl | (simp [errW_none, errW_some] <;> rfl) | (simp only [← hji13]; first | rfl | (simp [errW_none, errW_some] <;> rfl)) | (simp [*, errW_none, errW_some] <;> rfl), by (with_reducible repeat (first | apply Kd.R_alloc | apply Kd.R_drewN | apply Kd.R_drew)); exact Kd.R_mono HO_5.out (fun _ hk => trivial), qB⟩
       ·rw [zD c15] at H
        exact absurd H (by simp)
      ·rw [zD c14] at H
       exact absurd H (by simp)
     ·rw [zD c12] at H
      exact absurd H (by simp)
    ·rw [zD c11] at H
     exact absurd H (by simp)

mutual
def cubbyref09_visit.l0 : Nat → List (List (SIns)) → Int → List Int → List Int → List Int → Int → Option (List Int × List Int)
 | 0, _, _, _, _, _, _ => none
 | k + 1, x0, x1, x2, x3, x11, x12 => if x12 < (x11.length : Int) then (if 0 ≤ x12 then ((cubbyref09_has.f k x2 (rd x11 x12)).bind fun t158 => (if t158 = true then (cubbyref09_visit.l0 k x0 x1 x2 x3 x11 (wrap64 (x12 + 1))) else ((cubbyref09_visit.f k x0 (rd x11 x12) x2 x3).bind fun bt160 => (cubbyref09_visit.l0 k x0 x1 bt160.1 bt160.2 x11 (wrap64 (x12 + 1)))))) else (none)) else ((some (([x1] : List Int) : List Int)).bind fun y151 => (if y151.length + x3.length < 17592186044416 then (some (x2, (y151 ++ x3))) else (none)))
def cubbyref09_visit.f : Nat → List (List (SIns)) → Int → List Int → List Int → Option (List Int × List Int)
 | 0, _, _, _, _ => none
 | k + 1, l0, a1, l2, l3 => (some (([] : List Int) : List Int)).bind fun y139 => (if y139.length + l2.length < 17592186044416 then ((some (y139 ++ l2 : List Int)).bind fun y142 => (if y142.length < 17592186044416 then ((cubbyref09_Succs.f k l0 a1).bind fun t148 => (cubbyref09_visit.l0 k l0 a1 (y142 ++ [a1]) l3 t148 0)) else (none))) else (none))
end
set_option maxHeartbeats 8000000 in
set_option maxRecDepth 100000 in
theorem cubbyref09_visit.calls (k : Nat) : ∀ (A0 : Option Addr) (c0 : Nat) (l0 : List (List (SIns))) (a1 : Int) (A2 : Option Addr) (c2 : Nat) (l2 : List Int) (P3_ : Nat → Prop) (A3 : Option Addr) (c3 : Nat) (l3 : List Int) (r1 : List Int) (r2 : List Int) (w : World) (hr0 : Kd.C (Kd.slice 27 kIns) w A0 l0.length l0) (hc0 : l0.length ≤ c0) (hr2 : Kd.C (Kd.int .i64) w A2 l2.length l2) (hc2 : l2.length ≤ c2) (hs3 : Kd.V (Kd.int .i64) 3 w w.heap.size (fun k_ => P3_ k_) (.slice A3 l3.length c3) l3) (h : cubbyref09_visit.f k l0 a1 l2 l3 = some (r1, r2)),
 Calls Try.prog 10 #[.slice A0 l0.length c0, .int .i64 a1, .slice A2 l2.length c2, .slice A3 l3.length c3] w fun e w' => ∃ v0_ v1_ : Value, e = .returned (.tuple #[v0_, v1_]) ∧ Kd.R (Kd.int .i64) 3 w' w.heap.size (fun k_ => (w.heap.size ≤ k_) ∧ some k_ ≠ (v1_ : Value).ownBlock) v0_ r1 ∧ Kd.R (Kd.int .i64) 3 w' w.heap.size (fun k_ => (w.heap.size ≤ k_) ∧ some k_ ≠ (v0_ : Value).ownBlock) v1_ r2 ∧ Below w.heap.size w w' := by
 induction k using Nat.strongRecOn with
 | _ k ih =>
 intro A0 c0 l0 a1 A2 c2 l2 P3_ A3 c3 l3 r1 r2 w hr0 hc0 hr2 hc2 hs3 h
 cases k with
 | zero => exact absurd h (by simp [cubbyref09_visit.f])
 | succ k =>
 simp only [cubbyref09_visit.f] at h
 have HR0 := zA hr0
 have HC0 := zA hc0
 clear hr0 hc0
 have HR2 := zA hr2
 have HC2 := zA hc2
 clear hr2 hc2
 have HO3 := zA (show Kd.V (Kd.int .i64) 3 w w.heap.size (fun k_ => (P3_ k_ ∨ w.heap.size ≤ k_)) (.slice A3 l3.length c3) l3 from Kd.V_mono hs3 (fun k_ hk => .inl hk))
 have HB := zA (Below.refl w.heap.size w)
 have H := h; clear h; unfold cubbyref09_visit.f at H
 obtain ⟨y139, hy139⟩ : ∃ y_ : List Int, y_ = (([] : List Int)) := ⟨_, rfl⟩
 replace H : (if y139.length + l2.length < 17592186044416 then ((some (y139 ++ l2 : List Int)).bind fun y142 => (if y142.length < 17592186044416 then ((cubbyref09_Succs.f k l0 a1).bind fun t148 => (cubbyref09_visit.l0 k l0 a1 (y142 ++ [a1]) l3 t148 0)) else (none))) else (none)) = some (r1, r2) := by (try rw [hy139]); first | with_reducible exact H | exact (zJ _ _).symm.trans H | exact H
 have Ny139 := zA hy139
 clear hy139
 by_cases c5 : y139.length + l2.length < 17592186044416
 ·rw [zC c5] at H
  have LMc5 := zA c5
  clear c5
  obtain ⟨y142, hy142⟩ : ∃ y_ : List Int, y_ = (y139 ++ l2) := ⟨_, rfl⟩
  replace H : (if y142.length < 17592186044416 then ((cubbyref09_Succs.f k l0 a1).bind fun t148 => (cubbyref09_visit.l0 k l0 a1 (y142 ++ [a1]) l3 t148 0)) else (none)) = some (r1, r2) := by (try rw [hy142]); first | with_reducible exact H | exact (zJ _ _).symm.trans H | exact H
  have Ny142 := zA hy142
  clear hy142
  by_cases c6 : y142.length < 17592186044416
  ·rw [zC c6] at H
   have LMc6 := zA c6
   clear c6
   obtain ⟨y145, hy145⟩ : ∃ y_ : List Int, y_ = (y142 ++ [a1]) := ⟨_, rfl⟩
   replace H : ((cubbyref09_Succs.f k l0 a1).bind fun t148 => (cubbyref09_visit.l0 k l0 a1 y145 l3 t148 0)) = some (r1, r2) := by (try rw [hy145]); first | with_reducible exact H | exact (zJ _ _).symm.trans H | exact H
   have Ny145 := zA hy145
   clear hy145
   replace H := qb H; obtain ⟨t148, A7, H⟩ := H
   have H' := zA H
   clear H
   go_enter Try.func10, Try.ntmps10
   go_wp2_with (first | ((with_reducible refine gate_dst (N := 14) rfl ?_); refine Kd.R_lit (Kd.int .i64) _ 3 (by rfl) (N := 14) (by rfl) (xs := ([] : List Int)) (inner := []) (ok := fun _ => True) (okp := fun _ => True) ?hr ?hp (fun _ hk => hk) trivial (Below.refl _ _) (Nat.le_refl _) (by simp) ?_; (case hr => go_simp <;> rfl); (case hp => exact (Reps.none _ _)); intro v140 w8 ho9 hb hg_ hnew_; clear hg_ hnew_; (first | rw [← Ny139.out] at ho9 | (simp only [Int.reduceToNat] at ho9; rw [← Ny139.out] at ho9)); replace HO3 := zA (Kd.V_elder' (qV HO3.out) (Kd.R_base ho9) hb); have HO141 := zA (Kd.R_lower (Kd.R_newM (M := fun k_ => (w.heap.size ≤ k_)) ho9 (below_size qB) (fun k_ h_ => h_)) (below_size qB)); replace HB := qH hb; clear hb ho9) | ((with_reducible refine gate_builtin (b := .append) (xs := #[.tmp 15, .tmp 16]) rfl ?_); at_builtin; refine Kd.R_append_rows (Kd.int .i64) (w0 := w) w.heap.size rfl (.tmp 15) (.tmp 16) 25 3 (.int .i64 0) 8 rfl Try.underlying25 info3 rfl (by decide) (by omega) v140 y139 l2 _ _ _ (fun k_ => (w.heap.size ≤ k_)) (fun _ => False) rfl rfl ?aO ?aR (fun _ _ h => h) (fun _ h => h.elim) ?aF ?aB ?aS ?aL ?_; (case aR => exact qCB HR2.out); (case aB => exact qB); (case aF => exact (fun k_ hk => (Nat.le_trans (below_size qB) hk))); (case aO => exact (by (with_reducible repeat (first | apply Kd.R_alloc | apply Kd.R_drewN | apply Kd.R_drew)); exact Kd.R_mono HO141.out (fun _ hk => hk.1))); (case aS => exact (below_size qB)); (case aL => have := LMc5.out; omega); intro v143 w10 ho hb hg hat; rw [← Ny142.out] at ho; replace HO3 := zA (Kd.V_afterv (ok := (fun k_ => (P3_ k_ ∨ w.heap.size ≤ k_))) (qV HO3.out) hg hat); replace HB := zA (hb); have HO144 := zA (ho); clear HO141; clear ho hb hg hat) | ((with_reducible refine gate_builtin (b := .append) (xs := #[.tmp 18, .tmp 20]) rfl ?_); at_builtin; refine Kd.R_append (Kd.int .i64) (w0 := w) w.heap.size rfl (.tmp 18) (.tmp 20) 25 3 (.int .i64 0) 8 rfl Try.underlying25 info3 rfl (by decide) (by omega) v143 y142 a1 [.int .i64 a1] (fun k_ => (w.heap.size ≤ k_)) (fun _ => False) rfl rfl ?aP (fun _ hk => hk.elim) ?aF ?aO ?aB ?aS ?aL ?_; (case aP => exact rfl); (case aB => exact qB); (case aF => exact (fun k_ hk => (Nat.le_trans (below_size qB) hk))); (case aO => exact (qR HO144.out)); (case aS => exact (below_size qB)); (case aL => have := LMc6.out; omega); intro v146 w11 ho hb hg hat; rw [← Ny145.out] at ho; replace HO3 := zA (Kd.V_afterv (ok := (fun k_ => (P3_ k_ ∨ w.heap.size ≤ k_))) (qV HO3.out) hg hat); replace HB := zA (hb); have HO147 := zA (ho); clear HO144; clear ho hb hg hat) | ((with_reducible refine gate_callee (f := 13) rfl ?_); refine goesL_ (some 24) rfl rfl Try.func13 (by kernel_rfl) rfl #[.slice A0 l0.length c0, .int .i64 a1] rfl qL ?_; (with_reducible refine (cubbyref09_Succs.calls k _ _ l0 a1 t148 _ ?side1 ?side2 A7.out).mono ?_); (case side1 => exact qCB HR0.out); (case side2 => exact HC0.out); rintro e w12 ⟨v149, rfl, ho0, hb⟩; refine ⟨_, rfl, ?_⟩; replace HO3 := zA (Kd.V_elder' (qV HO3.out) (Kd.R_base ho0) hb); have HO150 := zA (Kd.R_lower (Kd.R_new' (Kd.R_newM (M := fun k_ => (w.heap.size ≤ k_)) ho0 (below_size qB) (fun k_ h_ => h_)) (Kd.R_lt (qR HO147.out))) (below_size qB)); replace HO147 := zA (Kd.R_elder' (qR HO147.out) (Kd.R_base ho0) hb); replace HB := qH hb; (try clear hb); (try clear ho0)))
   go_loopg [2, 3, 12] k (fun kq v2 v3 v12 w' => ∃ (x2_1 : List Int) (x3_1 : List Int) (x12_1 : Int), v12 = .int .i64 x12_1 ∧ Aside0 (cubbyref09_visit.l0 kq l0 a1 x2_1 x3_1 t148 x12_1 = some (r1, r2)) ∧ Aside0 (kq ≤ k) ∧ Aside0 (Kd.R (Kd.int .i64) 3 w' w.heap.size (fun k_ => (w.heap.size ≤ k_) ∧ some k_ ≠ (v149 : Value).ownBlock) v2 x2_1) ∧ Aside0 (Kd.V (Kd.int .i64) 3 w' w.heap.size (fun k_ => (P3_ k_ ∨ w.heap.size ≤ k_) ∧ some k_ ≠ (v2 : Value).ownBlock ∧ some k_ ≠ (v149 : Value).ownBlock) v3 x3_1) ∧ Aside0 (Kd.R (Kd.int .i64) 3 w' w.heap.size (fun k_ => (w.heap.size ≤ k_) ∧ some k_ ≠ (v2 : Value).ownBlock) v149 t148) ∧ Aside0 (Below w.heap.size w w'))
   case atStart => exact ⟨(y145), (l3), (0), qT, H', ⟨Nat.le_refl _⟩, ⟨qR HO147.out⟩, ⟨by (with_reducible repeat (first | apply Kd.V_alloc | apply Kd.V_drewN | apply Kd.V_drew)); exact Kd.V_mono HO3.out (fun _ hk => ⟨hk.1.1, ⟨hk.1.2, hk.2⟩⟩)⟩, ⟨by (with_reducible repeat (first | apply Kd.R_alloc | apply Kd.R_drewN | apply Kd.R_drew)); exact Kd.R_mono HO150.out (fun _ hk => ⟨hk.1.1, hk.2⟩)⟩, ⟨qB⟩⟩
   case round =>
    clear H'
    obtain ⟨x2_1, x3_1, x12_1, rfl, HA, HK1, HO_2, HO_3, HO_11, HB⟩ := hrel
    cases gk with
    | zero => exact absurd HA.out (by simp [cubbyref09_visit.l0])
    | succ k1 =>
     have H := HA.out
     clear HA
     simp only [cubbyref09_visit.l0] at H
     by_cases c13 : x12_1 < (t148.length : Int)
     ·rw [zC c13] at H
      have c13b0 := zF c13
      clear c13
      by_cases c14 : 0 ≤ x12_1
      ·rw [zC c14] at H
       have c14b0 := zF c14
       clear c14
       replace H := qb H; obtain ⟨t158, A15, H⟩ := H
       by_cases c16 : t158 = true
       ·subst c16
        have H1 : (cubbyref09_visit.l0 k1 l0 a1 x2_1 x3_1 t148 (wrap64 (x12_1 + 1))) = some (r1, r2) := by rw [zC rfl] at H; exact H
        clear H
        have H := H1
        clear H1
        have H' := zA H
        clear H
        obtain ⟨Ao17, co17, eo17⟩ := Kd.R_slice HO_11.out
        subst eo17
        have p157 : 0 ≤ (x12_1 : Int) := zB qA
        have q157 : x12_1 < (t148.length : Int) := zB qA
        obtain ⟨ad157, e157, hx157_0⟩ := Kd.at_int (Kd.R_reads' HO_11.out).2.2 x12_1 p157 q157
        cases e157
        replace p157 := eq_true p157
        replace q157 := eq_true q157
        obtain ⟨Ao18, co18, eo18⟩ := Kd.R_slice HO_2.out
        subst eo18
        go_wp2_with (first | ((with_reducible refine gate_callee (f := 14) rfl ?_); refine goesL_ (some 36) rfl rfl Try.func14 (by kernel_rfl) rfl #[.slice Ao18 x2_1.length co18, .int .i64 (rd t148 x12_1)] rfl qL ?_; (with_reducible refine (cubbyref09_has.calls k1 _ _ x2_1 (rd t148 x12_1) true _ ?side1 ?side2 A15.out).mono ?_); (case side1 => repeat (first | exact (Kd.R_reads' HO_2.out).2.2 | (with_reducible refine Kd.C_alloc ?_ _) | (with_reducible refine Kd.C_drewN ?_ _) | (with_reducible refine Kd.C_drew ?_))); (case side2 => exact (Kd.R_reads' HO_2.out).2.1); rintro e w' ⟨rfl, ⟨nd, rfl⟩⟩; refine ⟨_, rfl, ?_⟩))
        go_roundg k1
        case measure => have := HK1.out; omega
        case rel => exact ⟨(x2_1), (x3_1), (wrap64 (x12_1 + 1)), qT, H', ⟨by have := HK1.out; omega⟩, ⟨qR HO_2.out⟩, ⟨qV HO_3.out⟩, ⟨qR HO_11.out⟩, ⟨qB⟩⟩
       ·replace c16 := Bool.eq_false_iff.mpr c16
        subst c16
        have H1 : ((cubbyref09_visit.f k1 l0 (rd t148 x12_1) x2_1 x3_1).bind fun bt160 => (cubbyref09_visit.l0 k1 l0 a1 bt160.1 bt160.2 t148 (wrap64 (x12_1 + 1)))) = some (r1, r2) := by rw [zD (show ¬ (false = true) by decide)] at H; exact H
        clear H
        have H := H1
        clear H1
        replace H := Option.bind_eq_some_iff.mp H
        obtain ⟨⟨t160, t163⟩, A190, H⟩ := H
        replace H : (cubbyref09_visit.l0 k1 l0 a1 t160 t163 t148 (wrap64 (x12_1 + 1))) = some (r1, r2) := H
        have A19 := zA A190
        clear A190
        have H' := zA H
        clear H
        obtain ⟨Ao20, co20, eo20⟩ := Kd.R_slice HO_11.out
        subst eo20
        have p157 : 0 ≤ (x12_1 : Int) := zB qA
        have q157 : x12_1 < (t148.length : Int) := zB qA
        obtain ⟨ad157, e157, hx157_0⟩ := Kd.at_int (Kd.R_reads' HO_11.out).2.2 x12_1 p157 q157
        cases e157
        replace p157 := eq_true p157
        replace q157 := eq_true q157
        obtain ⟨Ao21, co21, eo21⟩ := Kd.R_slice HO_2.out
        subst eo21
        go_wp2_with (first | ((with_reducible refine gate_callee (f := 14) rfl ?_); refine goesL_ (some 36) rfl rfl Try.func14 (by kernel_rfl) rfl #[.slice Ao21 x2_1.length co21, .int .i64 (rd t148 x12_1)] rfl qL ?_; (with_reducible refine (cubbyref09_has.calls k1 _ _ x2_1 (rd t148 x12_1) false _ ?side1 ?side2 A15.out).mono ?_); (case side1 => repeat (first | exact (Kd.R_reads' HO_2.out).2.2 | (with_reducible refine Kd.C_alloc ?_ _) | (with_reducible refine Kd.C_drewN ?_ _) | (with_reducible refine Kd.C_drew ?_))); (case side2 => exact (Kd.R_reads' HO_2.out).2.1); rintro e w' ⟨rfl, ⟨nd, rfl⟩⟩; refine ⟨_, rfl, ?_⟩; have p159 : 0 ≤ (x12_1 : Int) := zB qA; have q159 : x12_1 < (t148.length : Int) := zB qA; obtain ⟨ad159, e159, hx159_0⟩ := Kd.at_int (Kd.R_reads' HO_11.out).2.2 x12_1 p159 q159; obtain rfl : ad157 = ad159 := (by injection e159); replace p159 := eq_true p159; replace q159 := eq_true q159; obtain ⟨Ao22, co22, eo22⟩ := Kd.V_slice HO_3.out; subst eo22) | ((with_reducible refine gate_callee (f := 10) rfl ?_); refine goesL_ (some 46) rfl rfl Try.func10 (by kernel_rfl) rfl #[.slice A0 l0.length c0, .int .i64 (rd t148 x12_1), .slice Ao21 x2_1.length co21, .slice Ao22 x3_1.length co22] rfl qL ?_; (with_reducible refine (ih k1 (by have := HK1.out; omega) _ _ l0 (rd t148 x12_1) _ _ x2_1 (fun k_ => ((P3_ k_ ∨ w.heap.size ≤ k_) ∧ (some k_ ≠ (.slice Ao21 x2_1.length co21 : Value).ownBlock ∧ some k_ ≠ (.slice (some ad157) t148.length co20 : Value).ownBlock))) _ _ x3_1 t160 t163 _ ?side1 ?side2 ?side3 ?side4 ?side5 A19.out).mono ?_); (case side1 => repeat (first | exact (Kd.C_below HR0.out qB) | (with_reducible refine Kd.C_alloc ?_ _) | (with_reducible refine Kd.C_drewN ?_ _) | (with_reducible refine Kd.C_drew ?_))); (case side2 => exact HC0.out); (case side3 => repeat (first | exact (Kd.R_reads' HO_2.out).2.2 | (with_reducible refine Kd.C_alloc ?_ _) | (with_reducible refine Kd.C_drewN ?_ _) | (with_reducible refine Kd.C_drew ?_))); (case side4 => exact (Kd.R_reads' HO_2.out).2.1); (case side5 => exact HO_3.out); rintro e w23 ⟨v161, v164, rfl, ho0, ho1, hb⟩; refine ⟨_, rfl, ?_⟩; replace HO_3 := zA (Kd.V_mono (Kd.V_told (Kd.V_told (Kd.V_old (qV HO_3.out) hb) (Kd.R_base ho0)) (Kd.R_base ho1)) (fun _ h_ => h_.1)); have HO162 := zA (Kd.R_lower (Kd.R_new' (Kd.R_new' (Kd.R_newM (M := fun k_ => (w.heap.size ≤ k_)) (Kd.R_mono (ok' := fun k_ => some k_ ≠ (v164 : Value).ownBlock) ho0 (fun _ hk_ => hk_.2)) (below_size qB) (fun k_ h_ => h_)) (Kd.R_lt (qR HO_2.out))) (Kd.R_lt (qR HO_11.out))) (below_size qB)); have HO165 := zA (Kd.R_lower (Kd.R_new' (Kd.R_new' (Kd.R_newM (M := fun k_ => (w.heap.size ≤ k_)) (Kd.R_mono (ok' := fun k_ => some k_ ≠ (v161 : Value).ownBlock) ho1 (fun _ hk_ => hk_.2)) (below_size qB) (fun k_ h_ => h_)) (Kd.R_lt (qR HO_2.out))) (Kd.R_lt (qR HO_11.out))) (below_size qB)); replace HO_2 := zA (Kd.R_mono (Kd.R_told (Kd.R_told (Kd.R_old (qR HO_2.out) hb) (Kd.R_base ho0)) (Kd.R_base ho1)) (fun _ h_ => h_.1)); replace HO_11 := zA (Kd.R_mono (Kd.R_told (Kd.R_told (Kd.R_old (qR HO_11.out) hb) (Kd.R_base ho0)) (Kd.R_base ho1)) (fun _ h_ => h_.1)); replace HB := qH hb; (try clear ho1)))
        go_roundg k1
        case measure => have := HK1.out; omega
        case rel => exact ⟨(t160), (t163), (wrap64 (x12_1 + 1)), qT, H', ⟨by have := HK1.out; omega⟩, ⟨by (with_reducible repeat (first | apply Kd.R_alloc | apply Kd.R_drewN | apply Kd.R_drew)); exact Kd.R_mono HO162.out (fun _ hk => ⟨hk.1.1.1, hk.2⟩)⟩, ⟨Kd.V_mono (Kd.R_V HO165.out) (fun k_ hk => ⟨.inr (hk.1.1.1), ⟨hk.1.1.2, hk.2⟩⟩)⟩, ⟨by (with_reducible repeat (first | apply Kd.R_alloc | apply Kd.R_drewN | apply Kd.R_drew)); exact Kd.R_mono HO_11.out (fun _ hk => ⟨hk.1.1.1, hk.1.2⟩)⟩, ⟨qB⟩⟩
      ·rw [zD c14] at H
       exact absurd H (by simp)
     ·rw [zD c13] at H
      have c13b0 := zG c13
      clear c13
      obtain ⟨y151, hy151⟩ : ∃ y_ : List Int, y_ = (([a1] : List Int)) := ⟨_, rfl⟩
      replace H : (if y151.length + x3_1.length < 17592186044416 then (some (x2_1, (y151 ++ x3_1))) else (none)) = some (r1, r2) := by (try rw [hy151]); first | with_reducible exact H | exact (zJ _ _).symm.trans H | exact H
      have Ny151 := zA hy151
      clear hy151
      by_cases c24 : y151.length + x3_1.length < 17592186044416
      ·rw [zC c24] at H
       have LMc24 := zA c24
       clear c24
       obtain ⟨y154, hy154⟩ : ∃ y_ : List Int, y_ = (y151 ++ x3_1) := ⟨_, rfl⟩
       replace H : (some (x2_1, y154)) = some (r1, r2) := by (try rw [hy154]); first | with_reducible exact H | exact (zJ _ _).symm.trans H | exact H
       have Ny154 := zA hy154
       clear hy154
       simp only [Option.some.injEq, Prod.mk.injEq] at H
       obtain ⟨rfl, rfl⟩ := H
       obtain ⟨Ao25, co25, eo25⟩ := Kd.R_slice HO_11.out
       subst eo25
       go_wp2_with (first | ((with_reducible refine gate_dst (N := 50) rfl ?_); refine Kd.R_lit (Kd.int .i64) _ 3 (by rfl) (N := 50) (by rfl) (xs := ([a1] : List Int)) (inner := [.int .i64 a1]) (ok := fun _ => True) (okp := fun _ => True) ?hr ?hp (fun _ hk => hk) trivial (Below.refl _ _) (Nat.le_refl _) (by simp) ?_; (case hr => go_simp <;> rfl); (case hp => exact (Reps.one (show Kd.M (Kd.int .i64) _ _ _ a1 [.int .i64 a1] from rfl) (Reps.none _ _))); intro v152 w26 ho27 hb hg_ hnew_; clear hg_ hnew_; (first | rw [← Ny151.out] at ho27 | (simp only [Int.reduceToNat] at ho27; rw [← Ny151.out] at ho27)); replace HO_3 := zA (Kd.V_elder' (qV HO_3.out) (Kd.R_base ho27) hb); have HO153 := zA (Kd.R_lower (Kd.R_new' (Kd.R_new' (Kd.R_newM (M := fun k_ => (w.heap.size ≤ k_)) ho27 (below_size qB) (fun k_ h_ => h_)) (Kd.R_lt (qR HO_2.out))) (Kd.R_lt (qR HO_11.out))) (below_size qB)); replace HO_2 := zA (Kd.R_elder' (qR HO_2.out) (Kd.R_base ho27) hb); replace HO_11 := zA (Kd.R_elder' (qR HO_11.out) (Kd.R_base ho27) hb); replace HB := qH hb; clear hb ho27; obtain ⟨Ao29, co29, eo29⟩ := Kd.V_slice HO_3.out; subst eo29) | ((with_reducible refine gate_builtin (b := .append) (xs := #[.tmp 52, .tmp 53]) rfl ?_); at_builtin; refine Kd.R_append_rows (Kd.int .i64) (w0 := w) w.heap.size rfl (.tmp 52) (.tmp 53) 25 3 (.int .i64 0) 8 rfl Try.underlying25 info3 rfl (by decide) (by omega) v152 y151 x3_1 _ _ _ (fun k_ => (w.heap.size ≤ k_) ∧ some k_ ≠ (u2 : Value).ownBlock ∧ some k_ ≠ (.slice Ao25 t148.length co25 : Value).ownBlock) (fun _ => False) rfl rfl ?aO ?aR (fun _ _ h => h) (fun _ h => h.elim) ?aF ?aB ?aS ?aL ?_; (case aR => repeat (first | exact (Kd.V_reads' HO_3.out).2.2 | (with_reducible refine Kd.C_alloc ?_ _) | (with_reducible refine Kd.C_drewN ?_ _) | (with_reducible refine Kd.C_drew ?_))); (case aB => exact qB); (case aF => exact (fun k_ hk => ⟨(Nat.le_trans (below_size qB) hk), Kd.fresh' (Kd.R_lt (qR HO_2.out)) k_ hk, Kd.fresh' (Kd.R_lt (qR HO_11.out)) k_ hk⟩)); (case aO => exact (by (with_reducible repeat (first | apply Kd.R_alloc | apply Kd.R_drewN | apply Kd.R_drew)); exact Kd.R_mono HO153.out (fun _ hk => ⟨hk.1.1.1, ⟨hk.1.2, hk.2⟩⟩))); (case aS => exact (below_size qB)); (case aL => have := LMc24.out; omega); intro v155 w28 ho hb hg hat; rw [← Ny154.out] at ho; replace HO_2 := zA (Kd.R_after (ok := (fun k_ => (w.heap.size ≤ k_) ∧ some k_ ≠ (.slice Ao25 t148.length co25 : Value).ownBlock)) (qR HO_2.out) hg hat); replace HO_3 := zA (Kd.V_afterv (ok := (fun k_ => (P3_ k_ ∨ w.heap.size ≤ k_) ∧ some k_ ≠ (u2 : Value).ownBlock ∧ some k_ ≠ (.slice Ao25 t148.length co25 : Value).ownBlock)) (qV HO_3.out) hg hat); replace HO_11 := zA (Kd.R_after (ok := (fun k_ => (w.heap.size ≤ k_) ∧ some k_ ≠ (u2 : Value).ownBlock)) (qR HO_11.out) hg hat); replace HB := zA (hb); have HO156 := zA (ho); clear HO153; clear ho hb hg hat))
       go_ret2
       exact ⟨_, _, qE, by (with_reducible repeat (first | apply Kd.R_alloc | apply Kd.R_drewN | apply Kd.R_drew)); exact Kd.R_mono HO_2.out (fun _ hk => ⟨hk.1.1, hk.2⟩), by (with_reducible repeat (first | apply Kd.R_alloc | apply Kd.R_drewN | apply Kd.R_drew)); exact Kd.R_mono HO156.out (fun _ hk => ⟨hk.1, hk.2.1⟩), qB⟩
      ·rw [zD c24] at H
       exact absurd H (by simp)
  ·rw [zD c6] at H
   exact absurd H (by simp)
 ·rw [zD c5] at H
  exact absurd H (by simp)

def cubbyref09_Order.f (k : Nat) (l0 : List (List (SIns))) : Option (List Int) := if (l0.length : Int) = 0 then (some ([] : List Int)) else ((cubbyref09_visit.f k l0 0 ([] : List Int) ([] : List Int)).bind fun bt166 => (some bt166.2))
set_option maxHeartbeats 8000000 in
set_option maxRecDepth 100000 in
theorem cubbyref09_Order.calls (k : Nat) (A0 : Option Addr) (c0 : Nat) (l0 : List (List (SIns))) (r : List Int) (w : World) (hr0 : Kd.C (Kd.slice 27 kIns) w A0 l0.length l0) (hc0 : l0.length ≤ c0) (h : cubbyref09_Order.f k l0 = some r) :
 Calls Try.prog 6 #[.slice A0 l0.length c0] w fun e w' => ∃ v0_ : Value, e = .returned (v0_) ∧ Kd.R (Kd.int .i64) 3 w' w.heap.size (fun _ => True) v0_ r ∧ Below w.heap.size w w' := by
 have HR0 := zA hr0
 have HC0 := zA hc0
 clear hr0 hc0
 have HB := zA (Below.refl w.heap.size w)
 have H := h; clear h; unfold cubbyref09_Order.f at H
 by_cases c2 : (l0.length : Int) = 0
 ·rw [zC c2] at H
  obtain ⟨c2b0, c2b1⟩ := qe c2; clear c2
  obtain rfl := zI H
  go_enter Try.func6, Try.ntmps6
  go_wp2
  go_ret
  exact ⟨_, qE, by first | exact Kd.R_nil _ _ _ _ _ | exact Kd.N_nil _ _ _ _ _ | exact Kd.V_nil _ _ _ _ _ | exact Kd.Q_nil _ _ _ _ _ | exact Kd.S_nil _ _ _ _ _, qB⟩
 ·rw [zD c2] at H
  obtain ⟨c2b0, c2b1⟩ := qn c2
  have c2b2 : ¬ (l0 = []) := fun h_ => c2 (by rw [h_]; rfl)
  replace H := Option.bind_eq_some_iff.mp H
  obtain ⟨⟨t166, t169⟩, A30, H⟩ := H
  replace H : (some t169) = some r := H
  have A3 := zA A30
  clear A30
  obtain rfl := zI H
  go_enter Try.func6, Try.ntmps6
  go_wp2_with (first | ((with_reducible refine gate_callee (f := 10) rfl ?_); refine goesL_ (some 10) rfl rfl Try.func10 (by kernel_rfl) rfl #[.slice A0 l0.length c0, .int .i64 0, .slice none 0 0, .slice none 0 0] rfl qL ?_; (refine (cubbyref09_visit.calls k _ _ l0 0 _ _ ([] : List Int) (fun k_ => False) _ _ ([] : List Int) t166 t169 _ ?side1 ?side2 ?side3 ?side4 ?side5 A3.out).mono ?_); (case side1 => repeat (first | exact HR0.out | (with_reducible refine Kd.C_alloc ?_ _) | (with_reducible refine Kd.C_drewN ?_ _) | (with_reducible refine Kd.C_drew ?_))); (case side2 => exact HC0.out); (case side3 => exact Kd.C_nil _ _); (case side4 => exact Nat.le_refl _); (case side5 => exact Kd.V_nil _ _ _ _ _); rintro e w4 ⟨v167, v170, rfl, ho0, ho1, hb⟩; refine ⟨_, rfl, ?_⟩; have HO168 := zA (Kd.R_lower (Kd.R_mono (ok' := fun k_ => some k_ ≠ (v170 : Value).ownBlock) ho0 (fun _ hk_ => hk_.2)) (below_size qB)); have HO171 := zA (Kd.R_lower (Kd.R_mono (ok' := fun k_ => some k_ ≠ (v167 : Value).ownBlock) ho1 (fun _ hk_ => hk_.2)) (below_size qB)); replace HB := qH hb; (try clear hb); (try clear ho0); (try clear ho1)))
  go_ret
  exact ⟨_, qE, by (with_reducible repeat (first | apply Kd.R_alloc | apply Kd.R_drewN | apply Kd.R_drew)); exact Kd.R_mono HO171.out (fun _ hk => trivial), qB⟩

def cubbylaw09_same.l0 : Nat → List Int → List Int → Int → Option (Bool)
 | 0, _, _, _ => none
 | k + 1, x0, x1, x5 => if x5 < (x0.length : Int) then (if 0 ≤ x5 then (if x5 < (x1.length : Int) then (if (rd x0 x5) = (rd x1 x5) then (cubbylaw09_same.l0 k x0 x1 (wrap64 (x5 + 1))) else (some false)) else (none)) else (none)) else (some true)
def cubbylaw09_same.f (k : Nat) (l0 : List Int) (l1 : List Int) : Option (Bool) := if (l0.length : Int) = (l1.length : Int) then (cubbylaw09_same.l0 k l0 l1 0) else (some false)
set_option maxHeartbeats 8000000 in
set_option maxRecDepth 100000 in
theorem cubbylaw09_same.calls (k : Nat) (A0 : Option Addr) (c0 : Nat) (l0 : List Int) (A1 : Option Addr) (c1 : Nat) (l1 : List Int) (r : Bool) (w : World) (hr0 : Kd.C (Kd.int .i64) w A0 l0.length l0) (hc0 : l0.length ≤ c0) (hr1 : Kd.C (Kd.int .i64) w A1 l1.length l1) (hc1 : l1.length ≤ c1) (h : cubbylaw09_same.f k l0 l1 = some r) :
 Calls Try.prog 5 #[.slice A0 l0.length c0, .slice A1 l1.length c1] w fun e w' => e = .returned (.bool r) ∧ Drawn0 w w' := by
 have HR0 := zA hr0
 have HC0 := zA hc0
 clear hr0 hc0
 have HR1 := zA hr1
 have HC1 := zA hc1
 clear hr1 hc1
 have H := h; clear h; unfold cubbylaw09_same.f at H
 by_cases c3 : (l0.length : Int) = (l1.length : Int)
 ·rw [zC c3] at H
  obtain ⟨c3b0, c3b1⟩ := qe c3
  have c3b2 : (l0.length == l1.length) = true := by first | simpa using c3 | (simp at c3 ⊢; omega)
  clear c3
  have H' := zA H
  clear H
  go_enter Try.func5, Try.ntmps5
  go_wp2
  repeat (go_quiet (fail); try go_wp2)
  go_loopg [5] k (fun kq v5 w' => ∃ (x5_1 : Int), v5 = .int .i64 x5_1 ∧ Aside0 (cubbylaw09_same.l0 kq l0 l1 x5_1 = some r) ∧ Aside0 (kq ≤ k) ∧ Drawn0 w w')
  case atStart => exact ⟨(0), qT, H', ⟨Nat.le_refl _⟩, qD⟩
  case round =>
   clear H'
   try clear c1; try clear p2; try clear c3b0 c3b1 c3b2
   obtain ⟨x5_1, rfl, HA, HK1, ⟨m1, rfl⟩⟩ := hrel
   cases gk with
   | zero => exact absurd HA.out (by simp [cubbylaw09_same.l0])
   | succ k1 =>
    have H := HA.out
    clear HA
    simp only [cubbylaw09_same.l0] at H
    by_cases c4 : x5_1 < (l0.length : Int)
    ·rw [zC c4] at H
     have c4b0 := zF c4
     clear c4
     by_cases c5 : 0 ≤ x5_1
     ·rw [zC c5] at H
      have c5b0 := zF c5
      clear c5
      by_cases c6 : x5_1 < (l1.length : Int)
      ·rw [zC c6] at H
       have c6b0 := zF c6
       clear c6
       by_cases c7 : (rd l0 x5_1) = (rd l1 x5_1)
       ·rw [zC c7] at H
        obtain ⟨c7b0, c7b1⟩ := qe c7; clear c7
        have H' := zA H
        clear H
        have p105 : 0 ≤ (x5_1 : Int) := zB qA
        have q105 : x5_1 < (l0.length : Int) := zB qA
        obtain ⟨ad105, e105, hx105_0⟩ := Kd.at_int HR0.out x5_1 p105 q105
        cases e105
        replace p105 := eq_true p105
        replace q105 := eq_true q105
        have p106 : 0 ≤ (x5_1 : Int) := zB qA
        have q106 : x5_1 < (l1.length : Int) := zB qA
        obtain ⟨ad106, e106, hx106_0⟩ := Kd.at_int HR1.out x5_1 p106 q106
        cases e106
        replace p106 := eq_true p106
        replace q106 := eq_true q106
        go_wp2
        repeat (go_quiet (fail); try go_wp2)
        go_roundg k1
        case measure => have := HK1.out; omega
        case rel => exact ⟨(wrap64 (x5_1 + 1)), qT, H', ⟨by have := HK1.out; omega⟩, qD⟩
       ·rw [zD c7] at H
        obtain ⟨c7b0, c7b1⟩ := qn c7
        obtain rfl := zI H
        have p105 : 0 ≤ (x5_1 : Int) := zB qA
        have q105 : x5_1 < (l0.length : Int) := zB qA
        obtain ⟨ad105, e105, hx105_0⟩ := Kd.at_int HR0.out x5_1 p105 q105
        cases e105
        replace p105 := eq_true p105
        replace q105 := eq_true q105
        have p106 : 0 ≤ (x5_1 : Int) := zB qA
        have q106 : x5_1 < (l1.length : Int) := zB qA
        obtain ⟨ad106, e106, hx106_0⟩ := Kd.at_int HR1.out x5_1 p106 q106
        cases e106
        replace p106 := eq_true p106
        replace q106 := eq_true q106
        go_wp2
        repeat (go_quiet (fail); try go_wp2)
        go_ret
        exact ⟨by first | rfl | (simp; done) | (simp [*]; done), qD⟩
      ·rw [zD c6] at H
       exact absurd H (by simp)
     ·rw [zD c5] at H
      exact absurd H (by simp)
    ·rw [zD c4] at H
     have c4b0 := zG c4
     clear c4
     obtain rfl := zI H
     go_wp2
     repeat (go_quiet (fail); try go_wp2)
     go_ret
     exact ⟨by first | rfl | (simp; done) | (simp [*]; done), qD⟩
 ·rw [zD c3] at H
  obtain ⟨c3b0, c3b1⟩ := qn c3
  have c3b2 : (l0.length == l1.length) = false := by first | simpa using c3 | (simp at c3 ⊢; omega)
  obtain rfl := zI H
  go_enter Try.func5, Try.ntmps5
  go_wp2
  repeat (go_quiet (fail); try go_wp2)
  go_ret
  exact ⟨by first | rfl | (simp; done) | (simp [*]; done), qD⟩
end Go.Proofs.Ythidcafbhjahdaa.Q
namespace Go.Proofs.Ythidcafbhjahdaa.Q
open Go.RowKit Go.Proofs.YthidcafbhjahdaaW.PrintWords Go.Proofs.YthidcafbhjahdaaW.PrintLast Go.Proofs.YthidcafbhjahdaaW.PrintMore
set_option linter.unusedVariables false
set_option linter.unusedSimpArgs false
def insB (a b : Int) : SIns := ⟨13, b, 0, a, ⟨#[]⟩, []⟩
def insR : SIns := ⟨14, 0, 0, 0, ⟨#[]⟩, []⟩
def way (ts : List (List Int)) (i : Nat) (m : Nat) : Int := (i : Int) + 1 + (ts.getD i []).getD m 0 % ((ts.length : Int) - i)
def aheadB (ts : List (List Int)) (n : Nat) : List (List SIns) := (List.range n).map (fun i => [insB (way ts i 0) (way ts i 1)])
def aheadAll (ts : List (List Int)) : List (List SIns) := aheadB ts ts.length ++ [[insR]]
structure AheadOk (k : Nat) (bs : List (List SIns)) (l : List Int) : Prop where
 ord : flow_Order.f k bs = some l
 ref : cubbyref09_Order.f k bs = some l
 same : cubbylaw09_same.f k l l = some true
 pos : 0 < l.length
 small : l.length ≤ 1000000
 suc : ∀ (i : Nat) (h : i < l.length), ∃ s, flow_Succs.f k bs l[i] = some s ∧ s.length ≤ 1000000 ∧ ∀ (j : Nat) (hj : j < s.length), ∃ p, i < p ∧ p < l.length ∧ l[p]? = some s[j] ∧ ∀ q < p, l[q]? ≠ some s[j]
open Classical in
noncomputable def cubbylaw09_FlowAhead.f (k : Nat) (ts : List (List Int)) : Option Bool := if 30 < ts.length ∨ ((∀ x ∈ ts, ∀ y ∈ x, 0 ≤ y ∧ y < 256) ∧ ∃ l, AheadOk k (aheadAll ts) l) then some true else none
theorem aheadB_succ (ts : List (List Int)) (n : Nat) : aheadB ts (n + 1) = aheadB ts n ++ [[insB (way ts n 0) (way ts n 1)]] := by
 unfold aheadB; rw [List.range_succ, List.map_append]; rfl
theorem aheadB_len (ts : List (List Int)) (n : Nat) : (aheadB ts n).length = n := by simp [aheadB]
theorem way_bd {ts : List (List Int)} (hu : ∀ x ∈ ts, ∀ y ∈ x, 0 ≤ y ∧ y < 256) (i m : Nat) : 0 ≤ (ts.getD i []).getD m 0 ∧ (ts.getD i []).getD m 0 < 256 := by
 by_cases h : m < (ts.getD i []).length
 ·have hi : i < ts.length := by
   refine Classical.byContradiction fun h1 => ?_
   rw [List.getD_eq_getElem?_getD, List.getElem?_eq_none (by omega)] at h
   simp at h
  have hm : ts.getD i [] ∈ ts := by
   rw [List.getD_eq_getElem?_getD, List.getElem?_eq_getElem hi]; exact List.getElem_mem _
  refine hu _ hm _ ?_
  ·show (ts.getD i []).getD m 0 ∈ ts.getD i []
   generalize ts.getD i [] = b at h
   rw [List.getD_eq_getElem?_getD, List.getElem?_eq_getElem h]; exact List.getElem_mem _
 ·rw [List.getD_eq_getElem?_getD, List.getElem?_eq_none (by omega)]
  exact ⟨Int.le_refl _, by decide⟩
theorem at_pair {w : World} {A : Option Addr} {n : Nat} {ts : List (List Int)} {hs : 0 < (Kd.int .u8).sz} (h : Kd.C (Kd.arr 2 (Kd.int .u8) hs) w A n ts) (i : Int) (h0 : 0 ≤ i) (h1 : i < n) :
 ∃ ad, A = some ad ∧ w.cell? (ad.add (i.toNat * 2)) = some (.int .u8 ((ts.getD i.toNat []).getD 0 0)) ∧ w.cell? ⟨(ad.add (i.toNat * 2)).block, (ad.add (i.toNat * 2)).off + 1, none⟩ = some (.int .u8 ((ts.getD i.toNat []).getD 1 0)) := by
 obtain ⟨ad, c, e, _, hK, hc0⟩ := Kd.C_get h [] i h0 h1
 have hc : ∀ j u, c[j]? = some u → w.cell? (ad.add (i.toNat * 2 + j)) = some u := hc0
 obtain ⟨hl, hcs⟩ := Kd.arr_cells hK
 generalize ts.getD i.toNat [] = x at hl hcs
 obtain ⟨p, q, rfl⟩ : ∃ p q, x = [p, q] := by
  match x, hl with
  | [p, q], _ => exact ⟨p, q, rfl⟩
 subst hcs
 exact ⟨ad, e, hc 0 _ rfl, by rw [← add_field _ _ 1 (by omega)]; exact hc 1 _ rfl⟩
set_option maxHeartbeats 8000000 in
set_option maxRecDepth 100000 in
theorem cubbylaw09_FlowAhead.calls (k : Nat) (A0 : Option Addr) (c0 : Nat) (l0 : List (List Int)) (r : Bool) (w : World) {hs8 : 0 < (Kd.int .u8).sz} (hr0 : Kd.C (Kd.arr 2 (Kd.int .u8) hs8) w A0 l0.length l0) (hc0 : l0.length ≤ c0) (h : cubbylaw09_FlowAhead.f k l0 = some r) :
 Calls Try.prog 3 #[.slice A0 l0.length c0] w fun e w' => e = .returned (.bool r) ∧ Below w.heap.size w w' := by
 have HR := zA hr0
 have HC := zA hc0
 have HB := zA (Below.refl w.heap.size w)
 clear hr0 hc0
 unfold cubbylaw09_FlowAhead.f at h
 split at h
 case isFalse => cases h
 rename_i hc
 obtain rfl := zI h
 clear h
 by_cases c1 : 30 < l0.length
 ·have c1b : decide ((30 : Int) < (l0.length : Int)) = true := zF (by omega)
  clear c1 hc
  go_enter Try.func3, Try.ntmps3
  go_wp2_with fail
  go_ret
  exact ⟨rfl, HB.out⟩
 obtain ⟨HU, l, HL⟩ : Aside0 (∀ x ∈ l0, ∀ y ∈ x, 0 ≤ y ∧ y < 256) ∧ ∃ l, Aside0 (AheadOk k (aheadAll l0) l) := by
  rcases hc with h | ⟨hu, l, h⟩
  ·exact absurd h c1
  ·exact ⟨⟨hu⟩, l, ⟨h⟩⟩
 clear hc
 have hn30 : l0.length ≤ 30 := by omega
 have c1b : decide ((30 : Int) < (l0.length : Int)) = false := zG (by omega)
 clear c1
 have hlw : IntKind.i64.wrap ((l0.length : Int) + 1) = (l0.length : Int) + 1 := IntWalk.i64_in _ (by omega)
 go_enter Try.func3, Try.ntmps3
 go_wp2_with (first
  | ((with_reducible refine gate_dst (N := 16) rfl ?_); refine Kd.S_lit (Kd.slice 27 kIns) _ 28 (by rfl) (N := 16) (by rfl) (xs := ([] : List (List SIns))) (inner := []) (ok := fun _ => True) (okp := fun _ => True) ?hr ?hp (fun _ hk => hk) trivial (Below.refl _ _) (Nat.le_refl _) (by simp) ?_; (case hr => go_simp <;> rfl); (case hp => exact (Reps.none _ _)); intro v3 w1 ho_ hb_ hg_ hnew_; have HS := zA ho_; replace HB := zA hb_; clear ho_ hb_ hg_ hnew_))
 go_loopg [3, 5] l0.length (fun kq v3 v5 w' => ∃ (n : Nat) (xs : List (List SIns)), v5 = .int .i64 (n : Int) ∧ Aside0 (kq + n = l0.length) ∧ Aside0 (xs = aheadB l0 n) ∧ Aside0 (Kd.S (Kd.slice 27 kIns) 28 w' w.heap.size (fun _ => True) v3 xs) ∧ Aside0 (Below w.heap.size w w'))
 case atStart => exact ⟨0, [], by first | rfl | simp, ⟨by omega⟩, ⟨rfl⟩, HS, HB⟩
 case round =>
  clear HS HB
  obtain ⟨n, xs, rfl, HK, HX, HS, HB⟩ := hrel
  cases gk with
  | zero =>
   have d1 : ¬ ((n : Int) < (l0.length : Int)) := by have := HK.out; omega
   have d1b := zG d1
   have hn : n = l0.length := by have := HK.out; omega
   subst hn
   clear d1 HK hlw
   go_wp2_with (first
    | ((with_reducible refine gate_dst (N := 63) rfl ?_); refine Kd.R_lit kIns _ 27 (by rfl) (N := 63) (by rfl) (xs := [insR]) (inner := [.int .i64 14, .int .i64 0, .int .i64 0, .int .i64 0, .string ⟨#[]⟩, .slice none 0 0]) (ok := fun _ => True) (okp := fun _ => True) ?hr ?hp (fun _ hk => hk) trivial (Below.refl _ _) (Nat.le_refl _) (by simp) ?_; (case hr => go_simp <;> rfl); (case hp => exact Reps.c6 (kIns_mkM _ _ _ insR (Kd.R_nil _ _ _ _ _)) (Reps.none _ _)); intro v58 w7 ho_ hb_ hg_ hnew_; obtain ⟨A58, c58, e58⟩ := Kd.R_slice ho_; replace e58 : v58 = .slice A58 1 c58 := e58; subst e58; have ho := zA ho_; have hb := zA hb_; clear ho_ hb_ hg_ hnew_)
    | ((with_reducible refine gate_builtin (b := .append) (xs := #[.tmp 61, .tmp 64]) rfl ?_); at_builtin; (refine Kd.S_append (Kd.slice 27 kIns) (w0 := w) w.heap.size rfl (.tmp 61) (.tmp 64) 23 28 (.slice none 0 0) 24 rfl Try.underlying23 info28 rfl (by decide) (by omega) u3 xs [insR] [.slice A58 1 c58] (fun _ => True) (fun q => wr.heap.size ≤ q) rfl rfl ⟨_, rfl, Kd.R_lower (Kd.R_mono (Kd.R_bound ho.out) (fun q hq => hq.2.1)) (below_size HB.out)⟩ (fun q hq => ⟨trivial, fun e => by have := Kd.S_lt HS.out q e.symm; omega⟩) (fun _ _ => trivial) (Kd.S_mono (Kd.S_old HS.out hb.out) (fun q hq => ⟨trivial, by omega⟩)) (below_step HB.out hb.out) (below_size (below_step HB.out hb.out)) ?aL ?_; (case aL => rw [HX.out, aheadB_len]; omega)); intro v65 w8 ho_ hb_ hg_ hat_; replace HS := zA ho_; replace HB := zA hb_; clear ho_ hb_ hg_ hat_ ho hb;
        obtain ⟨bs, hbs⟩ : ∃ bs, bs = xs ++ [[insR]] := ⟨_, rfl⟩; rw [← hbs] at HS; have HBS := zA (show bs = aheadAll l0 by rw [hbs, HX.out]; rfl); obtain ⟨AB, cB, eB⟩ := Kd.S_slice HS.out; subst eB; have hSR := Kd.S_reads' HS.out; have HCB := zA hSR.2.2; have HcB := zA hSR.2.1; rw [← HBS.out] at HL; clear hSR hbs HX)
    | ((with_reducible refine gate_callee (f := 4) rfl ?_); refine goesL_ (some 67) rfl rfl Try.func4 (by kernel_rfl) rfl #[.slice AB bs.length cB] rfl qL ?_; (with_reducible refine (flow_Order.calls k _ _ bs l _ ?side1 ?side2 HL.out.ord).mono ?_); (case side1 => exact HCB.out); (case side2 => exact HcB.out); rintro e w9 ⟨v0, rfl, ho, hb⟩; refine ⟨_, rfl, ?_⟩; replace HCB := zA (Kd.C_below HCB.out hb); replace HB := zA (below_step HB.out hb); obtain ⟨Al, cl, el⟩ := Kd.R_slice ho; subst el; have hrr := Kd.R_reads' ho; have HCL := zA hrr.2.2; have Hcl := zA hrr.2.1; clear hrr ho hb HS)
    | ((with_reducible refine gate_callee (f := 6) rfl ?_); refine goesL_ (some 70) rfl rfl Try.func6 (by kernel_rfl) rfl #[.slice AB bs.length cB] rfl qL ?_; (with_reducible refine (cubbyref09_Order.calls k _ _ bs l _ ?side1 ?side2 HL.out.ref).mono ?_); (case side1 => exact HCB.out); (case side2 => exact HcB.out); rintro e w10 ⟨v0, rfl, ho, hb⟩; refine ⟨_, rfl, ?_⟩; replace HCB := zA (Kd.C_below HCB.out hb); replace HCL := zA (Kd.C_below HCL.out hb); replace HB := zA (below_step HB.out hb); obtain ⟨Am, cm, em⟩ := Kd.R_slice ho; subst em; have hrr := Kd.R_reads' ho; have HCM := zA hrr.2.2; have Hcm := zA hrr.2.1; clear hrr ho hb)
    | ((with_reducible refine gate_callee (f := 5) rfl ?_); refine goesL_ (some 71) rfl rfl Try.func5 (by kernel_rfl) rfl #[.slice Al l.length cl, .slice Am l.length cm] rfl qL ?_; (with_reducible refine (cubbylaw09_same.calls k _ _ l _ _ l true _ ?side1 ?side2 ?side3 ?side4 HL.out.same).mono ?_); (case side1 => exact HCL.out); (case side2 => exact Hcl.out); (case side3 => exact HCM.out); (case side4 => exact Hcm.out); rintro e w11 ⟨rfl, hd⟩; refine ⟨_, rfl, ?_⟩; have hb := hd.below; replace HCB := zA (Kd.C_below HCB.out hb); replace HCL := zA (Kd.C_below HCL.out hb); replace HB := zA (below_step HB.out hb); clear hd hb HCM Hcm))
   go_loopg [9] l.length (fun kq v9 w' => ∃ (i : Nat), v9 = .int .i64 (i : Int) ∧ Aside0 (kq + i = l.length) ∧ Aside0 (Kd.C (Kd.slice 27 kIns) w' AB bs.length bs) ∧ Aside0 (Kd.C (Kd.int .i64) w' Al l.length l) ∧ Aside0 (Below w.heap.size w w'))
   case atStart => exact ⟨0, by first | rfl | simp, ⟨by omega⟩, HCB, HCL, HB⟩
   case round =>
    clear HCB HCL HB
    obtain ⟨i, rfl, HK, HCB, HCL, HB⟩ := hrel
    have hls := HL.out.small
    cases gk with
    | zero =>
     have d1 : ¬ ((i : Int) < (l.length : Int)) := by have := HK.out; omega
     have d1b := zG d1
     have hp := HL.out.pos
     have d2b : decide ((0 : Int) < (l.length : Int)) = true := zF (by omega)
     have d2c : decide (0 < l.length) = true := zF (by omega)
     go_wp2_with fail
     go_ret
     exact ⟨rfl, HB.out⟩
    | succ k1 =>
     have hi : i < l.length := by have := HK.out; omega
     have d1b := zF (show ((i : Int) < (l.length : Int)) by omega)
     obtain ⟨adl, el, hx0⟩ := Kd.at_int HCL.out (i : Int) (by omega) (by omega)
     subst el
     rw [Int.toNat_natCast] at hx0
     have hrd : rd l (i : Int) = l[i] := by show l.getD _ 0 = _; rw [Int.toNat_natCast, List.getD_eq_getElem?_getD, List.getElem?_eq_getElem hi]; rfl
     rw [hrd] at hx0
     clear hrd
     obtain ⟨s, hs, hsl, hs2⟩ := HL.out.suc i hi
     have HS2 := zA hs2
     have HS1 := zA hs
     clear hs hs2
     generalize l[i] = li at hx0 HS1
     go_wp2_with ((with_reducible refine gate_callee (f := 7) rfl ?_); refine goesL_ (some 84) rfl rfl Try.func7 (by kernel_rfl) rfl #[.slice AB bs.length cB, .int .i64 li] rfl qL ?_; (with_reducible refine (flow_Succs.calls k _ _ bs li s _ ?side1 ?side2 HS1.out).mono ?_); (case side1 => exact HCB.out); (case side2 => exact HcB.out); rintro e w9 ⟨v0, rfl, ho, hb⟩; refine ⟨_, rfl, ?_⟩; replace HCB := zA (Kd.C_below HCB.out hb); replace HCL := zA (Kd.C_below HCL.out hb); replace HB := zA (below_step HB.out hb); obtain ⟨As, cs, es⟩ := Kd.R_slice ho; subst es; have hrr := Kd.R_reads' ho; have HCS := zA hrr.2.2; clear hrr ho hb hx0)
     go_loopg [11] s.length (fun kq v11 w' => ∃ (j : Nat), v11 = .int .i64 (j : Int) ∧ Aside0 (kq + j = s.length) ∧ Aside0 (Kd.C (Kd.int .i64) w' As s.length s) ∧ Aside0 (Kd.C (Kd.slice 27 kIns) w' AB bs.length bs) ∧ Aside0 (Kd.C (Kd.int .i64) w' (some adl) l.length l) ∧ Aside0 (Below w.heap.size w w'))
     case atStart => exact ⟨0, by first | rfl | simp, ⟨by omega⟩, HCS, HCB, HCL, HB⟩
     case round =>
      clear HCS HCB HCL HB
      obtain ⟨j, rfl, HK2, HCS, HCB, HCL, HB⟩ := hrel
      cases gk with
      | zero =>
       have d1 : ¬ ((j : Int) < (s.length : Int)) := by have := HK2.out; omega
       have d2b := zG d1
       clear d1b
       go_wp2_with fail
       go_roundg k1
       case measure => have := HK.out; omega
       case rel => exact ⟨i + 1, by go_num, ⟨by have := HK.out; omega⟩, HCB, HCL, HB⟩
      | succ k2 =>
       have hj : j < s.length := by have := HK2.out; omega
       have d2b := zF (show ((j : Int) < (s.length : Int)) by omega)
       obtain ⟨p, hip, hpl, hpe, hpn⟩ := HS2.out j hj
       have HPE := zA hpe
       have HPN := zA hpn
       clear hpe hpn d1b
       go_wp2_with fail
       go_loopg [12] p (fun kq v12 w' => ∃ (q : Nat), v12 = .int .i64 (q : Int) ∧ Aside0 (kq + q = p) ∧ Aside0 (Kd.C (Kd.int .i64) w' As s.length s) ∧ Aside0 (Kd.C (Kd.slice 27 kIns) w' AB bs.length bs) ∧ Aside0 (Kd.C (Kd.int .i64) w' (some adl) l.length l) ∧ Aside0 (Below w.heap.size w w'))
       case atStart => exact ⟨0, by first | rfl | simp, ⟨by omega⟩, HCS, HCB, HCL, HB⟩
       case round =>
        clear HCS HCB HCL HB
        obtain ⟨q, rfl, HK3, HCS, HCB, HCL, HB⟩ := hrel
        have hq : q ≤ p := by have := HK3.out; omega
        have d3b := zF (show ((q : Int) < (l.length : Int)) by omega)
        obtain ⟨ad1, e1, hx0⟩ := Kd.at_int HCL.out (q : Int) (by omega) (by omega)
        cases e1
        obtain ⟨ads, e2, hx1⟩ := Kd.at_int HCS.out (j : Int) (by omega) (by omega)
        subst e2
        rw [Int.toNat_natCast] at hx0 hx1
        have hrd : rd s (j : Int) = s[j] := by show s.getD _ 0 = _; rw [Int.toNat_natCast, List.getD_eq_getElem?_getD, List.getElem?_eq_getElem hj]; rfl
        rw [hrd] at hx1
        have hql : q < l.length := by omega
        have hrl : rd l (q : Int) = l[q] := by show l.getD _ 0 = _; rw [Int.toNat_natCast, List.getD_eq_getElem?_getD, List.getElem?_eq_getElem hql]; rfl
        rw [hrl] at hx0
        clear hrd hrl
        cases gk with
        | zero =>
         obtain rfl : q = p := by have := HK3.out; omega
         have he : l[q] = s[j] := by have := HPE.out; rw [List.getElem?_eq_getElem hql] at this; exact zI this
         rw [he] at hx0
         generalize s[j] = y at hx0 hx1
         have d4b : decide ((q : Int) ≤ (i : Int)) = false := zG (by omega)
         have d4c : decide (q ≤ i) = false := zG (by omega)
         have d5b : ((q : Int) == (l.length : Int)) = false := (qn (by omega)).1
         have d5c : (q == l.length) = false := (qn (by omega)).1
         go_wp2_with fail
         go_quiet (fail)
         go_wp2_with fail
         have hb_ : Below wr.heap.size wr (wr.drewN nq) := pw_below_drewN (Below.refl _ _) nq
         go_roundg k2
         case measure => have := HK2.out; omega
         case rel => exact ⟨j + 1, by go_num, ⟨by have := HK2.out; omega⟩, ⟨Kd.C_below HCS.out hb_⟩, ⟨Kd.C_below HCB.out hb_⟩, ⟨Kd.C_below HCL.out hb_⟩, ⟨below_step HB.out hb_⟩⟩
        | succ k3 =>
         have hqp : q < p := by have := HK3.out; omega
         have he : ¬ l[q] = s[j] := fun e => HPN.out q hqp (by rw [List.getElem?_eq_getElem hql, e])
         generalize l[q] = x at hx0 he
         generalize s[j] = y at hx1 he
         obtain ⟨he0, he1⟩ := qn he
         go_wp2_with fail
         go_quiet (fail)
         go_wp2_with fail
         have hb_ : Below wr.heap.size wr (wr.drewN nq) := pw_below_drewN (Below.refl _ _) nq
         go_roundg k3
         case measure => have := HK3.out; omega
         case rel => exact ⟨q + 1, by go_num, ⟨by have := HK3.out; omega⟩, ⟨Kd.C_below HCS.out hb_⟩, ⟨Kd.C_below HCB.out hb_⟩, ⟨Kd.C_below HCL.out hb_⟩, ⟨below_step HB.out hb_⟩⟩
  | succ k1 =>
   have d1 : ((n : Int) < (l0.length : Int)) := by have := HK.out; omega
   have d1b := zF d1
   obtain ⟨ad, ea, hx0, hx1⟩ := at_pair HR.out (n : Int) (by omega) (by omega)
   subst ea
   replace hx0 := (HB.out.cell (zE w _ hx0)).trans hx0
   replace hx1 := (HB.out.cell (zE w _ hx1)).trans hx1
   rw [Int.toNat_natCast] at hx0 hx1
   obtain ⟨p0, p1⟩ := way_bd HU.out n 0
   obtain ⟨q0, q1⟩ := way_bd HU.out n 1
   have HW0 : Aside0 (way l0 n 0 = (n : Int) + 1 + (l0.getD n []).getD 0 0 % ((l0.length : Int) - n)) := ⟨rfl⟩
   have HW1 : Aside0 (way l0 n 1 = (n : Int) + 1 + (l0.getD n []).getD 1 0 % ((l0.length : Int) - n)) := ⟨rfl⟩
   generalize (l0.getD n []).getD 0 0 = y at p0 p1 hx0 HW0
   generalize (l0.getD n []).getD 1 0 = z at q0 q1 hx1 HW1
   have m0 : 0 ≤ y % ((l0.length : Int) + 1 - n - 1) := Int.emod_nonneg _ (by omega)
   have m1 : y % ((l0.length : Int) + 1 - n - 1) < 256 := by have := Int.emod_lt_of_pos y (show 0 < (l0.length : Int) + 1 - n - 1 by omega); omega
   have m2 : 0 ≤ z % ((l0.length : Int) + 1 - n - 1) := Int.emod_nonneg _ (by omega)
   have m3 : z % ((l0.length : Int) + 1 - n - 1) < 256 := by have := Int.emod_lt_of_pos z (show 0 < (l0.length : Int) + 1 - n - 1 by omega); omega
   rw [show (l0.length : Int) - n = (l0.length : Int) + 1 - n - 1 by omega] at HW0 HW1
   go_upto_region 10 with fail
   generalize (n : Int) + 1 + y % ((l0.length : Int) + 1 - n - 1) = a at HW0 ⊢
   generalize (n : Int) + 1 + z % ((l0.length : Int) + 1 - n - 1) = b at HW1 ⊢
   clear m0 m1 m2 m3 p0 p1 q0 q1 hx0 hx1
   go_wp2_with (first
    | ((with_reducible refine gate_dst (N := 58) rfl ?_); refine Kd.R_lit kIns _ 27 (by rfl) (N := 58) (by rfl) (xs := [insB a b]) (inner := [.int .i64 13, .int .i64 b, .int .i64 0, .int .i64 a, .string ⟨#[]⟩, .slice none 0 0]) (ok := fun _ => True) (okp := fun _ => True) ?hr ?hp (fun _ hk => hk) trivial (Below.refl _ _) (Nat.le_refl _) (by simp) ?_; (case hr => go_simp <;> rfl); (case hp => exact Reps.c6 (kIns_mkM _ _ _ (insB a b) (Kd.R_nil _ _ _ _ _)) (Reps.none _ _)); intro v58 w7 ho_ hb_ hg_ hnew_; obtain ⟨A58, c58, e58⟩ := Kd.R_slice ho_; replace e58 : v58 = .slice A58 1 c58 := e58; subst e58; have ho := zA ho_; have hb := zA hb_; clear ho_ hb_ hg_ hnew_)
    | ((with_reducible refine gate_builtin (b := .append) (xs := #[.tmp 54, .tmp 59]) rfl ?_); at_builtin; (refine Kd.S_append (Kd.slice 27 kIns) (w0 := w) w.heap.size rfl (.tmp 54) (.tmp 59) 23 28 (.slice none 0 0) 24 rfl Try.underlying23 info28 rfl (by decide) (by omega) u3 xs [insB a b] [.slice A58 1 c58] (fun _ => True) (fun q => wr.heap.size ≤ q) rfl rfl ⟨_, rfl, Kd.R_lower (Kd.R_mono (Kd.R_bound ho.out) (fun q hq => hq.2.1)) (below_size HB.out)⟩ (fun q hq => ⟨trivial, fun e => by have := Kd.S_lt HS.out q e.symm; omega⟩) (fun _ _ => trivial) (Kd.S_mono (Kd.S_old HS.out hb.out) (fun q hq => ⟨trivial, by omega⟩)) (below_step HB.out hb.out) (below_size (below_step HB.out hb.out)) ?aL ?_; (case aL => rw [HX.out, aheadB_len]; omega)); intro v60 w8 ho_ hb_ hg_ hat_; replace HS := zA ho_; replace HB := zA hb_; clear ho_ hb_ hg_ hat_ ho hb))
   go_roundg k1
   case measure => have := HK.out; omega
   case rel => exact ⟨n + 1, _, by go_num, ⟨by have := HK.out; omega⟩, ⟨by rw [aheadB_succ, HX.out, HW0.out, HW1.out]⟩, HS, HB⟩
end Go.Proofs.Ythidcafbhjahdaa.Q
namespace Go.Proofs.Ythidcafbhjahdaa.RFlowAhead
open Go Go.RowKit Go.Proofs.YthidcafbhjahdaaW.PrintWords Go.Proofs.Ythidcafbhjahdaa.Q
set_option linter.unusedVariables false
def FlowAhead.Pure : Prop := ∀ (l0 : List (List (Int))), ((l0).length * 2 ≤ 140737488351232 ∧ (l0).length ≤ maxLen ∧ ∀ y1 ∈ (l0), ((y1).length = 2 ∧ ∀ y2 ∈ (y1), (Lit.int .u8 (y2)).wf = true)) → ∃ k, cubbylaw09_FlowAhead.f k l0 = some true
end Go.Proofs.Ythidcafbhjahdaa.RFlowAhead
namespace Go.Proofs.Ythidcafbhjahdaa.Plain
open Go Go.RowKit Go.Proofs.YthidcafbhjahdaaW.PrintWords Go.Proofs.YthidcafbhjahdaaW.PrintMore
theorem wrap_nat {j : Nat} (h : j ≤ 4611686018427387904) : wrap64 ((j : Int) + 1) = ((j + 1 : Nat) : Int) := by
 unfold wrap64
 omega
theorem wrap_pred {j : Nat} (h0 : 0 < j) (h : j ≤ 4611686018427387904) : wrap64 ((j : Int) - 1) = ((j - 1 : Nat) : Int) := by
 unfold wrap64
 omega
theorem wrap_id {i : Int} (h0 : -4611686018427387904 ≤ i) (h : i ≤ 4611686018427387904) : wrap64 i = i := by
 unfold wrap64
 omega
theorem rd_nat (l : List Int) (j : Nat) : rd l (j : Int) = l.getD j 0 := rfl
theorem rd_get {l : List Int} {j : Nat} (h : j < l.length) : rd l (j : Int) = l[j] := by
 rw [rd_nat, List.getD_eq_getElem?_getD, List.getElem?_eq_getElem h]
 rfl
theorem drop_cons {α : Type} {l : List α} {j : Nat} (h : j < l.length) : l.drop j = l[j] :: l.drop (j + 1) := by
 rw [List.drop_eq_getElem_cons h]
end Go.Proofs.Ythidcafbhjahdaa.Plain
namespace Go.Proofs.Ythidcafbhjahdaa.PlainFlow
open Go Go.RowKit Go.Proofs.YthidcafbhjahdaaW.PrintWords Go.Proofs.YthidcafbhjahdaaW.PrintMore Go.Proofs.Ythidcafbhjahdaa.Q Go.Proofs.Ythidcafbhjahdaa.Plain
def targets (x : SIns) : List Int := if x.f0 = 12 then [x.f2] else if x.f0 = 13 then [x.f3, x.f1] else []
def addT (n : Nat) (out : List Int) (t : Int) : List Int := if 0 ≤ t ∧ t < n ∧ t ∉ out then out ++ [t] else out
def blockAt (x : List (List SIns)) (i : Int) : List SIns := x.getD i.toNat []
def lastOf (b : List SIns) : SIns := b.getD (b.length - 1) zIns
def succs (x : List (List SIns)) (i : Int) : List Int :=
 if i < 0 ∨ (x.length : Int) ≤ i ∨ blockAt x i = [] then [] else (targets (lastOf (blockAt x i))).foldl (addT x.length) []
theorem targets_len (x : SIns) : (targets x).length ≤ 2 := by
 unfold targets
 split
 ·simp
 ·split <;> simp
theorem addT_len (n : Nat) (out : List Int) (t : Int) : (addT n out t).length ≤ out.length + 1 := by
 unfold addT
 split <;> simp
theorem foldT_len (n : Nat) : ∀ (l out : List Int), (l.foldl (addT n) out).length ≤ out.length + l.length
 | [], _ => by simp
 | t :: l, out => by
  have := foldT_len n l (addT n out t)
  have := addT_len n out t
  simp only [List.foldl_cons, List.length_cons]
  omega
theorem succs_len (x : List (List SIns)) (i : Int) : (succs x i).length ≤ 2 := by
 unfold succs
 split
 ·simp
 ·have := foldT_len x.length (targets (lastOf (blockAt x i))) []
  have := targets_len (lastOf (blockAt x i))
  simp at *
  omega
theorem addT_mem (n : Nat) (out : List Int) (t : Int) (h : ∀ y ∈ out, 0 ≤ y ∧ y < n) : ∀ y ∈ addT n out t, 0 ≤ y ∧ y < n := by
 unfold addT
 split
 ·rename_i hc
  intro y hy
  rcases List.mem_append.1 hy with hy | hy
  ·exact h y hy
  ·rw [List.mem_singleton.1 hy]
   exact ⟨hc.1, hc.2.1⟩
 ·exact h
theorem foldT_mem (n : Nat) : ∀ (l out : List Int), (∀ y ∈ out, 0 ≤ y ∧ y < n) → ∀ y ∈ l.foldl (addT n) out, 0 ≤ y ∧ y < n
 | [], _, h => h
 | t :: l, out, h => foldT_mem n l (addT n out t) (addT_mem n out t h)
theorem succs_mem (x : List (List SIns)) (i : Int) : ∀ y ∈ succs x i, 0 ≤ y ∧ y < x.length := by
 unfold succs
 split
 ·simp
 ·exact foldT_mem _ _ _ (by simp)
theorem ir_targets (x : SIns) : ir_Targets.f x.f0 x.f1 x.f2 x.f3 x.f4 x.f5 = some (targets x) := by
 unfold ir_Targets.f targets
 split
 ·rfl
 ·split <;> rfl
theorem ref_targets (x : SIns) : cubbyref07_Targets.f x.f0 x.f1 x.f2 x.f3 x.f4 x.f5 = some (targets x) := by
 unfold cubbyref07_Targets.f targets
 simp only [zJ]
 split
 ·rw [zC (by simp)]; rfl
 ·split
  ·rw [zC (by simp)]; rfl
  ·rfl
theorem has_loop (l : List Int) (x : Int) (hl : l.length ≤ 4611686018427387904) : ∀ (d j : Nat), l.length - j = d → j ≤ l.length → Ev (fun k => cubbyref09_has.l0 k l x (j : Int)) (decide (x ∈ l.drop j)) := by
 intro d
 induction d with
 | zero =>
  intro j hd hj
  refine Ev.step (f := fun _ => some false) (fun k => by simp only [cubbyref09_has.l0]; rw [zD (by omega)]) ?_
  rw [List.drop_eq_nil_of_le (by omega)]
  exact Ev.now _
 | succ d ih =>
  intro j hd hj
  have hlt : j < l.length := by omega
  rw [drop_cons hlt]
  by_cases e : l[j] = x
  ·refine Ev.step (f := fun _ => some true) (fun k => by simp only [cubbyref09_has.l0]; rw [zC (by omega), zC (by omega), rd_get hlt, zC e]) ?_
   rw [zF (by simp [e])]
   exact Ev.now _
  ·refine Ev.step (f := fun k => cubbyref09_has.l0 k l x ((j + 1 : Nat) : Int)) (fun k => by simp only [cubbyref09_has.l0]; rw [zC (by omega), zC (by omega), rd_get hlt, zD e, wrap_nat (by omega)]) ?_
   have := ih (j + 1) (by omega) (by omega)
   rw [show (decide (x ∈ l[j] :: l.drop (j + 1))) = decide (x ∈ l.drop (j + 1)) by rw [decide_eq_decide, List.mem_cons]; exact ⟨fun h => h.resolve_left (Ne.symm e), Or.inr⟩]
   exact this
theorem has_ev (l : List Int) (x : Int) (hl : l.length ≤ 4611686018427387904) : Ev (fun k => cubbyref09_has.f k l x) (decide (x ∈ l)) := by
 have := has_loop l x hl l.length 0 (by omega) (by omega)
 simpa [cubbyref09_has.f] using this
theorem index_loop (l : List Int) (x : Int) (hl : l.length ≤ 4611686018427387904) : ∀ (d j : Nat), l.length - j = d → j ≤ l.length → ∃ r, Ev (fun k => slices_Index_int_int.l0 k l x (l.length : Int) (j : Int)) r ∧ (0 ≤ r ↔ x ∈ l.drop j) := by
 intro d
 induction d with
 | zero =>
  intro j hd hj
  refine ⟨-1, Ev.step (f := fun _ => some (-1)) (fun k => by simp only [slices_Index_int_int.l0]; rw [zD (by omega)]) (Ev.now _), ?_⟩
  rw [List.drop_eq_nil_of_le (by omega)]
  simp
 | succ d ih =>
  intro j hd hj
  have hlt : j < l.length := by omega
  rw [drop_cons hlt]
  by_cases e : x = l[j]
  ·refine ⟨j, Ev.step (f := fun _ => some (j : Int)) (fun k => by simp only [slices_Index_int_int.l0]; rw [zC (by omega), zC (by omega), zC (by omega), rd_get hlt, zC e]) (Ev.now _), ?_⟩
   exact ⟨fun _ => by rw [e]; exact List.mem_cons_self, fun _ => by omega⟩
  ·obtain ⟨r, hr, hx⟩ := ih (j + 1) (by omega) (by omega)
   refine ⟨r, Ev.step (f := fun k => slices_Index_int_int.l0 k l x (l.length : Int) ((j + 1 : Nat) : Int)) (fun k => by simp only [slices_Index_int_int.l0]; rw [zC (by omega), zC (by omega), zC (by omega), rd_get hlt, zD e, wrap_nat (by omega)]) hr, ?_⟩
   rw [hx, List.mem_cons]
   exact ⟨Or.inr, fun h => h.resolve_left e⟩
theorem contains_ev (l : List Int) (x : Int) (hl : l.length ≤ 4611686018427387904) : Ev (fun k => slices_Contains_int_int.f k l x) (decide (x ∈ l)) := by
 obtain ⟨r, hr, hx⟩ := index_loop l x hl l.length 0 (by omega) (by omega)
 refine Ev.bind (g := fun k => slices_Index_int_int.f k l x) (f := fun _ t => some (decide (t ≥ 0))) hr ?_
 rw [List.drop_zero] at hx
 rw [show decide (x ∈ l) = decide (r ≥ 0) from by rw [decide_eq_decide]; exact hx.symm]
 exact Ev.now _
theorem succs_loop (x : List (List SIns)) (l : List Int) (hl : l.length ≤ 1000) : ∀ (d j : Nat) (out : List Int), l.length - j = d → j ≤ l.length → out.length + d ≤ 1000 →
 Ev (fun k => flow_Succs.l0 k x out l (l.length : Int) (j : Int)) ((l.drop j).foldl (addT x.length) out) := by
 intro d
 induction d with
 | zero =>
  intro j out hd hj ho
  refine Ev.step (f := fun _ => some out) (fun k => by simp only [flow_Succs.l0]; rw [zD (by omega)]) ?_
  rw [List.drop_eq_nil_of_le (by omega)]
  exact Ev.now _
 | succ d ih =>
  intro j out hd hj ho
  have hlt : j < l.length := by omega
  rw [drop_cons hlt, List.foldl_cons]
  have hs : ∀ out', out'.length ≤ out.length + 1 → Ev (fun k => flow_Succs.l0 k x out' l (l.length : Int) ((j + 1 : Nat) : Int)) ((l.drop (j + 1)).foldl (addT x.length) out') := fun out' h => ih (j + 1) out' (by omega) (by omega) (by omega)
  by_cases h0 : 0 ≤ l[j]
  ·by_cases h1 : l[j] < x.length
   ·have hc := contains_ev out l[j] (by omega)
    refine Ev.step (f := fun k => (slices_Contains_int_int.f k out l[j]).bind fun t => if t = true then flow_Succs.l0 k x out l (l.length : Int) ((j + 1 : Nat) : Int) else if out.length < 17592186044416 then flow_Succs.l0 k x (out ++ [l[j]]) l (l.length : Int) ((j + 1 : Nat) : Int) else none) (fun k => by
     simp only [flow_Succs.l0]; rw [zC (by omega), zC (by omega), zC (by omega), rd_get hlt, zC h0, zC h1, wrap_nat (by omega)]) ?_
    refine Ev.bind hc ?_
    by_cases hm : l[j] ∈ out
    ·rw [show addT x.length out l[j] = out by unfold addT; rw [zD (by simp [hm])]]
     simp only [hm, decide_true, if_true]
     exact hs out (by omega)
    ·rw [show addT x.length out l[j] = out ++ [l[j]] by unfold addT; rw [zC ⟨h0, h1, hm⟩]]
     simp only [hm, decide_false, Bool.false_eq_true, if_false, show out.length < 17592186044416 from by omega, if_true]
     exact hs _ (by simp)
   ·rw [show addT x.length out l[j] = out by unfold addT; rw [zD (by omega)]]
    refine Ev.step (f := fun k => flow_Succs.l0 k x out l (l.length : Int) ((j + 1 : Nat) : Int)) (fun k => by
     simp only [flow_Succs.l0]; rw [zC (by omega), zC (by omega), zC (by omega), rd_get hlt, zC h0, zD h1, wrap_nat (by omega)]) (hs out (by omega))
  ·rw [show addT x.length out l[j] = out by unfold addT; rw [zD (by omega)]]
   refine Ev.step (f := fun k => flow_Succs.l0 k x out l (l.length : Int) ((j + 1 : Nat) : Int)) (fun k => by
    simp only [flow_Succs.l0]; rw [zC (by omega), zC (by omega), zC (by omega), rd_get hlt, zD (by omega), wrap_nat (by omega)]) (hs out (by omega))
theorem refsuccs_loop (x : List (List SIns)) (l : List Int) (hl : l.length ≤ 1000) : ∀ (d j : Nat) (out : List Int), l.length - j = d → j ≤ l.length → out.length + d ≤ 1000 →
 Ev (fun k => cubbyref09_Succs.l0 k x out l (j : Int)) ((l.drop j).foldl (addT x.length) out) := by
 intro d
 induction d with
 | zero =>
  intro j out hd hj ho
  refine Ev.step (f := fun _ => some out) (fun k => by simp only [cubbyref09_Succs.l0]; rw [zD (by omega)]) ?_
  rw [List.drop_eq_nil_of_le (by omega)]
  exact Ev.now _
 | succ d ih =>
  intro j out hd hj ho
  have hlt : j < l.length := by omega
  rw [drop_cons hlt, List.foldl_cons]
  have hs : ∀ out', out'.length ≤ out.length + 1 → Ev (fun k => cubbyref09_Succs.l0 k x out' l ((j + 1 : Nat) : Int)) ((l.drop (j + 1)).foldl (addT x.length) out') := fun out' h => ih (j + 1) out' (by omega) (by omega) (by omega)
  by_cases h0 : 0 ≤ l[j]
  ·by_cases h1 : l[j] < x.length
   ·have hc := has_ev out l[j] (by omega)
    refine Ev.step (f := fun k => (cubbyref09_has.f k out l[j]).bind fun t => if t = true then cubbyref09_Succs.l0 k x out l ((j + 1 : Nat) : Int) else if out.length < 17592186044416 then cubbyref09_Succs.l0 k x (out ++ [l[j]]) l ((j + 1 : Nat) : Int) else none) (fun k => by
     simp only [cubbyref09_Succs.l0]; rw [zC (by omega), zC (by omega), rd_get hlt, zC h0, zC h1, wrap_nat (by omega)]) ?_
    refine Ev.bind hc ?_
    by_cases hm : l[j] ∈ out
    ·rw [show addT x.length out l[j] = out by unfold addT; rw [zD (by simp [hm])]]
     simp only [hm, decide_true, if_true]
     exact hs out (by omega)
    ·rw [show addT x.length out l[j] = out ++ [l[j]] by unfold addT; rw [zC ⟨h0, h1, hm⟩]]
     simp only [hm, decide_false, Bool.false_eq_true, if_false, show out.length < 17592186044416 from by omega, if_true]
     exact hs _ (by simp)
   ·rw [show addT x.length out l[j] = out by unfold addT; rw [zD (by omega)]]
    refine Ev.step (f := fun k => cubbyref09_Succs.l0 k x out l ((j + 1 : Nat) : Int)) (fun k => by
     simp only [cubbyref09_Succs.l0]; rw [zC (by omega), zC (by omega), rd_get hlt, zC h0, zD h1, wrap_nat (by omega)]) (hs out (by omega))
  ·rw [show addT x.length out l[j] = out by unfold addT; rw [zD (by omega)]]
   refine Ev.step (f := fun k => cubbyref09_Succs.l0 k x out l ((j + 1 : Nat) : Int)) (fun k => by
    simp only [cubbyref09_Succs.l0]; rw [zC (by omega), zC (by omega), rd_get hlt, zD (by omega), wrap_nat (by omega)]) (hs out (by omega))
theorem rd_last {b : List SIns} (hb : b ≠ []) (hl : b.length ≤ 4611686018427387904) : (0 ≤ wrap64 ((b.length : Int) - 1)) ∧ (wrap64 ((b.length : Int) - 1) < b.length) ∧ rd_TIns b (wrap64 ((b.length : Int) - 1)) = lastOf b := by
 have h0 : 0 < b.length := List.length_pos_iff.2 hb
 rw [wrap_pred h0 hl]
 refine ⟨by omega, by omega, ?_⟩
 rfl
def Small (x : List (List SIns)) : Prop := x.length ≤ 4611686018427387904 ∧ ∀ b ∈ x, b.length ≤ 4611686018427387904
theorem small_at {x : List (List SIns)} (h : Small x) (i : Int) : (blockAt x i).length ≤ 4611686018427387904 := by
 unfold blockAt
 rw [List.getD_eq_getElem?_getD]
 cases e : x[i.toNat]? with
 | none => simp
 | some b => exact h.2 b (List.mem_of_getElem? e)
theorem succs_ev (x : List (List SIns)) (i : Int) (h : Small x) : Ev (fun k => flow_Succs.f k x i) (succs x i) := by
 have nil : Ev (fun k => flow_Succs.j0 k x i true) ([] : List Int) := Ev.step (f := fun _ => some []) (fun k => by simp only [flow_Succs.j0, if_true]) (Ev.now _)
 by_cases h0 : i < 0
 ·refine Ev.congr (f := fun k => flow_Succs.j0 k x i true) (fun k => by unfold flow_Succs.f; rw [zC h0]) ?_
  rw [show succs x i = [] by unfold succs; rw [zC (Or.inl h0)]]
  exact nil
 ·by_cases h1 : i < x.length
  ·have hb := small_at h i
   by_cases h2 : blockAt x i = []
   ·refine Ev.congr (f := fun k => flow_Succs.j0 k x i true) (fun k => by
     unfold flow_Succs.f; rw [zD h0, zD (by omega), zC (by omega), zC h1]
     rw [show (((rd_LIns x i).length : Int) == 0) = true from by rw [show rd_LIns x i = [] from h2]; rfl]) ?_
    rw [show succs x i = [] by unfold succs; rw [zC (Or.inr (Or.inr h2))]]
    exact nil
   ·obtain ⟨p1, p2, p3⟩ := rd_last h2 hb
    refine Ev.congr (f := fun k => flow_Succs.j0 k x i false) (fun k => by
     unfold flow_Succs.f; rw [zD h0, zD (by omega), zC (by omega), zC h1]
     rw [show (((rd_LIns x i).length : Int) == 0) = false from by
      rw [beq_eq_false_iff_ne]
      intro e
      exact h2 (List.eq_nil_of_length_eq_zero (by exact Int.ofNat.inj e))]) ?_
    rw [show succs x i = (targets (lastOf (blockAt x i))).foldl (addT x.length) [] by unfold succs; rw [zD (by simp only [h2, or_false]; omega)]]
    have ht := targets_len (lastOf (blockAt x i))
    refine Ev.step (f := fun k => flow_Succs.l0 k x [] (targets (lastOf (blockAt x i))) ((targets (lastOf (blockAt x i))).length : Int) 0) (fun k => by
     simp only [flow_Succs.j0]
     rw [zD (by simp), zC (by omega), zC h1]
     show (if 0 ≤ wrap64 (((blockAt x i).length : Int) - 1) then _ else _) = _
     rw [zC p1]
     show (if wrap64 (((blockAt x i).length : Int) - 1) < ((blockAt x i).length : Int) then _ else _) = _
     rw [zC p2]
     show (ir_Targets.f (rd_TIns (blockAt x i) (wrap64 (((blockAt x i).length : Int) - 1))).f0 (rd_TIns (blockAt x i) (wrap64 (((blockAt x i).length : Int) - 1))).f1 (rd_TIns (blockAt x i) (wrap64 (((blockAt x i).length : Int) - 1))).f2 (rd_TIns (blockAt x i) (wrap64 (((blockAt x i).length : Int) - 1))).f3 (rd_TIns (blockAt x i) (wrap64 (((blockAt x i).length : Int) - 1))).f4 (rd_TIns (blockAt x i) (wrap64 (((blockAt x i).length : Int) - 1))).f5).bind _ = _
     rw [p3, ir_targets]
     rfl) ?_
    have := succs_loop x (targets (lastOf (blockAt x i))) (by omega) _ 0 [] rfl (by omega) (by simp; omega)
    simpa using this
  ·refine Ev.congr (f := fun k => flow_Succs.j0 k x i true) (fun k => by unfold flow_Succs.f; rw [zD h0, zC (by omega)]) ?_
   rw [show succs x i = [] by unfold succs; rw [zC (Or.inr (Or.inl (by omega)))]]
   exact nil
theorem refsuccs_ev (x : List (List SIns)) (i : Int) (h : Small x) : Ev (fun k => cubbyref09_Succs.f k x i) (succs x i) := by
 have nil : Ev (fun k => cubbyref09_Succs.j0 k x i [] true) ([] : List Int) := Ev.step (f := fun _ => some []) (fun k => by simp only [cubbyref09_Succs.j0, if_true]) (Ev.now _)
 by_cases h0 : i < 0
 ·refine Ev.congr (f := fun k => cubbyref09_Succs.j0 k x i [] true) (fun k => by unfold cubbyref09_Succs.f; simp only [zJ]; rw [zC h0]) ?_
  rw [show succs x i = [] by unfold succs; rw [zC (Or.inl h0)]]
  exact nil
 ·by_cases h1 : i < x.length
  ·have hb := small_at h i
   by_cases h2 : blockAt x i = []
   ·refine Ev.congr (f := fun k => cubbyref09_Succs.j0 k x i [] true) (fun k => by
     unfold cubbyref09_Succs.f; simp only [zJ]; rw [zD h0, zD (by omega), zC (by omega), zC h1]
     rw [show (((rd_LIns x i).length : Int) == 0) = true from by rw [show rd_LIns x i = [] from h2]; rfl]) ?_
    rw [show succs x i = [] by unfold succs; rw [zC (Or.inr (Or.inr h2))]]
    exact nil
   ·obtain ⟨p1, p2, p3⟩ := rd_last h2 hb
    refine Ev.congr (f := fun k => cubbyref09_Succs.j0 k x i [] false) (fun k => by
     unfold cubbyref09_Succs.f; simp only [zJ]; rw [zD h0, zD (by omega), zC (by omega), zC h1]
     rw [show (((rd_LIns x i).length : Int) == 0) = false from by
      rw [beq_eq_false_iff_ne]
      intro e
      exact h2 (List.eq_nil_of_length_eq_zero (by exact Int.ofNat.inj e))]) ?_
    rw [show succs x i = (targets (lastOf (blockAt x i))).foldl (addT x.length) [] by unfold succs; rw [zD (by simp only [h2, or_false]; omega)]]
    have ht := targets_len (lastOf (blockAt x i))
    refine Ev.step (f := fun k => cubbyref09_Succs.l0 k x [] (targets (lastOf (blockAt x i))) 0) (fun k => by
     simp only [cubbyref09_Succs.j0]
     rw [zD (by simp), zC (by omega), zC h1]
     show (if 0 ≤ wrap64 (((blockAt x i).length : Int) - 1) then _ else _) = _
     rw [zC p1]
     show (if wrap64 (((blockAt x i).length : Int) - 1) < ((blockAt x i).length : Int) then _ else _) = _
     rw [zC p2]
     show (cubbyref07_Targets.f (rd_TIns (blockAt x i) (wrap64 (((blockAt x i).length : Int) - 1))).f0 (rd_TIns (blockAt x i) (wrap64 (((blockAt x i).length : Int) - 1))).f1 (rd_TIns (blockAt x i) (wrap64 (((blockAt x i).length : Int) - 1))).f2 (rd_TIns (blockAt x i) (wrap64 (((blockAt x i).length : Int) - 1))).f3 (rd_TIns (blockAt x i) (wrap64 (((blockAt x i).length : Int) - 1))).f4 (rd_TIns (blockAt x i) (wrap64 (((blockAt x i).length : Int) - 1))).f5).bind _ = _
     rw [p3, ref_targets]
     rfl) ?_
    have := refsuccs_loop x (targets (lastOf (blockAt x i))) (by omega) _ 0 [] rfl (by omega) (by simp; omega)
    simpa using this
  ·refine Ev.congr (f := fun k => cubbyref09_Succs.j0 k x i [] true) (fun k => by unfold cubbyref09_Succs.f; simp only [zJ]; rw [zD h0, zC (by omega)]) ?_
   rw [show succs x i = [] by unfold succs; rw [zC (Or.inr (Or.inl (by omega)))]]
   exact nil
end Go.Proofs.Ythidcafbhjahdaa.PlainFlow
namespace Go.Proofs.Ythidcafbhjahdaa.PlainLaw09
open Go Go.RowKit Go.Proofs.YthidcafbhjahdaaW.PrintWords Go.Proofs.YthidcafbhjahdaaW.PrintMore Go.Proofs.Ythidcafbhjahdaa.Q Go.Proofs.Ythidcafbhjahdaa.Plain Go.Proofs.Ythidcafbhjahdaa.PlainFlow
theorem same_loop (l : List Int) (hl : l.length ≤ 4611686018427387904) : ∀ (d j : Nat), l.length - j = d → j ≤ l.length → Ev (fun k => cubbylaw09_same.l0 k l l (j : Int)) true := by
 intro d
 induction d with
 | zero =>
  intro j hd hj
  exact Ev.step (f := fun _ => some true) (fun k => by simp only [cubbylaw09_same.l0]; rw [zD (by omega)]) (Ev.now _)
 | succ d ih =>
  intro j hd hj
  have hlt : j < l.length := by omega
  exact Ev.step (f := fun k => cubbylaw09_same.l0 k l l ((j + 1 : Nat) : Int)) (fun k => by simp only [cubbylaw09_same.l0]; rw [zC (by omega), zC (by omega), zC (by omega), zC trivial, wrap_nat (by omega)]) (ih (j + 1) (by omega) (by omega))
theorem same_ev (l : List Int) (hl : l.length ≤ 4611686018427387904) : Ev (fun k => cubbylaw09_same.f k l l) true := by
 have := same_loop l hl l.length 0 (by omega) (by omega)
 simpa [cubbylaw09_same.f] using this
end Go.Proofs.Ythidcafbhjahdaa.PlainLaw09
namespace Go.Proofs.Ythidcafbhjahdaa.Dfs
open Go.Proofs.Ythidcafbhjahdaa.Plain
set_option linter.unusedVariables false
set_option linter.unusedSimpArgs false
def dfs (g : Int → List Int) : Nat → Int → List Int × List Int → List Int × List Int
 | 0, _, s => s
 | d + 1, i, s => (((g i).foldl (fun s k => if k ∈ s.1 then s else dfs g d k s) (s.1 ++ [i], s.2)).1, i :: ((g i).foldl (fun s k => if k ∈ s.1 then s else dfs g d k s) (s.1 ++ [i], s.2)).2)
def stepS (g : Int → List Int) (d : Nat) (s : List Int × List Int) (k : Int) : List Int × List Int := if k ∈ s.1 then s else dfs g d k s
theorem dfs_succ (g : Int → List Int) (d : Nat) (i : Int) (s : List Int × List Int) : dfs g (d + 1) i s = (((g i).foldl (stepS g d) (s.1 ++ [i], s.2)).1, i :: ((g i).foldl (stepS g d) (s.1 ++ [i], s.2)).2) := rfl
def unmet (n : Nat) (met : List Int) : Nat := ((List.range n).filter (fun (v : Nat) => decide ((v : Int) ∉ met))).length
theorem filter_len_le {α : Type} (p q : α → Bool) : ∀ l : List α, (∀ x ∈ l, p x = true → q x = true) → (l.filter p).length ≤ (l.filter q).length
 | [], _ => Nat.le_refl _
 | a :: l, h => by
  have ih := filter_len_le p q l (fun x hx => h x (List.mem_cons_of_mem _ hx))
  have ha := h a List.mem_cons_self
  simp only [List.filter_cons]
  cases hp : p a <;> cases hq : q a <;> simp_all <;> omega
theorem filter_len_lt {α : Type} (p q : α → Bool) (y : α) : ∀ l : List α, (∀ x ∈ l, p x = true → q x = true) → y ∈ l → p y = false → q y = true → (l.filter p).length < (l.filter q).length
 | a :: l, h, hy, h1, h2 => by
  have hl := fun x hx => h x (List.mem_cons_of_mem a hx)
  have ih := filter_len_le p q l hl
  have ha := h a List.mem_cons_self
  simp only [List.filter_cons]
  rcases List.mem_cons.1 hy with rfl | hy
  ·simp [h1, h2]
   omega
  ·have := filter_len_lt p q y l hl hy h1 h2
   cases hp : p a <;> cases hq : q a <;> simp_all <;> omega
theorem unmet_le {n : Nat} {met met' : List Int} (h : ∀ v ∈ met, v ∈ met') : unmet n met' ≤ unmet n met := by
 refine filter_len_le _ _ _ (fun x _ hp => ?_)
 simp only [decide_eq_true_eq] at *
 exact fun hx => hp (h _ hx)
theorem unmet_lt {n : Nat} {met : List Int} {i : Int} (h0 : 0 ≤ i) (h1 : i < n) (hi : i ∉ met) : unmet n (met ++ [i]) < unmet n met := by
 refine filter_len_lt _ _ i.toNat _ (fun x _ hp => ?_) (by simp; omega) ?_ ?_
 ·simp only [decide_eq_true_eq] at *
  exact fun hx => hp (List.mem_append_left _ hx)
 ·have : ((i.toNat : Nat) : Int) = i := by omega
  simp [this]
 ·have : ((i.toNat : Nat) : Int) = i := by omega
  simp [this, hi]
theorem unmet_nil (n : Nat) : unmet n [] = n := by
 unfold unmet
 rw [List.filter_eq_self.2 (by simp)]
 simp
theorem unmet_pos {n : Nat} {met : List Int} {i : Int} (h0 : 0 ≤ i) (h1 : i < n) (hi : i ∉ met) : 0 < unmet n met := by
 have := unmet_lt h0 h1 hi
 omega
inductive From (g : Int → List Int) (i : Int) : Int → Prop
 | here : From g i i
 | there {v k : Int} : From g i v → k ∈ g v → From g i k
theorem From.trans {g : Int → List Int} {i j k : Int} (h : From g i j) (h' : From g j k) : From g i k := by
 induction h' with
 | here => exact h
 | there _ hk ih => exact .there ih hk
theorem snoc_nodup {met : List Int} {i : Int} (h : met.Nodup) (hi : i ∉ met) : (met ++ [i]).Nodup := by
 rw [List.nodup_append]
 exact ⟨h, by simp, fun a ha b hb => by rw [List.mem_singleton.1 hb]; exact fun e => hi (e ▸ ha)⟩
structure Inv (n : Nat) (met put : List Int) : Prop where
 rng : ∀ v ∈ met, 0 ≤ v ∧ v < n
 sub : ∀ v ∈ put, v ∈ met
 nod : put.Nodup
 mnod : met.Nodup
structure Good (g : Int → List Int) (n : Nat) (l met put met' put' : List Int) : Prop where
 inv : Inv n met' put'
 keep : ∀ v ∈ met, v ∈ met'
 mem : ∀ k ∈ l, k ∈ met'
 closed : ∀ v ∈ met', v ∉ met → ∀ k ∈ g v, k ∈ met'
 reach : ∀ v ∈ met', v ∉ met → ∃ k ∈ l, From g k v
 puts : ∀ v, v ∈ put' ↔ v ∈ put ∨ (v ∈ met' ∧ v ∉ met)
theorem fold_good {g : Int → List Int} {n d : Nat} (H : ∀ (i : Int) (met put : List Int), 0 ≤ i → i < n → i ∉ met → unmet n met ≤ d → Inv n met put → Good g n [i] met put (dfs g d i (met, put)).1 (dfs g d i (met, put)).2) :
 ∀ (l met put : List Int), (∀ k ∈ l, 0 ≤ k ∧ k < n) → unmet n met ≤ d → Inv n met put → Good g n l met put (l.foldl (stepS g d) (met, put)).1 (l.foldl (stepS g d) (met, put)).2
 | [], met, put, _, _, hv => ⟨hv, fun _ h => h, by simp, fun v h h' => absurd h h', fun v h h' => absurd h h', fun v => ⟨.inl, fun h => h.elim id (fun h => absurd h.1 h.2)⟩⟩
 | k :: l, met, put, hl, hu, hv => by
  have hl' := fun q hq => hl q (List.mem_cons_of_mem k hq)
  obtain ⟨k0, k1⟩ := hl k List.mem_cons_self
  simp only [List.foldl_cons]
  by_cases hk : k ∈ met
  ·have e : stepS g d (met, put) k = (met, put) := by unfold stepS; rw [zC hk]
   rw [e]
   have ih := fold_good H l met put hl' hu hv
   refine ⟨ih.inv, ih.keep, fun q hq => ?_, ih.closed, fun v h h' => ?_, ih.puts⟩
   ·rcases List.mem_cons.1 hq with rfl | hq
    ·exact ih.keep _ hk
    ·exact ih.mem q hq
   ·obtain ⟨q, hq, hf⟩ := ih.reach v h h'
    exact ⟨q, List.mem_cons_of_mem _ hq, hf⟩
  ·have e : stepS g d (met, put) k = dfs g d k (met, put) := by unfold stepS; rw [zD hk]
   rw [e]
   have h1 := H k met put k0 k1 hk hu hv
   generalize dfs g d k (met, put) = s1 at h1
   obtain ⟨m1, p1⟩ := s1
   have ih := fold_good H l m1 p1 hl' (Nat.le_trans (unmet_le h1.keep) hu) h1.inv
   generalize l.foldl (stepS g d) (m1, p1) = s2 at ih
   obtain ⟨m2, p2⟩ := s2
   simp only at h1 ih ⊢
   refine ⟨ih.inv, fun v h => ih.keep v (h1.keep v h), fun q hq => ?_, fun v h h' => ?_, fun v h h' => ?_, fun v => ?_⟩
   ·rcases List.mem_cons.1 hq with rfl | hq
    ·exact ih.keep _ (h1.mem _ List.mem_cons_self)
    ·exact ih.mem q hq
   ·by_cases hm : v ∈ m1
    ·exact fun q hq => ih.keep q (h1.closed v hm h' q hq)
    ·exact ih.closed v h hm
   ·by_cases hm : v ∈ m1
    ·obtain ⟨q, hq, hf⟩ := h1.reach v hm h'
     rw [List.mem_singleton.1 hq] at hf
     exact ⟨k, List.mem_cons_self, hf⟩
    ·obtain ⟨q, hq, hf⟩ := ih.reach v h hm
     exact ⟨q, List.mem_cons_of_mem _ hq, hf⟩
   ·rw [ih.puts v, h1.puts v]
    constructor
    ·rintro ((h | ⟨h, h'⟩) | ⟨h, h'⟩)
     ·exact .inl h
     ·exact .inr ⟨ih.keep v h, h'⟩
     ·exact .inr ⟨h, fun hm => h' (h1.keep v hm)⟩
    ·rintro (h | ⟨h, h'⟩)
     ·exact .inl (.inl h)
     ·by_cases hm : v ∈ m1
      ·exact .inl (.inr ⟨hm, h'⟩)
      ·exact .inr ⟨h, hm⟩
theorem dfs_good {g : Int → List Int} {n : Nat} (hg : ∀ i, ∀ k ∈ g i, 0 ≤ k ∧ k < n) : ∀ (d : Nat) (i : Int) (met put : List Int), 0 ≤ i → i < n → i ∉ met → unmet n met ≤ d → Inv n met put →
 Good g n [i] met put (dfs g d i (met, put)).1 (dfs g d i (met, put)).2 := by
 intro d
 induction d with
 | zero =>
  intro i met put h0 h1 hi hu _
  have := unmet_pos h0 h1 hi
  omega
 | succ d ih =>
  intro i met put h0 h1 hi hu hv
  rw [dfs_succ]
  have hu' : unmet n (met ++ [i]) ≤ d := by have := unmet_lt h0 h1 hi; omega
  have hv' : Inv n (met ++ [i]) put := ⟨fun v h => by
   rcases List.mem_append.1 h with h | h
   ·exact hv.rng v h
   ·rw [List.mem_singleton.1 h]; exact ⟨h0, h1⟩, fun v h => List.mem_append_left _ (hv.sub v h), hv.nod, snoc_nodup hv.mnod hi⟩
  have hf := fold_good ih (g i) (met ++ [i]) put (hg i) hu' hv'
  simp only
  generalize (g i).foldl (stepS g d) (met ++ [i], put) = s at hf
  obtain ⟨m, p⟩ := s
  simp only at hf ⊢
  have him : i ∈ m := hf.keep i (by simp)
  have hip : i ∉ p := by
   rw [hf.puts i]
   rintro (h | ⟨_, h⟩)
   ·exact hi (hv.sub i h)
   ·exact h (by simp)
  refine ⟨⟨hf.inv.rng, fun v h => ?_, List.nodup_cons.2 ⟨hip, hf.inv.nod⟩, hf.inv.mnod⟩, fun v h => hf.keep v (List.mem_append_left _ h), fun k hk => ?_, fun v h h' => ?_, fun v h h' => ?_, fun v => ?_⟩
  ·rcases List.mem_cons.1 h with rfl | h
   ·exact him
   ·exact hf.inv.sub v h
  ·rw [List.mem_singleton.1 hk]; exact him
  ·by_cases e : v = i
   ·subst e
    exact fun k hk => hf.mem k hk
   ·exact hf.closed v h (by simp [h', e])
  ·by_cases e : v = i
   ·subst e
    exact ⟨v, List.mem_singleton.2 rfl, .here⟩
   ·obtain ⟨k, hk, hf'⟩ := hf.reach v h (by simp [h', e])
    exact ⟨i, List.mem_singleton.2 rfl, From.trans (.there .here hk) hf'⟩
  ·rw [List.mem_cons, hf.puts v]
   constructor
   ·rintro (rfl | h | ⟨h, h'⟩)
    ·exact .inr ⟨him, hi⟩
    ·exact .inl h
    ·exact .inr ⟨h, fun hm => h' (List.mem_append_left _ hm)⟩
   ·rintro (h | ⟨h, h'⟩)
    ·exact .inr (.inl h)
    ·by_cases e : v = i
     ·exact .inl e
     ·exact .inr (.inr ⟨h, by simp [h', e]⟩)
theorem Inv.snoc {n : Nat} {met put : List Int} {i : Int} (hv : Inv n met put) (h0 : 0 ≤ i) (h1 : i < n) (hi : i ∉ met) : Inv n (met ++ [i]) put :=
 ⟨fun v h => by
  rcases List.mem_append.1 h with h | h
  ·exact hv.rng v h
  ·rw [List.mem_singleton.1 h]; exact ⟨h0, h1⟩, fun v h => List.mem_append_left _ (hv.sub v h), hv.nod, snoc_nodup hv.mnod hi⟩
def order (g : Int → List Int) (n : Nat) : List Int := if n = 0 then [] else (dfs g n 0 ([], [])).2
section
variable {g : Int → List Int} {n : Nat} (hg : ∀ i, ∀ k ∈ g i, 0 ≤ k ∧ k < n)
include hg
theorem good0 (hn : 0 < n) : Good g n [0] [] [] (dfs g n 0 ([], [])).1 (dfs g n 0 ([], [])).2 :=
 dfs_good hg n 0 [] [] (by omega) (by omega) (by simp) (by rw [unmet_nil]; exact Nat.le_refl _) ⟨by simp, by simp, List.nodup_nil, List.nodup_nil⟩
theorem order_nodup : (order g n).Nodup := by
 unfold order
 split
 ·exact List.nodup_nil
 ·exact (good0 hg (by omega)).inv.nod
theorem order_rng (v : Int) (hv : v ∈ order g n) : 0 ≤ v ∧ v < n := by
 unfold order at hv
 split at hv
 ·simp at hv
 ·have h := good0 hg (n := n) (by omega)
  exact h.inv.rng v (h.inv.sub v hv)
omit hg in
theorem order_head (hn : 0 < n) : ∃ t, order g n = 0 :: t := by
 unfold order
 rw [zD (by omega)]
 obtain ⟨m, rfl⟩ : ∃ m, n = m + 1 := ⟨n - 1, by omega⟩
 exact ⟨_, by rw [dfs_succ]⟩
end
theorem nodup_len {n : Nat} : ∀ {l : List Int}, l.Nodup → (∀ v ∈ l, 0 ≤ v ∧ v < n) → l.length ≤ n := by
 have key : ∀ (m : Nat) (l : List Int), l.Nodup → (∀ v ∈ l, 0 ≤ v ∧ v < m) → l.length ≤ m := by
  intro m
  induction m with
  | zero =>
   intro l _ h
   cases l with
   | nil => exact Nat.le_refl _
   | cons a l => have := h a List.mem_cons_self; omega
  | succ m ih =>
   intro l hd h
   have h1 : (l.erase (m : Int)).length ≤ m := ih _ (hd.erase _) (fun v hv => by
    have hv' := (List.Nodup.mem_erase_iff hd).1 hv
    have := h v hv'.2
    have hne := hv'.1
    omega)
   have h2 : l.length ≤ (l.erase (m : Int)).length + 1 := by
    rw [List.length_erase]
    split <;> omega
   omega
 intro l hd h
 exact key n _ hd h
theorem Inv.len {n : Nat} {met put : List Int} (h : Inv n met put) : put.length ≤ n := nodup_len h.nod (fun v hv => h.rng v (h.sub v hv))
theorem Inv.mlen {n : Nat} {met put : List Int} (h : Inv n met put) : met.length ≤ n := nodup_len h.mnod h.rng
def bitsOf (n : Nat) (met : List Int) : List Bool := (List.range n).map (fun (v : Nat) => decide ((v : Int) ∈ met))
theorem bits_len (n : Nat) (met : List Int) : (bitsOf n met).length = n := by simp [bitsOf]
theorem bits_get {n : Nat} {met : List Int} {i : Nat} (h : i < n) : (bitsOf n met)[i]? = some (decide ((i : Int) ∈ met)) := by simp [bitsOf, h]
theorem bits_nil (n : Nat) : bitsOf n [] = List.replicate n false := by
 apply List.ext_getElem?
 intro i
 by_cases h : i < n
 ·rw [bits_get h, List.getElem?_replicate, zC h]
  simp
 ·rw [List.getElem?_eq_none (by simp [bitsOf]; omega), List.getElem?_eq_none (by simp; omega)]
theorem bits_set {n : Nat} {met : List Int} {i : Int} (h0 : 0 ≤ i) (h1 : i < n) : (bitsOf n met).set i.toNat true = bitsOf n (met ++ [i]) := by
 apply List.ext_getElem?
 intro j
 by_cases h : j < n
 ·rw [List.getElem?_set, bits_get h, bits_get h]
  by_cases e : i.toNat = j
  ·rw [zC e, zC (by rw [bits_len]; omega)]
   have : (j : Int) = i := by omega
   simp [this]
  ·rw [zD e]
   have : (j : Int) ≠ i := by omega
   simp [this]
 ·rw [List.getElem?_eq_none (by simp [bits_len]; omega), List.getElem?_eq_none (by simp [bits_len]; omega)]
end Go.Proofs.Ythidcafbhjahdaa.Dfs
namespace Go.Proofs.Ythidcafbhjahdaa.PlainOrder
open Go Go.RowKit Go.Proofs.YthidcafbhjahdaaW.PrintWords Go.Proofs.YthidcafbhjahdaaW.PrintMore Go.Proofs.Ythidcafbhjahdaa.Q Go.Proofs.Ythidcafbhjahdaa.Plain Go.Proofs.Ythidcafbhjahdaa.PlainFlow Go.Proofs.Ythidcafbhjahdaa.Dfs
set_option linter.unusedVariables false
set_option linter.unusedSimpArgs false
theorem rng {x : List (List SIns)} : ∀ i, ∀ k ∈ succs x i, 0 ≤ k ∧ k < ((x.length : Nat) : Int) := fun i k hk => succs_mem x i k hk
section
variable {x : List (List SIns)} (hx : x.length ≤ 1000000)
include hx
theorem ref_fold {d : Nat} (H : ∀ (i : Int) (met put : List Int), 0 ≤ i → i < x.length → i ∉ met → unmet x.length met ≤ d → Inv x.length met put → Ev (fun k => cubbyref09_visit.f k x i met put) (dfs (succs x) d i (met, put))) (i : Int) (l : List Int) (hl : l.length ≤ 1000) (hlr : ∀ k ∈ l, 0 ≤ k ∧ k < x.length) :
 ∀ (q j : Nat) (met put : List Int), l.length - j = q → j ≤ l.length → unmet x.length met ≤ d → Inv x.length met put →
 Ev (fun k => cubbyref09_visit.l0 k x i met put l (j : Int)) (((l.drop j).foldl (stepS (succs x) d) (met, put)).1, i :: ((l.drop j).foldl (stepS (succs x) d) (met, put)).2) := by
 intro q
 induction q with
 | zero =>
  intro j met put hq hj hu hv
  rw [List.drop_eq_nil_of_le (by omega)]
  refine Ev.step (f := fun _ => some (met, i :: put)) (fun k => ?_) (Ev.now _)
  have := hv.len
  simp only [cubbyref09_visit.l0]
  rw [zD (by omega), zJ, zC (by simp; omega)]
  rfl
 | succ q ih =>
  intro j met put hq hj hu hv
  have hm := hv.mlen
  have hlt : j < l.length := by omega
  obtain ⟨k0, k1⟩ := hlr l[j] (List.getElem_mem hlt)
  rw [drop_cons hlt, List.foldl_cons]
  have hh := has_ev met l[j] (by omega)
  have st : ∀ k, cubbyref09_visit.l0 (k + 1) x i met put l (j : Int) = (cubbyref09_has.f k met l[j]).bind fun t => if t = true then cubbyref09_visit.l0 k x i met put l ((j + 1 : Nat) : Int) else (cubbyref09_visit.f k x l[j] met put).bind fun b => cubbyref09_visit.l0 k x i b.1 b.2 l ((j + 1 : Nat) : Int) := fun k => by
   simp only [cubbyref09_visit.l0]
   rw [zC (by omega), zC (by omega), rd_get hlt, wrap_nat (by omega)]
  by_cases hk : l[j] ∈ met
  ·have e : stepS (succs x) d (met, put) l[j] = (met, put) := by unfold stepS; rw [zC hk]
   rw [e]
   refine Ev.step st (Ev.bind hh ?_)
   simp only [hk, decide_true, if_true]
   exact ih (j + 1) met put (by omega) (by omega) hu hv
  ·have e : stepS (succs x) d (met, put) l[j] = dfs (succs x) d l[j] (met, put) := by unfold stepS; rw [zD hk]
   rw [e]
   have hg := dfs_good rng d l[j] met put k0 k1 hk hu hv
   refine Ev.step st (Ev.bind hh ?_)
   simp only [hk, decide_false, Bool.false_eq_true, if_false]
   exact Ev.bind (H l[j] met put k0 k1 hk hu hv) (ih (j + 1) (dfs (succs x) d l[j] (met, put)).1 (dfs (succs x) d l[j] (met, put)).2 (by omega) (by omega) (Nat.le_trans (unmet_le hg.keep) hu) hg.inv)
theorem ref_visit (hs : Small x) : ∀ (d : Nat) (i : Int) (met put : List Int), 0 ≤ i → i < x.length → i ∉ met → unmet x.length met ≤ d → Inv x.length met put →
 Ev (fun k => cubbyref09_visit.f k x i met put) (dfs (succs x) d i (met, put)) := by
 intro d
 induction d with
 | zero =>
  intro i met put h0 h1 hi hu _
  have := unmet_pos h0 h1 hi
  omega
 | succ d ih =>
  intro i met put h0 h1 hi hu hv
  have hu' : unmet x.length (met ++ [i]) ≤ d := by have := unmet_lt h0 h1 hi; omega
  have hv' := hv.snoc h0 h1 hi
  have hm := hv'.mlen
  have hl := succs_len x i
  have h2 := ref_fold hx ih i (succs x i) (by omega) (succs_mem x i) _ 0 (met ++ [i]) put rfl (by omega) hu' hv'
  rw [List.drop_zero] at h2
  rw [dfs_succ]
  rw [List.length_append, List.length_singleton] at hm
  refine Ev.step (f := fun k => (cubbyref09_Succs.f k x i).bind fun t => cubbyref09_visit.l0 k x i (met ++ [i]) put t 0) (fun k => ?_) (Ev.bind (refsuccs_ev x i hs) h2)
  simp only [cubbyref09_visit.f, zJ, List.nil_append]
  rw [zC (by simp; omega), zC (by omega)]
theorem reforder_ev (hs : Small x) : Ev (fun k => cubbyref09_Order.f k x) (order (succs x) x.length) := by
 by_cases h : x.length = 0
 ·refine Ev.congr (f := fun _ => some []) (fun k => by unfold cubbyref09_Order.f; rw [zC (by omega)]) ?_
  unfold order
  rw [zC h]
  exact Ev.now _
 ·refine Ev.congr (f := fun k => (cubbyref09_visit.f k x 0 [] []).bind fun b => some b.2) (fun k => by unfold cubbyref09_Order.f; rw [zD (by omega)]) ?_
  refine Ev.bind (ref_visit hx hs x.length 0 [] [] (by omega) (by omega) (by simp) (by rw [unmet_nil]; exact Nat.le_refl _) ⟨by simp, by simp, List.nodup_nil, List.nodup_nil⟩) ?_
  unfold order
  rw [zD h]
  exact Ev.now _
omit hx in
theorem rdOf_bits {n : Nat} {met : List Int} {i : Int} (h0 : 0 ≤ i) (h1 : i < n) : rdOf false (bitsOf n met) i = decide (i ∈ met) := by
 show (bitsOf n met).getD i.toNat false = _
 rw [List.getD_eq_getElem?_getD, bits_get (by omega)]
 have : ((i.toNat : Nat) : Int) = i := by omega
 simp [this]
theorem own_fold {d : Nat} (H : ∀ (i : Int) (met put : List Int), 0 ≤ i → i < x.length → i ∉ met → unmet x.length met ≤ d → Inv x.length met put → Ev (fun k => flow_Order_1.f k x i (bitsOf x.length met) put.reverse) (bitsOf x.length (dfs (succs x) d i (met, put)).1, (dfs (succs x) d i (met, put)).2.reverse)) (i : Int) (l : List Int) (hl : l.length ≤ 1000) (hlr : ∀ k ∈ l, 0 ≤ k ∧ k < x.length) :
 ∀ (q j : Nat) (met put : List Int), l.length - j = q → j ≤ l.length → unmet x.length met ≤ d → Inv x.length met put →
 Ev (fun k => flow_Order_1.l0 k x i (bitsOf x.length met) put.reverse l (j : Int)) (bitsOf x.length ((l.drop j).foldl (stepS (succs x) d) (met, put)).1, ((l.drop j).foldl (stepS (succs x) d) (met, put)).2.reverse ++ [i]) := by
 intro q
 induction q with
 | zero =>
  intro j met put hq hj hu hv
  rw [List.drop_eq_nil_of_le (by omega)]
  refine Ev.step (f := fun _ => some (bitsOf x.length met, put.reverse ++ [i])) (fun k => ?_) (Ev.now _)
  have := hv.len
  simp only [flow_Order_1.l0]
  rw [zD (by omega), zC (by simp; omega)]
 | succ q ih =>
  intro j met put hq hj hu hv
  have hm := hv.mlen
  have hlt : j < l.length := by omega
  obtain ⟨k0, k1⟩ := hlr l[j] (List.getElem_mem hlt)
  rw [drop_cons hlt, List.foldl_cons]
  have st : ∀ k, flow_Order_1.l0 (k + 1) x i (bitsOf x.length met) put.reverse l (j : Int) = if decide (l[j] ∈ met) = true then flow_Order_1.l0 k x i (bitsOf x.length met) put.reverse l ((j + 1 : Nat) : Int) else (flow_Order_1.f k x l[j] (bitsOf x.length met) put.reverse).bind fun b => flow_Order_1.l0 k x i b.1 b.2 l ((j + 1 : Nat) : Int) := fun k => by
   simp only [flow_Order_1.l0]
   rw [zC (by omega), zC (by omega), rd_get hlt, zC k0, zC (by rw [bits_len]; omega), rdOf_bits k0 (by omega), wrap_nat (by omega)]
  by_cases hk : l[j] ∈ met
  ·have e : stepS (succs x) d (met, put) l[j] = (met, put) := by unfold stepS; rw [zC hk]
   rw [e]
   refine Ev.step st ?_
   simp only [hk, decide_true, if_true]
   exact ih (j + 1) met put (by omega) (by omega) hu hv
  ·have e : stepS (succs x) d (met, put) l[j] = dfs (succs x) d l[j] (met, put) := by unfold stepS; rw [zD hk]
   rw [e]
   have hg := dfs_good rng d l[j] met put k0 k1 hk hu hv
   refine Ev.step st ?_
   simp only [hk, decide_false, Bool.false_eq_true, if_false]
   exact Ev.bind (H l[j] met put k0 k1 hk hu hv) (ih (j + 1) (dfs (succs x) d l[j] (met, put)).1 (dfs (succs x) d l[j] (met, put)).2 (by omega) (by omega) (Nat.le_trans (unmet_le hg.keep) hu) hg.inv)
theorem own_visit (hs : Small x) : ∀ (d : Nat) (i : Int) (met put : List Int), 0 ≤ i → i < x.length → i ∉ met → unmet x.length met ≤ d → Inv x.length met put →
 Ev (fun k => flow_Order_1.f k x i (bitsOf x.length met) put.reverse) (bitsOf x.length (dfs (succs x) d i (met, put)).1, (dfs (succs x) d i (met, put)).2.reverse) := by
 intro d
 induction d with
 | zero =>
  intro i met put h0 h1 hi hu _
  have := unmet_pos h0 h1 hi
  omega
 | succ d ih =>
  intro i met put h0 h1 hi hu hv
  have hu' : unmet x.length (met ++ [i]) ≤ d := by have := unmet_lt h0 h1 hi; omega
  have hv' := hv.snoc h0 h1 hi
  have hl := succs_len x i
  have h2 := own_fold hx ih i (succs x i) (by omega) (succs_mem x i) _ 0 (met ++ [i]) put rfl (by omega) hu' hv'
  rw [List.drop_zero] at h2
  rw [dfs_succ]
  simp only [List.reverse_cons]
  refine Ev.step (f := fun k => (flow_Succs.f k x i).bind fun t => flow_Order_1.l0 k x i (bitsOf x.length (met ++ [i])) put.reverse t 0) (fun k => ?_) (Ev.bind (succs_ev x i hs) h2)
  simp only [flow_Order_1.f]
  rw [zC h0, zC (by rw [bits_len]; omega), bits_set h0 h1]
end
theorem swap_get {l : List Int} {a b : Nat} (ha : a < l.length) (hb : b < l.length) (i : Nat) : ((l.set a l[b]).set b l[a])[i]? = if i = b then some l[a] else if i = a then some l[b] else l[i]? := by
 rw [List.getElem?_set]
 by_cases h1 : b = i
 ·subst h1
  simp [hb]
 ·rw [zD h1, List.getElem?_set, zD (Ne.symm h1)]
  by_cases h2 : a = i
  ·subst h2
   simp [ha]
  ·rw [zD h2, zD (Ne.symm h2)]
theorem rev_loop (n : Nat) (l0 : List Int) (hn : l0.length = n) (hb : n ≤ 1000000000) : ∀ (d a : Nat) (l : List Int), n - 2 * a = d → l.length = n → 2 * a ≤ n + 1 →
 (∀ i, l[i]? = if i < a ∨ n - a ≤ i then l0.reverse[i]? else l0[i]?) → Ev (fun k => slices_Reverse_int_int.l0 k l (a : Int) ((n : Int) - 1 - a)) l0.reverse := by
 intro d
 induction d using Nat.strongRecOn with
 | _ d ih =>
  intro a l hd hl ha he
  by_cases h : (a : Int) < (n : Int) - 1 - a
  ·have h1 : a < l.length := by omega
   have h2 : n - 1 - a < l.length := by omega
   have e2 : ((n : Int) - 1 - a) = ((n - 1 - a : Nat) : Int) := by omega
   refine Ev.step (f := fun k => slices_Reverse_int_int.l0 k ((l.set a l[n - 1 - a]).set (n - 1 - a) l[a]) ((a + 1 : Nat) : Int) ((n : Int) - 1 - ((a + 1 : Nat) : Int))) (fun k => ?_) (ih (n - 2 * (a + 1)) (by omega) (a + 1) ((l.set a l[n - 1 - a]).set (n - 1 - a) l[a]) rfl (by rw [List.length_set, List.length_set]; exact hl) (by omega) (fun i => ?_))
   ·simp only [slices_Reverse_int_int.l0]
    rw [zC h, zC (by omega), zC (by omega), zC (by omega), zC (by omega), e2, rd_get h1, rd_get h2, wrap_nat (by omega), Int.toNat_natCast, Int.toNat_natCast]
    rw [show wrap64 (((n - 1 - a : Nat) : Int) - 1) = (n : Int) - 1 - ((a + 1 : Nat) : Int) from by rw [wrap_id (by omega) (by omega)]; omega]
   ·rw [swap_get h1 h2 i]
    have ea : l[a] = l0[a] := by
     have := he a
     rw [zD (by omega), List.getElem?_eq_getElem h1, List.getElem?_eq_getElem (by omega)] at this
     exact zI this
    have eb : l[n - 1 - a] = l0[n - 1 - a] := by
     have := he (n - 1 - a)
     rw [zD (by omega), List.getElem?_eq_getElem h2, List.getElem?_eq_getElem (by omega)] at this
     exact zI this
    by_cases hi : i = n - 1 - a
    ·subst hi
     rw [zC rfl, zC (by omega), List.getElem?_reverse (by omega), ea, List.getElem?_eq_getElem (by omega)]
     congr 2
     omega
    ·rw [zD hi]
     by_cases hi2 : i = a
     ·subst hi2
      rw [zC rfl, zC (by omega), List.getElem?_reverse (by omega), eb, List.getElem?_eq_getElem (by omega)]
      congr 2
      omega
     ·rw [zD hi2, he i]
      by_cases h3 : i < a ∨ n - a ≤ i
      ·rw [zC h3, zC (by omega)]
      ·rw [zD h3, zD (by omega)]
  ·refine Ev.step (f := fun _ => some l0.reverse) (fun k => ?_) (Ev.now _)
   simp only [slices_Reverse_int_int.l0]
   rw [zD h]
   congr 1
   apply List.ext_getElem?
   intro i
   rw [he i]
   split
   ·rfl
   ·rename_i h3
    have : i = a ∧ n = 2 * a + 1 := by omega
    obtain ⟨rfl, hn2⟩ := this
    rw [List.getElem?_reverse (by omega)]
    congr 1
    omega
theorem reverse_ev (l : List Int) (hb : l.length ≤ 1000000000) : Ev (fun k => slices_Reverse_int_int.f k l) l.reverse := by
 have := rev_loop l.length l rfl hb _ 0 l rfl rfl (by omega) (fun i => by
  split
  ·rename_i h
   rw [List.getElem?_eq_none (by omega), List.getElem?_eq_none (by simp; omega)]
  ·rfl)
 refine Ev.congr (f := fun k => slices_Reverse_int_int.l0 k l ((0 : Nat) : Int) ((l.length : Int) - 1 - ((0 : Nat) : Int))) (fun k => ?_) this
 unfold slices_Reverse_int_int.f
 rw [wrap_id (by omega) (by omega)]
 simp
theorem order_len (x : List (List SIns)) : (order (succs x) x.length).length ≤ x.length := nodup_len (order_nodup rng) (order_rng rng)
theorem order_ev {x : List (List SIns)} (hx : x.length ≤ 1000000) (hs : Small x) : Ev (fun k => flow_Order.f k x) (order (succs x) x.length) := by
 by_cases h : x.length = 0
 ·refine Ev.congr (f := fun _ => some []) (fun k => by unfold flow_Order.f; rw [zC (by omega)]) ?_
  unfold order
  rw [zC h]
  exact Ev.now _
 ·refine Ev.congr (f := fun k => (flow_Order_1.f k x 0 (bitsOf x.length []) ([] : List Int).reverse).bind fun b => slices_Reverse_int_int.f k b.2) (fun k => by unfold flow_Order.f; rw [zD (by omega), zC (by omega), bits_nil]; rfl) ?_
  refine Ev.bind (own_visit hx hs x.length 0 [] [] (by omega) (by omega) (by simp) (by rw [unmet_nil]; exact Nat.le_refl _) ⟨by simp, by simp, List.nodup_nil, List.nodup_nil⟩) ?_
  have hl := order_len x
  unfold order at hl ⊢
  rw [zD h] at hl ⊢
  have := reverse_ev (dfs (succs x) x.length 0 ([], [])).2.reverse (by simp; omega)
  rwa [List.reverse_reverse] at this
end Go.Proofs.Ythidcafbhjahdaa.PlainOrder
namespace Go.Proofs.Ythidcafbhjahdaa.Dfs
open Go.Proofs.Ythidcafbhjahdaa.Plain
set_option linter.unusedVariables false
set_option linter.unusedSimpArgs false
def Topo (g : Int → List Int) : List Int → Prop
 | [] => True
 | v :: l => (∀ k ∈ g v, k ∈ l) ∧ Topo g l
theorem fold_topo {g : Int → List Int} {n d : Nat} (hg : ∀ i, ∀ k ∈ g i, 0 ≤ k ∧ k < n)
 (H : ∀ (i : Int) (met put : List Int), 0 ≤ i → i < n → i ∉ met → unmet n met ≤ d → Inv n met put → (∀ v ∈ met, v ∉ put → v < i) → Topo g put → Topo g (dfs g d i (met, put)).2) :
 ∀ (l met put : List Int), (∀ k ∈ l, 0 ≤ k ∧ k < n) → unmet n met ≤ d → Inv n met put → (∀ v ∈ met, v ∉ put → ∀ k ∈ l, v < k) → Topo g put → Topo g (l.foldl (stepS g d) (met, put)).2
 | [], met, put, _, _, _, _, h => h
 | k :: l, met, put, hl, hu, hv, hs, ht => by
  have hl' := fun q hq => hl q (List.mem_cons_of_mem k hq)
  obtain ⟨k0, k1⟩ := hl k List.mem_cons_self
  simp only [List.foldl_cons]
  by_cases hk : k ∈ met
  ·have e : stepS g d (met, put) k = (met, put) := by unfold stepS; rw [zC hk]
   rw [e]
   exact fold_topo hg H l met put hl' hu hv (fun v h h' q hq => hs v h h' q (List.mem_cons_of_mem _ hq)) ht
  ·have e : stepS g d (met, put) k = dfs g d k (met, put) := by unfold stepS; rw [zD hk]
   rw [e]
   have h1 := dfs_good hg d k met put k0 k1 hk hu hv
   have h2 := H k met put k0 k1 hk hu hv (fun v h h' => hs v h h' k List.mem_cons_self) ht
   generalize dfs g d k (met, put) = s1 at h1 h2
   obtain ⟨m1, p1⟩ := s1
   simp only at h1 h2
   refine fold_topo hg H l m1 p1 hl' (Nat.le_trans (unmet_le h1.keep) hu) h1.inv (fun v h h' q hq => ?_) h2
   have hp : v ∉ put := fun hp => h' ((h1.puts v).2 (.inl hp))
   by_cases hm : v ∈ met
   ·exact hs v hm hp q (List.mem_cons_of_mem _ hq)
   ·exact absurd ((h1.puts v).2 (.inr ⟨h, hm⟩)) h'
theorem dfs_topo {g : Int → List Int} {n : Nat} (hg : ∀ i, ∀ k ∈ g i, 0 ≤ k ∧ k < n) (hup : ∀ i, ∀ k ∈ g i, i < k) : ∀ (d : Nat) (i : Int) (met put : List Int), 0 ≤ i → i < n → i ∉ met → unmet n met ≤ d → Inv n met put →
 (∀ v ∈ met, v ∉ put → v < i) → Topo g put → Topo g (dfs g d i (met, put)).2 := by
 intro d
 induction d with
 | zero =>
  intro i met put h0 h1 hi hu _
  have := unmet_pos h0 h1 hi
  omega
 | succ d ih =>
  intro i met put h0 h1 hi hu hv hs ht
  rw [dfs_succ]
  have hu' : unmet n (met ++ [i]) ≤ d := by have := unmet_lt h0 h1 hi; omega
  have hv' : Inv n (met ++ [i]) put := hv.snoc h0 h1 hi
  have hst : ∀ v ∈ met ++ [i], v ∉ put → ∀ k ∈ g i, v < k := by
   intro v h h' k hk
   have h2 := hup i k hk
   rcases List.mem_append.1 h with h | h
   ·have := hs v h h'; omega
   ·rw [List.mem_singleton.1 h]; exact h2
  have hf := fold_good (dfs_good hg d) (g i) (met ++ [i]) put (hg i) hu' hv'
  have hp := fold_topo hg ih (g i) (met ++ [i]) put (hg i) hu' hv' hst ht
  simp only
  generalize (g i).foldl (stepS g d) (met ++ [i], put) = s at hf hp
  obtain ⟨m, p⟩ := s
  simp only at hf hp ⊢
  refine ⟨fun k hk => ?_, hp⟩
  rw [hf.puts k]
  by_cases hm : k ∈ met ++ [i]
  ·refine .inl (Classical.byContradiction fun hn => ?_)
   have := hst k hm hn k hk
   omega
  ·exact .inr ⟨hf.mem k hk, hm⟩
theorem order_topo {g : Int → List Int} {n : Nat} (hg : ∀ i, ∀ k ∈ g i, 0 ≤ k ∧ k < n) (hup : ∀ i, ∀ k ∈ g i, i < k) : Topo g (order g n) := by
 unfold order
 split
 ·trivial
 ·exact dfs_topo hg hup n 0 [] [] (by omega) (by omega) (by simp) (by rw [unmet_nil]; exact Nat.le_refl _) ⟨by simp, by simp, List.nodup_nil, List.nodup_nil⟩ (by simp) trivial
theorem Topo.at_ {g : Int → List Int} : ∀ {l : List Int} (h : Topo g l) (i : Nat) (hi : i < l.length), ∀ k ∈ g l[i], k ∈ l.drop (i + 1)
 | v :: l, h, 0, _, k, hk => h.1 k hk
 | v :: l, h, i + 1, hi, k, hk => by
  have := h.2.at_ i (by simpa using hi) k (by simpa using hk)
  simpa using this
end Go.Proofs.Ythidcafbhjahdaa.Dfs
namespace Go.Proofs.Ythidcafbhjahdaa.RFlowAhead.Pure
open Go Go.RowKit Go.Proofs.YthidcafbhjahdaaW.PrintWords Go.Proofs.YthidcafbhjahdaaW.PrintMore Go.Proofs.Ythidcafbhjahdaa.Q Go.Proofs.Ythidcafbhjahdaa.Plain Go.Proofs.Ythidcafbhjahdaa.PlainFlow Go.Proofs.Ythidcafbhjahdaa.PlainLaw09 Go.Proofs.Ythidcafbhjahdaa.Dfs Go.Proofs.Ythidcafbhjahdaa.PlainOrder
set_option linter.unusedVariables false
theorem ev_all {α : Type} {g : Nat → Nat → Option α} {r : Nat → α} : ∀ (n : Nat), (∀ i < n, Ev (g i) (r i)) → ∃ K, ∀ k, K ≤ k → ∀ i < n, g i k = some (r i)
 | 0, _ => ⟨0, fun _ _ i hi => absurd hi (by omega)⟩
 | n + 1, h => by
  obtain ⟨K, hK⟩ := ev_all n (fun i hi => h i (by omega))
  obtain ⟨K', hK'⟩ := h n (by omega)
  refine ⟨max K K', fun k hk i hi => ?_⟩
  rcases Nat.lt_or_ge i n with h1 | h1
  ·exact hK k (by omega) i h1
  ·obtain rfl : i = n := by omega
   exact hK' k (by omega)
theorem addT_sub (n : Nat) (out : List Int) (t : Int) : ∀ y ∈ addT n out t, y ∈ out ∨ y = t := by
 intro y hy
 unfold addT at hy
 split at hy
 ·simpa using hy
 ·exact .inl hy
theorem foldT_sub (n : Nat) : ∀ (l out : List Int), ∀ y ∈ l.foldl (addT n) out, y ∈ out ∨ y ∈ l
 | [], out, y, h => .inl h
 | t :: l, out, y, h => by
  rcases foldT_sub n l _ y h with h | h
  ·rcases addT_sub n out t y h with h | h
   ·exact .inl h
   ·exact .inr (by simp [h])
  ·exact .inr (by simp [h])
theorem all_len (ts : List (List Int)) : (aheadAll ts).length = ts.length + 1 := by simp [aheadAll, aheadB_len]
theorem all_at (ts : List (List Int)) (i : Nat) : (aheadAll ts)[i]? = if i < ts.length then some [insB (way ts i 0) (way ts i 1)] else if i = ts.length then some [insR] else none := by
 unfold aheadAll
 by_cases h : i < ts.length
 ·rw [zC h, List.getElem?_append_left (by rw [aheadB_len]; exact h)]
  simp [aheadB, h]
 ·rw [zD h, List.getElem?_append_right (by rw [aheadB_len]; omega), aheadB_len]
  by_cases h2 : i = ts.length
  ·subst h2; simp
  ·rw [zD h2]
   simp only [List.getElem?_eq_none_iff, List.length_singleton]
   omega
theorem up (ts : List (List Int)) (i : Int) : ∀ k ∈ succs (aheadAll ts) i, i < k := by
 intro k hk
 unfold succs at hk
 split at hk
 ·simp at hk
 ·rename_i hn
  have h0 : ¬ i < 0 := fun h => hn (.inl h)
  have hb : blockAt (aheadAll ts) i = ((aheadAll ts)[i.toNat]?).getD [] := by unfold blockAt; rw [List.getD_eq_getElem?_getD]
  rw [all_at] at hb
  rcases foldT_sub _ _ _ k hk with h | h
  ·simp at h
  rw [hb] at h
  split at h
  ·rename_i hi
   have e : targets (lastOf ((some [insB (way ts i.toNat 0) (way ts i.toNat 1)]).getD [])) = [way ts i.toNat 0, way ts i.toNat 1] := by
    simp [lastOf, targets, insB]
   rw [e] at h
   have hw : ∀ m, i < way ts i.toNat m := fun m => by
    have := Int.emod_nonneg ((ts.getD i.toNat []).getD m 0) (show (ts.length : Int) - (i.toNat : Nat) ≠ 0 by omega)
    unfold way
    omega
   rcases List.mem_cons.1 h with h | h
   ·rw [h]; exact hw 0
   ·rw [List.mem_singleton.1 h]; exact hw 1
  ·split at h
   ·have e : targets (lastOf ((some [insR]).getD [])) = [] := by simp [lastOf, targets, insR]
    rw [e] at h
    simp at h
   ·have e : targets (lastOf ((none : Option (List SIns)).getD [])) = [] := by decide
    rw [e] at h
    simp at h
theorem FlowAhead : FlowAhead.Pure := by
 intro ts ⟨_, _, hu⟩
 by_cases h30 : 30 < ts.length
 ·exact ⟨0, by unfold cubbylaw09_FlowAhead.f; rw [zC (.inl h30)]⟩
 have hlen := all_len ts
 have hsm : Small (aheadAll ts) := ⟨by omega, fun b hb => by
  obtain ⟨i, hi⟩ := List.getElem?_of_mem hb
  rw [all_at] at hi
  split at hi
  ·rw [← zI hi]; simp
  ·split at hi
   ·rw [← zI hi]; simp
   ·simp at hi⟩
 have hol := order_len (aheadAll ts)
 have hnd := order_nodup (g := succs (aheadAll ts)) (n := (aheadAll ts).length) rng
 have htp := order_topo (g := succs (aheadAll ts)) (n := (aheadAll ts).length) rng (up ts)
 have hpos : 0 < (order (succs (aheadAll ts)) (aheadAll ts).length).length := by
  obtain ⟨t, ht⟩ := order_head (g := succs (aheadAll ts)) (n := (aheadAll ts).length) (by omega)
  rw [ht]; simp
 have e1 := order_ev (x := aheadAll ts) (by omega) hsm
 have e2 := reforder_ev (x := aheadAll ts) (by omega) hsm
 generalize hl : order (succs (aheadAll ts)) (aheadAll ts).length = l at hol hnd htp hpos e1 e2
 obtain ⟨K1, e1⟩ := e1
 obtain ⟨K2, e2⟩ := e2
 obtain ⟨K3, e3⟩ := same_ev l (by omega)
 obtain ⟨K4, e4⟩ := ev_all (g := fun i k => flow_Succs.f k (aheadAll ts) (l.getD i 0)) (r := fun i => succs (aheadAll ts) (l.getD i 0)) l.length (fun i _ => succs_ev _ _ hsm)
 refine ⟨max (max K1 K2) (max K3 K4), ?_⟩
 unfold cubbylaw09_FlowAhead.f
 refine zC (.inr ⟨fun x hx y hy => ?_, l, e1 _ (by omega), e2 _ (by omega), e3 _ (by omega), hpos, by omega, fun i hi => ?_⟩)
 ·have := (hu x hx).2 y hy
  have := bounds_u8 this
  omega
 ·have hg : l.getD i 0 = l[i] := by rw [List.getD_eq_getElem?_getD, List.getElem?_eq_getElem hi]; rfl
  refine ⟨succs (aheadAll ts) l[i], by rw [← hg]; exact e4 _ (by omega) i hi, by have := succs_len (aheadAll ts) l[i]; omega, fun j hj => ?_⟩
  have hm := htp.at_ i hi _ (List.getElem_mem hj)
  obtain ⟨q, hq⟩ := List.getElem?_of_mem hm
  rw [List.getElem?_drop] at hq
  have hql := (List.getElem?_eq_some_iff.1 hq).1
  refine ⟨i + 1 + q, by omega, hql, hq, fun p hp he => ?_⟩
  have hpl := (List.getElem?_eq_some_iff.1 he).1
  exact List.pairwise_iff_getElem.1 hnd p (i + 1 + q) hpl hql (by omega) ((List.getElem?_eq_some_iff.1 he).2.trans (List.getElem?_eq_some_iff.1 hq).2.symm)
end Go.Proofs.Ythidcafbhjahdaa.RFlowAhead.Pure
namespace Go.Proofs.Ythidcafbhjahdaa.RFlowAhead
open Go.ChangeShapes Go.WideShapes Go.ChangeAt
open Go.ChangeMaps (open_string shut_string)
open Go Go.RowKit Go.Proofs.YthidcafbhjahdaaW.PrintWords Go.Proofs.YthidcafbhjahdaaW.PrintLast Go.Proofs.YthidcafbhjahdaaW.PrintMore Go.Proofs.Ythidcafbhjahdaa.Q Go.Proofs.Ythidcafbhjahdaa.Open
set_option linter.unusedVariables false
theorem own : ownKnob Try.prog.godebug = none := by kernel_rfl
theorem laidOut : laidOutB Try.prog = true := by kernel_rfl
set_option maxRecDepth 100000 in
theorem lifted (os : Os) (started : os.Started) (H : Type) (enc : TypeId × Value → H) :
 ReturnsInHanded {} Try.checked os 3 .any (Rows.flowAheadSpec.pre6 enc Try.prog Try.f3 Rows.flowAheadRow.domain false) (Rows.flowAheadSpec.post enc Try.prog Try.f3 false true false false) := by
 refine returnsInHanded_of_change_sized (C := Try.checked) own started (by kernel_rfl) Try.func3
  (ChangeSpec.witness6 (enc := enc) (C := Try.checked) false ⟨#[], #[.slice none 0 0], []⟩ 8 (by kernel_rfl) (by kernel_rfl) (by kernel_rfl) (by kernel_rfl)) ?_
 intro W base args ds gs before hval0 hW hcnd hsz0 _
 have hsz : (DataW.weightsEach Try.prog (Try.f3.params.toList ++ Rows.flowAheadSpec.plain.varTypes Try.prog) (ds ++ gs)).all (· ≤ reachBytes) = true := hsz0
 have hval : ∀ (j : Nat) t v, Try.f3.params[j]? = some t → args[j]? = some v → Value.okWide Try.prog W .any base t v := hval0
 have hW' := hW
 obtain ⟨p, q, hA0, hV, rfl, hfz, hnd⟩ := hW
 have hA : DataW.TrodAll enc Try.prog W 0 (fun _ => true) true Try.f3.params.toList args.toList ds p := hA0
 rw [Try.params3] at hA hval hsz
 obtain ⟨v0, vs0, d0, ds0, p0, q0, hargs, rfl, rfl, h0, r0⟩ := trodAll_cons hA
 obtain ⟨rfl, rfl, rfl⟩ := trodAll_nil r0
 obtain rfl : args = #[v0] := by cases args; simp_all
 obtain ⟨rfl, rfl⟩ := trodVars_none hV
 have lt0 : ∀ x ∈ p0, x.block < W.heap.size := by obtain ⟨m, hm⟩ := h0; exact DataW.trod_lt m _ _ _ hm
 obtain ⟨A0, len0, c0, rfl⟩ := okWide_slice Try.underlying22 (hval 0 22 v0 rfl rfl)
 obtain ⟨l0, ⟨_, _, e0, hc0, hr0⟩, g0⟩ := ((Opens.slice (B := 2) (Try.underlying22) (by kernel_rfl) (by kernel_rfl) (Opens.arr (Try.underlying24) (by kernel_rfl) (Opens.int (Try.underlying5) (by kernel_rfl)))) : Opens Try.prog 22 (Kd.slice 24 (Kd.arr 2 (Kd.int .u8) (by decide))) (fun x => ((x).length * 2 ≤ 140737488351232 ∧ (x).length ≤ maxLen ∧ ∀ y1 ∈ (x), ((y1).length = 2 ∧ ∀ y2 ∈ (y1), (Lit.int .u8 (y2)).wf = true)))).arg h0 hsz (j := 0) rfl rfl
 simp [Value.cells] at e0
 obtain ⟨rfl, rfl, rfl⟩ := e0
 clear hA0 hval0 hsz0 hsz
 obtain ⟨k, hf⟩ := Pure.FlowAhead l0 g0
 refine (Q.cubbylaw09_FlowAhead.calls k A0 c0 l0 true W hr0 hc0 hf).mono ?_
 rintro e W' ⟨rfl, hd⟩
 have bel : Below W.heap.size W W' := hd
 exact ⟨_, rfl, _, _, _, [], _, [], hW', trodAll_mk1 (shut_bool Try.underlying4 _), (trodAll_cons_mk (Below.trod laidOut (by kernel_rfl) (zB (by kernel_rfl)) h0 bel lt0) trodAll_mk0), rfl, bel.frame _, fun h => by cases h⟩
theorem over : Rows.flowAheadRow.holds Try.pinned (OpenSpec.ofChange Rows.flowAheadSpec) :=
 OpenClaim.holds_of_wide 3 Try.f3 rfl rfl rfl rfl rfl rfl rfl ⟨rfl, rfl, rfl, rfl, rfl⟩ rfl rfl rfl rfl rfl (by kernel_rfl) Try.func3 (by kernel_rfl)
  (zB (by kernel_rfl)) (by unfold Func.isWrapper; first | (rw [zC (by decide +kernel)]; kernel_rfl) | (rw [zD (by decide +kernel)]; exact ⟨rfl, rfl⟩))
  (fun os started H enc _ => lifted os started H enc)
end Go.Proofs.Ythidcafbhjahdaa.RFlowAhead
namespace Go.Proofs.Ythidcafbhjahdaa
theorem flowAhead_holds : Rows.FlowAheadSaid := RFlowAhead.over
#print axioms flowAhead_holds
end Go.Proofs.Ythidcafbhjahdaa
