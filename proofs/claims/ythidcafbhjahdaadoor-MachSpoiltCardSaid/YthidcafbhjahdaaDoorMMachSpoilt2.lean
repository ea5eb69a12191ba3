/- MachSpoilt: parts of the proofs, put together. -/
import Derived.SizedLaws
import Derived.Deep.Slices
import Derived.ProofKit
import Derived.Test.YthidcafbhjahdaaDoorProg
import Derived.Below
import Derived.Deep.Draws
import Derived.Deep.AppendLies
import Derived.Maps.AppendAt
import Derived.OwnWalk
import Derived.Laws.BytesArg
import Derived.Laws.MakeOwn
import Derived.Laws.OwnMore
import Derived.Deep.OwnRows
import Derived.Tactics
import Derived.Lib.ConvBytes
import Derived.Laws.Slices
import Derived.WalkKit
import Derived.KernelRfl
import Derived.RowKit3
import Derived.Deep.LoopGhost
import Derived.Deep.QuietTactic
import Derived.BigQuiet
import Derived.WideLaws
import Derived.Deep.DeepCutAuto
import Derived.Deep.CutBlock
import Derived.Deep.RegionHeld3
import Derived.Laws.Rows
import Derived.Lib.AppendStr
import Derived.ArgAppend
import Derived.Laws.IdiomCopy
import Derived.OrdersHeld
import Derived.Laws.BitsLemmas
import Derived.RowKit
import Derived.OpenShut
import Derived.Lib.LaidU8
import Derived.Ground.NamesProg
import Derived.Ground.SlgfProg
import Derived.Shelf.SlGeneric
import Derived.Shelf.Strings.SlTrimAscii
import Derived.Shelf.SlicesE.IndexFunc
import Derived.Test.YthidcafbhjahdaaDoorMMachSpoilt1
namespace Go.Proofs.YthidcafbhjahdaaDoor.Open
open Go Go.Proofs.YthidcafbhjahdaaDoorW.PrintWords
def Opens (P : Program) (t : TypeId) {α : Type} (d : Kd α) (G : α → Prop) : Prop :=
 P.cellsOf t = d.sz ∧ ∀ {H : Type} (enc : TypeId × Value → H) (w : World) (fuel : Nat) (cs : List Value) (x : DataW H × List MemPlace),
  DataW.trod enc P w 0 (fun _ => true) true fuel t cs = some x → (∀ n ∈ x.1.weights P t, n ≤ 140737488351232) → ∃ y, d.K w y cs ∧ G y
theorem Opens.int {P : Program} {t : TypeId} {k : IntKind} (ht : P.underlying t = some (.int k)) (hc : P.cellsOf t = 1) : Opens P t (Kd.int k) (fun n => (Lit.int k n).wf = true) := by
 refine ⟨hc, fun enc w fuel cs x h _ => ?_⟩
 obtain ⟨n, rfl, _, hw⟩ := DataW.trod_int ht h
 exact ⟨n, rfl, hw⟩
theorem Opens.bool {P : Program} {t : TypeId} (ht : P.underlying t = some .bool) (hc : P.cellsOf t = 1) : Opens P t Kd.bool (fun _ => True) := by
 refine ⟨hc, fun enc w fuel cs x h _ => ?_⟩
 obtain ⟨b, rfl, _⟩ := DataW.trod_bool ht h
 exact ⟨b, rfl, trivial⟩
theorem Opens.string {P : Program} {t : TypeId} (ht : P.underlying t = some .string) (hc : P.cellsOf t = 1) : Opens P t Kd.string (fun s => s.size ≤ 140737488351232) := by
 refine ⟨hc, fun enc w fuel cs x h hz => ?_⟩
 obtain ⟨s, rfl, rfl, _⟩ := DataW.trod_string ht h
 refine ⟨s, rfl, ?_⟩
 have := hz s.data.toList.length (by simp [DataW.weights])
 simpa using this
theorem weightsAll_mem {H : Type} {P : Program} {e : TypeId} : ∀ {l : List (DataW H)} {d : DataW H}, d ∈ l → ∀ n ∈ d.weights P e, n ∈ DataW.weightsAll P e l
 | a :: l, d, hd, n, hn => by
  simp only [DataW.weightsAll, List.mem_append]
  rcases List.mem_cons.1 hd with rfl | hd
  ·exact Or.inl hn
  ·exact Or.inr (weightsAll_mem hd n hn)
theorem choose_list {α : Type} {Q : Nat → α → Prop} : ∀ (n : Nat), (∀ i, i < n → ∃ y, Q i y) → ∃ ys : List α, ys.length = n ∧ ∀ i y, ys[i]? = some y → Q i y
 | 0, _ => ⟨[], rfl, fun i y h => by simp at h⟩
 | n + 1, h => by
  obtain ⟨ys, hl, hq⟩ := choose_list n (fun i hi => h i (by omega))
  obtain ⟨y, hy⟩ := h n (by omega)
  refine ⟨ys ++ [y], by simp [hl], fun i z hz => ?_⟩
  rcases Nat.lt_or_ge i n with hi | hi
  ·rw [List.getElem?_append_left (by omega)] at hz
   exact hq i z hz
  ·rw [List.getElem?_append_right (by omega)] at hz
   have : i = n := by
    have := (List.getElem?_eq_some_iff.1 hz).1
    simp at this
    omega
   subst this
   rw [hl, Nat.sub_self] at hz
   simp at hz
   subst hz
   exact hy
theorem Opens.slice {P : Program} {t e : TypeId} {α : Type} {d : Kd α} {G : α → Prop} {B : Nat} (ht : P.underlying t = some (.slice e)) (hc : P.cellsOf t = 1) (hB : P.bytesOf e = B) (hd : Opens P e d G) :
 Opens P t (Kd.slice e d) (fun xs => xs.length * B ≤ 140737488351232 ∧ xs.length ≤ maxLen ∧ ∀ x ∈ xs, G x) := by
 refine ⟨hc, fun enc w fuel cs x h hz => ?_⟩
 rcases Go.Deep.open_slice ht h with ⟨rfl, rfl⟩ | ⟨a, len, cap, m, n, D, Pl, rfl, _, hl, hm, hmc, rfl, hel⟩
 ·refine ⟨[], ⟨none, 0, rfl, Nat.le_refl _, ?_⟩, by simp [maxLen]⟩
  exact ⟨rfl, by simp, fun h => absurd h (by simp)⟩
 ·replace hmc : m = cap := by rw [hmc]; rfl
  subst hmc
  have hw : ∀ i, i < len → ∀ q ∈ (D i).weights P e, q ≤ 140737488351232 := by
   intro i hi q hq
   apply hz
   simp only [DataW.weights, ht, List.mem_cons, List.mem_append]
   right; left
   exact weightsAll_mem (d := D i) (List.mem_map.2 ⟨i, by simpa using hi, rfl⟩) q hq
  have hbig : (len + (m - len)) * B ≤ 140737488351232 := by
   apply hz
   simp only [DataW.weights, ht, List.mem_cons, List.length_map, List.length_range, hB]
   left; trivial
  obtain ⟨ys, hyl, hys⟩ := choose_list (Q := fun i y => ∃ c, w.cells? 0 (a.add (i * P.cellsOf e)) (P.cellsOf e) = some c ∧ d.K w y c ∧ G y) len (fun i hi => by
   obtain ⟨c, h1, h2⟩ := hel i (by omega)
   obtain ⟨y, hk, hg⟩ := hd.2 enc w _ _ _ h2 (hw i hi)
   exact ⟨y, c, h1, hk, hg⟩)
  refine ⟨ys, ⟨some a, m, by rw [hyl], by omega, ?_⟩, ?_, by omega, ?_⟩
  ·refine ⟨rfl, by unfold maxLen at hm; omega, fun _ => ⟨a, rfl, fun j p hj => ?_⟩⟩
   obtain ⟨c, h1, hk, hg⟩ := hys j p hj
   obtain ⟨_, h3, h4⟩ := World.cells?_some h1
   refine ⟨c, by rw [h3, hd.1], hk, fun i u hu => ?_⟩
   have hi : i < P.cellsOf e := by
    have := (List.getElem?_eq_some_iff.1 hu).1
    omega
   have h5 := h4 i hi
   rw [hu] at h5
   rw [← h5, ← hd.1]
   congr 1
   rw [Addr.add_add]
  ·rw [hyl]
   exact Nat.le_trans (Nat.mul_le_mul_right _ (by omega)) hbig
  ·intro y hy
   obtain ⟨i, hi⟩ := List.getElem?_of_mem hy
   obtain ⟨_, _, _, hg⟩ := hys i y hi
   exact hg
structure OpensFs (P : Program) (fs : List Field) (off : Nat) {α : Type} (d : Kd α) (G : α → Prop) : Prop where
 out : ∀ (H : Type) (enc : TypeId × Value → H) (w : World) (fuel : Nat) (cs : List Value) (xs : List (DataW H × List MemPlace)), cs.length = off + d.sz → xs.length = fs.length →
  (∀ (i : Nat) (f : Field), fs[i]? = some f → DataW.trod enc P w 0 (fun _ => true) true fuel f.type ((cs.drop f.offset).take (P.cellsOf f.type)) = xs[i]?) →
  (∀ n ∈ DataW.weightsEach P (fs.map (·.type)) (xs.map (·.1)), n ≤ 140737488351232) → ∃ y, d.K w y (cs.drop off) ∧ G y
theorem OpensFs.one {P : Program} {f : Field} {off : Nat} {α : Type} {d : Kd α} {G : α → Prop} (ho : f.offset = off) (hd : Opens P f.type d G) : OpensFs P [f] off d G := by
 refine ⟨fun H enc w fuel cs xs hl hx hf hz => ?_⟩
 have h0 := hf 0 f rfl
 obtain ⟨x, rfl⟩ : ∃ x, xs = [x] := by
  match xs, hx with
  | [x], _ => exact ⟨x, rfl⟩
 have h1 : (cs.drop f.offset).take (P.cellsOf f.type) = cs.drop off := by
  rw [ho, hd.1, List.take_of_length_le (by simp; omega)]
 rw [h1] at h0
 exact hd.2 enc w fuel _ x h0 (fun n hn => hz n (by simpa [DataW.weightsEach] using hn))
theorem OpensFs.cons {P : Program} {f : Field} {fs : List Field} {off : Nat} {α β : Type} {d : Kd α} {d2 : Kd β} {G : α → Prop} {G2 : β → Prop} (ho : f.offset = off) (hd : Opens P f.type d G) (h2 : OpensFs P fs (off + d.sz) d2 G2) :
 OpensFs P (f :: fs) off (Kd.pair d d2) (fun y => G y.1 ∧ G2 y.2) := by
 refine ⟨fun H enc w fuel cs xs hl hx hf hz => ?_⟩
 have hp : (Kd.pair d d2).sz = d.sz + d2.sz := rfl
 match xs, hx with
 | x :: xs, hx =>
  have h0 := hf 0 f rfl
  simp only [List.getElem?_cons_zero] at h0
  obtain ⟨y, hk, hg⟩ := hd.2 enc w fuel _ x h0 (fun n hn => hz n (by simp only [List.map_cons, DataW.weightsEach, List.mem_append]; exact Or.inl hn))
  obtain ⟨y2, hk2, hg2⟩ := h2.out H enc w fuel cs xs (by omega) (by simpa using hx) (fun i g hi => by simpa using hf (i + 1) g (by simpa using hi)) (fun n hn => hz n (by simp only [List.map_cons, DataW.weightsEach, List.mem_append]; exact Or.inr hn))
  refine ⟨(y, y2), ⟨_, _, ?_, hk, hk2⟩, hg, hg2⟩
  rw [ho, hd.1, ← List.drop_drop, List.take_append_drop]
theorem Opens.struct {P : Program} {t : TypeId} {fs : Array Field} {α : Type} {d : Kd α} {G : α → Prop} (ht : P.underlying t = some (.struct fs)) (hc : P.cellsOf t = d.sz) (hf : OpensFs P fs.toList 0 d G) : Opens P t d G := by
 refine ⟨hc, fun enc w fuel cs x h hz => ?_⟩
 obtain ⟨xs, n, rfl, rfl, hl, hx, hi⟩ := DataW.trod_struct ht h
 have := hf.out _ enc w n cs xs (by omega) (by simpa using hx) (fun i f h => hi i f (by simpa using h)) (fun q hq => hz q (by simpa [DataW.weights, ht] using hq))
 simpa using this
theorem Opens.iso {P : Program} {t : TypeId} {α β : Type} {d : Kd α} {G : α → Prop} (f : β → α) (g : α → β) (hg : ∀ y, f (g y) = y) (h : Opens P t d G) : Opens P t (Kd.iso d f) (fun x => G (f x)) := by
 refine ⟨h.1, fun enc w fuel cs x hx hz => ?_⟩
 obtain ⟨y, hk, hy⟩ := h.2 enc w fuel cs x hx hz
 exact ⟨g y, by show d.K w (f (g y)) cs; rw [hg]; exact hk, by show G (f (g y)); rw [hg]; exact hy⟩
theorem Opens.imp {P : Program} {t : TypeId} {α : Type} {d : Kd α} {G G' : α → Prop} (h : Opens P t d G) (hG : ∀ y, G y → G' y) : Opens P t d G' :=
 ⟨h.1, fun enc w fuel cs x hx hz => by
  obtain ⟨y, hk, hy⟩ := h.2 enc w fuel cs x hx hz
  exact ⟨y, hk, hG y hy⟩⟩
theorem Opens.arg {P : Program} {t : TypeId} {α : Type} {d : Kd α} {G : α → Prop} (h : Opens P t d G) {H : Type} {enc : TypeId × Value → H} {w : World} {v : Value} {x : DataW H} {ps : List MemPlace} (ht : DataW.Trod enc P w 0 (fun _ => true) true t v x ps)
 {ts : List TypeId} {ds : List (DataW H)} (hsz : (DataW.weightsEach P ts ds).all (· ≤ reachBytes) = true) {j : Nat} (h1 : ts[j]? = some t) (h2 : ds[j]? = some x) : ∃ y, d.K w y v.cells.toList ∧ G y := by
 obtain ⟨fuel, hf⟩ := ht
 refine h.2 enc w fuel _ _ hf (fun n hn => ?_)
 have := List.all_eq_true.1 hsz _ (DataW.weights_mem_each h1 h2 n hn)
 exact zB this
end Go.Proofs.YthidcafbhjahdaaDoor.Open
namespace Go.Proofs.YthidcafbhjahdaaDoor.Q
open Go.RowKit Go.Proofs.YthidcafbhjahdaaDoorW.PrintWords Go.Proofs.YthidcafbhjahdaaDoorW.PrintLast Go.Proofs.YthidcafbhjahdaaDoorW.PrintMore
attribute [local go_sem] max2_int min2_int max_two min_two max_three min_three max_four min_four
set_option linter.unusedVariables false
set_option linter.unusedSimpArgs false
def errW : Option Int → Value
 | none => .nilIface
 | some c => .iface 0 (.int .i64 c)
theorem errW_none : errW none = .nilIface := rfl
theorem errW_some (c : Int) : errW (some c) = .iface 0 (.int .i64 c) := rfl
theorem info3 : (Tryd.prog.info? 3).map (fun i => (i.zero, i.size, i.bytes)) = some (some (.int .i64 0), 1, 8) := by kernel_rfl
theorem info28 : (Tryd.prog.info? 28).map (fun i => (i.zero, i.size, i.bytes)) = some (some (.slice none 0 0), 1, 24) := by kernel_rfl
theorem info31 : (Tryd.prog.info? 31).map (fun i => (i.zero, i.size, i.bytes)) = some (some (.agg #[(.int .i64 0), (.int .i64 0), (.int .i64 0), (.int .i64 0), (.string ⟨#[]⟩), (.slice none 0 0)]), 6, 72) := by kernel_rfl
-- the values' own types

structure SIns where
 f0 : Int
 f1 : Int
 f2 : Int
 f3 : Int
 f4 : ByteArray
 f5 : (List Int)
def zIns : SIns := ⟨(0 : Int), (0 : Int), (0 : Int), (0 : Int), (⟨#[]⟩ : ByteArray), ([] : List Int)⟩
def kIns : Kd SIns := Kd.iso (Kd.pair (Kd.int .i64) (Kd.pair (Kd.int .i64) (Kd.pair (Kd.int .i64) (Kd.pair (Kd.int .i64) (Kd.pair Kd.string (Kd.slice 3 (Kd.int .i64))))))) (fun x : SIns => (x.f0, x.f1, x.f2, x.f3, x.f4, x.f5))
theorem kIns_open {w : World} {x : SIns} {cs : List Value} (h : kIns.K w x cs) : ∃ A5 c5, cs = [.int .i64 x.f0, .int .i64 x.f1, .int .i64 x.f2, .int .i64 x.f3, .string x.f4, .slice A5 x.f5.length c5] ∧ x.f5.length ≤ c5 ∧ (Kd.int .i64).C w A5 x.f5.length x.f5 := by
 obtain ⟨_, _, rfl, rfl, ⟨_, _, rfl, rfl, ⟨_, _, rfl, rfl, ⟨_, _, rfl, rfl, ⟨_, _, rfl, rfl, ⟨A5, c5, rfl, l5, g5⟩⟩⟩⟩⟩⟩ := h
 exact ⟨A5, c5, rfl, l5, g5⟩
theorem kIns_mk (w : World) (x : SIns) {A5 : Option Addr} {c5 : Nat} (l5 : x.f5.length ≤ c5) (g5 : (Kd.int .i64).C w A5 x.f5.length x.f5) : kIns.K w x [.int .i64 x.f0, .int .i64 x.f1, .int .i64 x.f2, .int .i64 x.f3, .string x.f4, .slice A5 x.f5.length c5] := ⟨[.int .i64 x.f0], [.int .i64 x.f1, .int .i64 x.f2, .int .i64 x.f3, .string x.f4, .slice A5 x.f5.length c5], rfl, rfl, ⟨[.int .i64 x.f1], [.int .i64 x.f2, .int .i64 x.f3, .string x.f4, .slice A5 x.f5.length c5], rfl, rfl, ⟨[.int .i64 x.f2], [.int .i64 x.f3, .string x.f4, .slice A5 x.f5.length c5], rfl, rfl, ⟨[.int .i64 x.f3], [.string x.f4, .slice A5 x.f5.length c5], rfl, rfl, ⟨[.string x.f4], [.slice A5 x.f5.length c5], rfl, rfl, ⟨A5, c5, rfl, l5, g5⟩⟩⟩⟩⟩⟩
theorem kIns_mkF (W : World) (ok : Nat → Prop) (x : SIns) {A5 : Option Addr} {c5 : Nat} (l5 : x.f5.length ≤ c5) (g5 : Kd.F (Kd.int .i64) W ok A5 x.f5.length x.f5) : Kd.FK kIns W ok x [.int .i64 x.f0, .int .i64 x.f1, .int .i64 x.f2, .int .i64 x.f3, .string x.f4, .slice A5 x.f5.length c5] := fun W2 hW => kIns_mk W2 x l5 (g5 W2 hW)
def rd_TIns (xs : List SIns) (i : Int) : SIns := xs.getD i.toNat zIns
theorem at_TIns {w : World} {A : Option Addr} {n : Nat} {xs : List SIns} (h : Kd.C kIns w A n xs) (i : Int) (h0 : 0 ≤ i) (h1 : i < n) : ∃ ad A5 c5, A = some ad ∧ w.cell? (ad.add (i.toNat * 6)) = some (.int .i64 (rd_TIns xs i).f0) ∧ w.cell? ⟨(ad.add (i.toNat * 6)).block, (ad.add (i.toNat * 6)).off + 1, none⟩ = some (.int .i64 (rd_TIns xs i).f1) ∧ w.cell? ⟨(ad.add (i.toNat * 6)).block, (ad.add (i.toNat * 6)).off + 2, none⟩ = some (.int .i64 (rd_TIns xs i).f2) ∧ w.cell? ⟨(ad.add (i.toNat * 6)).block, (ad.add (i.toNat * 6)).off + 3, none⟩ = some (.int .i64 (rd_TIns xs i).f3) ∧ w.cell? ⟨(ad.add (i.toNat * 6)).block, (ad.add (i.toNat * 6)).off + 4, none⟩ = some (.string (rd_TIns xs i).f4) ∧ w.cell? ⟨(ad.add (i.toNat * 6)).block, (ad.add (i.toNat * 6)).off + 5, none⟩ = some (.slice A5 (rd_TIns xs i).f5.length c5) ∧ (rd_TIns xs i).f5.length ≤ c5 ∧ (Kd.int .i64).C w A5 (rd_TIns xs i).f5.length (rd_TIns xs i).f5 := by
 obtain ⟨ad, c, e, _, hK, hc0⟩ := Kd.C_get h zIns i h0 h1
 have hc : ∀ j u, c[j]? = some u → w.cell? (ad.add (i.toNat * 6 + j)) = some u := hc0
 obtain ⟨A5, c5, rfl, l5, g5⟩ := kIns_open hK
 exact ⟨ad, A5, c5, e, hc 0 _ rfl, by rw [← add_field _ _ 1 (by omega)]; exact hc 1 _ rfl, by rw [← add_field _ _ 2 (by omega)]; exact hc 2 _ rfl, by rw [← add_field _ _ 3 (by omega)]; exact hc 3 _ rfl, by rw [← add_field _ _ 4 (by omega)]; exact hc 4 _ rfl, by rw [← add_field _ _ 5 (by omega)]; exact hc 5 _ rfl, l5, g5⟩
def rd_LIns (xs : List (List SIns)) (i : Int) : (List SIns) := xs.getD i.toNat ([] : List SIns)
theorem at_LIns {w : World} {A : Option Addr} {n : Nat} {xs : List (List SIns)} (h : Kd.C (Kd.slice 31 kIns) w A n xs) (i : Int) (h0 : 0 ≤ i) (h1 : i < n) : ∃ ad A0 c0, A = some ad ∧ w.cell? (ad.add i.toNat) = some (.slice A0 (rd_LIns xs i).length c0) ∧ (rd_LIns xs i).length ≤ c0 ∧ kIns.C w A0 (rd_LIns xs i).length (rd_LIns xs i) := by
 obtain ⟨ad, c, e, _, hK, hc0⟩ := Kd.C_get h ([] : List SIns) i h0 h1
 have hc : ∀ j u, c[j]? = some u → w.cell? (ad.add (i.toNat * 1 + j)) = some u := hc0
 obtain ⟨A0, c0, rfl, l0, g0⟩ := hK
 exact ⟨ad, A0, c0, e, by have hq := hc 0 _ rfl; rwa [Nat.mul_one, Nat.add_zero] at hq, l0, g0⟩


end Go.Proofs.YthidcafbhjahdaaDoor.Q
namespace Go.Proofs.YthidcafbhjahdaaDoor.Q
open Go.RowKit Go.Proofs.YthidcafbhjahdaaDoorW.PrintWords Go.Proofs.YthidcafbhjahdaaDoorW.PrintLast Go.Proofs.YthidcafbhjahdaaDoorW.PrintMore
set_option linter.unusedVariables false
section
variable {P Q : Prop}
theorem qB (h : P := by repeat (first | (with_reducible first | exact HB.out | apply below_alloc | apply pw_below_drewN | apply below_drew1 | refine below_set ?_ (Aside0.out (by assumption))) | exact HB.out)) : P := h
theorem qA (h : P := by first | (with_reducible assumption) | assumption) : P := h
theorem qE (h : P := by first | rfl | (simp [errW_none, errW_some] <;> rfl) | (simp [*, errW_none, errW_some] <;> rfl)) : P := h
theorem qT (h : P := by first | rfl | (simp; done) | (simp [*]; done)) : P := h
theorem qO (h : P := by first | omega | exact Nat.le_refl _) : P := h
theorem qD (h : P := by repeat (first | exact Drawn0.refl _ | apply Drawn0.step)) : P := h
theorem qL (h : P := by (try simp only [List.map_toArray, List.map_cons, List.map_nil]); first | done | rfl | (simp only [List.length_drop, List.length_take]; rfl)) : P := h
theorem qK (q : Q) (h : Q → P := by intro h_; (with_reducible repeat (first | refine blk_drewN ?_ _ | refine blk_drew ?_ | refine blk_alloc ?_ _)); exact h_) : P := h q
theorem qR (q : Q) (h : Q → P := by intro h_; (with_reducible repeat (first | apply Kd.R_alloc | apply Kd.R_drewN | apply Kd.R_drew)); exact h_) : P := h q
theorem qN (q : Q) (h : Q → P := by intro h_; (with_reducible repeat (first | apply Kd.N_alloc | apply Kd.N_drewN | apply Kd.N_drew)); exact h_) : P := h q
theorem qV (q : Q) (h : Q → P := by intro h_; (with_reducible repeat (first | apply Kd.V_alloc | apply Kd.V_drewN | apply Kd.V_drew)); exact h_) : P := h q
theorem qCB (q : Q) (h : Q → P := by intro h_; repeat (first | exact (Kd.C_below h_ HB.out) | (with_reducible refine Kd.C_alloc ?_ _) | (with_reducible refine Kd.C_drewN ?_ _) | (with_reducible refine Kd.C_drew ?_))) : P := h q
end
theorem qW {w0 w w1 : World} {g : Nat} {o : Obj} (bk : Aside0 (w0.heap[g]? = some o)) (hb : Below w.heap.size w w1) (h : w0.heap[g]? = some o → w.heap[g]? = some o := by intro h_; (with_reducible repeat (first | refine blk_drewN ?_ _ | refine blk_drew ?_ | refine blk_alloc ?_ _)); exact h_) : Aside0 (w1.heap[g]? = some o) := ⟨blk_below (h bk.out) hb⟩
theorem qH {w W w2 : World} (hb : Below W.heap.size W w2) (h : Below w.heap.size w W := by repeat (first | (with_reducible first | exact HB.out | apply below_alloc | apply pw_below_drewN | apply below_drew1 | refine below_set ?_ (Aside0.out (by assumption))) | exact HB.out)) : Aside0 (Below w.heap.size w w2) := ⟨below_step h hb⟩
theorem qG {w W : World} {g : Nat} (hg : g = W.heap.size) (h : Below w.heap.size w W := by repeat (first | (with_reducible first | exact HB.out | apply below_alloc | apply pw_below_drewN | apply below_drew1 | refine below_set ?_ (Aside0.out (by assumption))) | exact HB.out)) : Aside0 (w.heap.size ≤ g) := ⟨by rw [hg]; exact below_size h⟩
theorem qb {α β : Type} {x : Option α} {f : α → Option β} {r : β} (h : x.bind f = some r) : ∃ t, Aside0 (x = some t) ∧ f t = some r := by
 obtain ⟨t, h1, h2⟩ := Option.bind_eq_some_iff.mp h
 exact ⟨t, ⟨h1⟩, h2⟩
theorem qe {α : Type} [BEq α] [LawfulBEq α] {a b : α} (h : a = b) : (a == b) = true ∧ (a != b) = false := ⟨beq_iff_eq.mpr h, bne_eq_false_iff_eq.mpr h⟩
theorem qn {α : Type} [BEq α] [LawfulBEq α] {a b : α} (h : ¬ a = b) : (a == b) = false ∧ (a != b) = true := ⟨beq_eq_false_iff_ne.mpr h, bne_iff_ne.mpr h⟩
theorem bk4 {w : World} {g : Nat} {t : TypeId} {c0 c1 c2 c3 : Value} (h : w.heap[g]? = some (.cells #[c0, c1, c2, c3] t (0, 0))) : w.cell? ⟨g, 0, none⟩ = some c0 ∧ w.cell? ⟨g, 1, none⟩ = some c1 ∧ w.cell? ⟨g, 2, none⟩ = some c2 ∧ w.cell? ⟨g, 3, none⟩ = some c3 ∧ w.frozen? ⟨g, 0, none⟩ = false ∧ w.frozen? ⟨g, 1, none⟩ = false ∧ w.frozen? ⟨g, 2, none⟩ = false ∧ w.frozen? ⟨g, 3, none⟩ = false := ⟨(blk_cell h 0).trans rfl, (blk_cell h 1).trans rfl, (blk_cell h 2).trans rfl, (blk_cell h 3).trans rfl, blk_frozen h 0, blk_frozen h 1, blk_frozen h 2, blk_frozen h 3⟩
theorem bk5 {w : World} {g : Nat} {t : TypeId} {c0 c1 c2 c3 c4 : Value} (h : w.heap[g]? = some (.cells #[c0, c1, c2, c3, c4] t (0, 0))) : w.cell? ⟨g, 0, none⟩ = some c0 ∧ w.cell? ⟨g, 1, none⟩ = some c1 ∧ w.cell? ⟨g, 2, none⟩ = some c2 ∧ w.cell? ⟨g, 3, none⟩ = some c3 ∧ w.cell? ⟨g, 4, none⟩ = some c4 ∧ w.frozen? ⟨g, 0, none⟩ = false ∧ w.frozen? ⟨g, 1, none⟩ = false ∧ w.frozen? ⟨g, 2, none⟩ = false ∧ w.frozen? ⟨g, 3, none⟩ = false ∧ w.frozen? ⟨g, 4, none⟩ = false := ⟨(blk_cell h 0).trans rfl, (blk_cell h 1).trans rfl, (blk_cell h 2).trans rfl, (blk_cell h 3).trans rfl, (blk_cell h 4).trans rfl, blk_frozen h 0, blk_frozen h 1, blk_frozen h 2, blk_frozen h 3, blk_frozen h 4⟩
theorem bk6 {w : World} {g : Nat} {t : TypeId} {c0 c1 c2 c3 c4 c5 : Value} (h : w.heap[g]? = some (.cells #[c0, c1, c2, c3, c4, c5] t (0, 0))) : w.cell? ⟨g, 0, none⟩ = some c0 ∧ w.cell? ⟨g, 1, none⟩ = some c1 ∧ w.cell? ⟨g, 2, none⟩ = some c2 ∧ w.cell? ⟨g, 3, none⟩ = some c3 ∧ w.cell? ⟨g, 4, none⟩ = some c4 ∧ w.cell? ⟨g, 5, none⟩ = some c5 ∧ w.frozen? ⟨g, 0, none⟩ = false ∧ w.frozen? ⟨g, 1, none⟩ = false ∧ w.frozen? ⟨g, 2, none⟩ = false ∧ w.frozen? ⟨g, 3, none⟩ = false ∧ w.frozen? ⟨g, 4, none⟩ = false ∧ w.frozen? ⟨g, 5, none⟩ = false := ⟨(blk_cell h 0).trans rfl, (blk_cell h 1).trans rfl, (blk_cell h 2).trans rfl, (blk_cell h 3).trans rfl, (blk_cell h 4).trans rfl, (blk_cell h 5).trans rfl, blk_frozen h 0, blk_frozen h 1, blk_frozen h 2, blk_frozen h 3, blk_frozen h 4, blk_frozen h 5⟩
def bA (n m : Nat) : Array Bool := ((List.range n).map m.testBit).toArray
section
variable {P : Program} {ops : Array Oper} {Q : Exit → Act → World → Prop} {md : Region.Mode} {S : World → Prop} {ds : List Nat}
theorem pu_ {i : Nat} {N : Option Tmp} {oi : Oper} {v : Value} {fuel : Nat} {l : Array Bool} {a a' : Act} {w : World} (l' : Array Bool) (h : wpAnyLast P md ops Q S ds fuel l' a' w) (hi : ops[i]? = some oi := by rfl) (hN : oi.dst = N := by rfl) (hc : anyB md ops l l' i = true := by exact any_of HT_.out (by kernel_rfl)) (hQ : ∀ c a w, Q (.panic c) (a.put oi.dst v) w → Q (.panic c) a w := by exact fun _ _ _ h => h) (hy : Yields P ops oi v a := by exact Or.inl ⟨by rfl, by intro w'; first | (go_simp; done) | (go_simp; with_reducible rfl)⟩) (ha : a.put N v = a' := by (conv => lhs; simp only [Act.put, List.setIfInBounds_toArray, List.set_cons_zero, List.set_cons_succ, i64_w, i32_w]); try rfl) : wpAnyLast P md ops Q S ds (fuel + 1) l a w := pure_ l' hi hN hc hQ hy ha h
theorem tk_ {i : Nat} {N : Option Tmp} {oi : Oper} {v : Value} {fuel : Nat} {l : Array Bool} {a a' : Act} {w : World} (l' : Array Bool) (h : wpAnyLast P md ops Q S ds fuel l' a' w) (hi : ops[i]? = some oi := by rfl) (hN : oi.dst = N := by rfl) (hc : takeB md ops ds l l' i = true := by exact take_ofW HT_.out HW_.out (by kernel_rfl)) (hQ : ∀ c a w, Q (.panic c) (a.put oi.dst v) w → Q (.panic c) a w := by exact fun _ _ _ h => h) (hy : YieldsIf P ops S oi v a := by refine Or.inl ⟨by rfl, ?_⟩; intro w' s_; repeat (obtain ⟨s0_, s_⟩ : _ ∧ _ := s_); first | (go_simp; done) | (go_simp; with_reducible rfl)) (hS : S w := by exact hHeld) (ha : a.put N v = a' := by (conv => lhs; simp only [Act.put, List.setIfInBounds_toArray, List.set_cons_zero, List.set_cons_succ, i64_w, i32_w]); try rfl) : wpAnyLast P md ops Q S ds (fuel + 1) l a w := take_ l' hi hN hc hQ hy hS ha h
end
structure Says {α : Type} (d : Kd α) (w : World) (b : List α) (r : List (List Value)) : Prop where
 len : r.length = b.length
 at_ : ∀ (m : Nat) (x : α) (c : List Value), b[m]? = some x → r[m]? = some c → d.K w x c
theorem Says.of_reads {α : Type} {d : Kd α} {w w1 : World} {A : Option Addr} {n : Nat} {b : List α} (h : d.C w A n b) (hb : Below w.heap.size w w1) : ∃ r : List (List Value), Says d w b r ∧ (Kd.raw d.sz).C w1 A n r := by
 obtain ⟨r, hl, hr, hK⟩ := Kd.reads_raw h (fun x c hk => ⟨d.K_len hk, d.K_one hk⟩)
 exact ⟨r, ⟨hl, hK⟩, Kd.C_below (d := Kd.raw d.sz) hr hb⟩
theorem Says.set {α : Type} {d : Kd α} {w : World} {b : List α} {r : List (List Value)} (h : Says d w b r) (k : Nat) {x : α} {c : List Value} (hK : d.K w x c) : Says d w (b.set k x) (r.set k c) := by
 refine ⟨by rw [List.length_set, List.length_set]; exact h.len, fun m y e hy he => ?_⟩
 by_cases hm : k = m
 ·subst hm
  rw [List.getElem?_set] at hy he
  simp only [zC] at hy he
  split at hy
  ·split at he
   ·injection hy with hy; injection he with he; subst hy; subst he; exact hK
   ·cases he
  ·cases hy
 ·rw [List.getElem?_set_ne hm] at hy he
  exact h.at_ m y e hy he
structure SaysAll {α : Type} (d : Kd α) (w : World) (l : List (List α)) (rows : List (List (List Value))) : Prop where
 len : rows.length = l.length
 at_ : ∀ (j : Nat) (b : List α) (r : List (List Value)), l[j]? = some b → rows[j]? = some r → Says d w b r
theorem SaysAll.nil {α : Type} (d : Kd α) (w : World) : SaysAll d w [] [] := ⟨rfl, fun j b r h => by simp at h⟩
theorem SaysAll.snoc {α : Type} {d : Kd α} {w : World} {l : List (List α)} {rows : List (List (List Value))} {b : List α} {r : List (List Value)} (h : SaysAll d w l rows) (hb : Says d w b r) : SaysAll d w (l ++ [b]) (rows ++ [r]) := by
 refine ⟨by simp [h.len], fun j b' r' h1 h2 => ?_⟩
 rcases Nat.lt_or_ge j l.length with hj | hj
 ·rw [List.getElem?_append_left hj] at h1
  rw [List.getElem?_append_left (by rw [h.len]; exact hj)] at h2
  exact h.at_ j b' r' h1 h2
 ·rw [List.getElem?_append_right hj] at h1
  rw [List.getElem?_append_right (by rw [h.len]; exact hj), h.len] at h2
  rcases hq : j - l.length with _ | q
  ·rw [hq] at h1 h2
   simp only [List.getElem?_cons_zero, Option.some.injEq] at h1 h2
   subst h1; subst h2; exact hb
  ·rw [hq] at h1; simp at h1
theorem SaysAll.set {α : Type} {d : Kd α} {w : World} {l : List (List α)} {rows : List (List (List Value))} (h : SaysAll d w l rows) (k : Nat) {b : List α} {r : List (List Value)} (hb : Says d w b r) : SaysAll d w (l.set k b) (rows.set k r) := by
 refine ⟨by rw [List.length_set, List.length_set]; exact h.len, fun m y e hy he => ?_⟩
 by_cases hm : k = m
 ·subst hm
  rw [List.getElem?_set] at hy he
  simp only [zC] at hy he
  split at hy
  ·split at he
   ·injection hy with hy; injection he with he; subst hy; subst he; exact hb
   ·cases he
  ·cases hy
 ·rw [List.getElem?_set_ne hm] at hy he
  exact h.at_ m y e hy he
theorem Says.read {α : Type} {d : Kd α} {w w1 : World} {A : Option Addr} {n : Nat} {b : List α} {r : List (List Value)} (hb : Below w.heap.size w w1) (h : Says d w b r) (hr : (Kd.raw d.sz).C w1 A n r) : d.C w1 A n b := by
 obtain ⟨h1, h2, h3⟩ := hr
 refine ⟨h.len ▸ h1, h2, fun hp => ?_⟩
 obtain ⟨ad, rfl, h4⟩ := h3 hp
 refine ⟨ad, rfl, fun j x hx => ?_⟩
 have hj : j < r.length := by rw [h.len]; exact (List.getElem?_eq_some_iff.1 hx).1
 obtain ⟨c, hc1, hc2, hc3⟩ := h4 j r[j] (List.getElem?_eq_getElem hj)
 refine ⟨c, hc1, ?_, hc3⟩
 rw [hc2.1]
 exact d.K_below hb (h.at_ j x r[j] hx (List.getElem?_eq_getElem hj))
theorem SaysAll.read {α : Type} {d : Kd α} {e : Nat} {w w1 : World} {A : Option Addr} {n : Nat} {l : List (List α)} {rows : List (List (List Value))} (hb : Below w.heap.size w w1) (h : SaysAll d w l rows) (hr : (Kd.slice e (Kd.raw d.sz)).C w1 A n rows) : (Kd.slice e d).C w1 A n l := by
 obtain ⟨h1, h2, h3⟩ := hr
 refine ⟨h.len ▸ h1, h2, fun hp => ?_⟩
 obtain ⟨ad, rfl, h4⟩ := h3 hp
 refine ⟨ad, rfl, fun j x hx => ?_⟩
 have hj : j < rows.length := by rw [h.len]; exact (List.getElem?_eq_some_iff.1 hx).1
 obtain ⟨c, hc1, ⟨Aj, cj, hc2, hlj, hcj⟩, hc3⟩ := h4 j rows[j] (List.getElem?_eq_getElem hj)
 have hs := h.at_ j x rows[j] hx (List.getElem?_eq_getElem hj)
 refine ⟨c, hc1, ⟨Aj, cj, ?_, ?_, ?_⟩, hc3⟩
 ·rw [hc2, hs.len]
 ·rw [← hs.len]; exact hlj
 ·have := hs.read hb hcj
  rw [← hs.len]
  exact this
end Go.Proofs.YthidcafbhjahdaaDoor.Q
namespace Go.Proofs.YthidcafbhjahdaaDoor.Plain
open Go Go.RowKit Go.Proofs.YthidcafbhjahdaaDoorW.PrintWords Go.Proofs.YthidcafbhjahdaaDoorW.PrintMore
theorem wrap_nat {j : Nat} (h : j ≤ 4611686018427387904) : wrap64 ((j : Int) + 1) = ((j + 1 : Nat) : Int) := by
 unfold wrap64
 omega
theorem wrap_pred {j : Nat} (h0 : 0 < j) (h : j ≤ 4611686018427387904) : wrap64 ((j : Int) - 1) = ((j - 1 : Nat) : Int) := by
 unfold wrap64
 omega
theorem wrap_id {i : Int} (h0 : -4611686018427387904 ≤ i) (h : i ≤ 4611686018427387904) : wrap64 i = i := by
 unfold wrap64
 omega
theorem rd_nat (l : List Int) (j : Nat) : rd l (j : Int) = l.getD j 0 := rfl
theorem rd_get {l : List Int} {j : Nat} (h : j < l.length) : rd l (j : Int) = l[j] := by
 rw [rd_nat, List.getD_eq_getElem?_getD, List.getElem?_eq_getElem h]
 rfl
theorem drop_cons {α : Type} {l : List α} {j : Nat} (h : j < l.length) : l.drop j = l[j] :: l.drop (j + 1) := by
 rw [List.drop_eq_getElem_cons h]
theorem loop_eq (bs : ByteArray) : ∀ (n i : Nat) (r : List UInt8), bs.size - i = n → ByteArray.toList.loop bs i r = r.reverse ++ bs.data.toList.drop i := by
 intro n
 induction n with
 | zero =>
  intro i r h
  unfold ByteArray.toList.loop
  rw [zD (by omega), List.drop_eq_nil_of_le (by simp; have : bs.data.size = bs.size := rfl; omega), List.append_nil]
 | succ n ih =>
  intro i r h
  unfold ByteArray.toList.loop
  have hs : bs.data.size = bs.size := rfl
  rw [zC (by omega), ih (i + 1) _ (by omega), List.drop_eq_getElem_cons (i := i) (by simp; omega)]
  have : bs.get! i = bs.data.toList[i]'(by simp; omega) := by
   show bs.data[i]! = _
   rw [getElem!_pos bs.data i (by omega)]
   simp
  rw [this]
  simp
theorem toList_data (bs : ByteArray) : bs.toList = bs.data.toList := by
 unfold ByteArray.toList
 rw [loop_eq bs _ 0 [] rfl]
 simp
end Go.Proofs.YthidcafbhjahdaaDoor.Plain
namespace Go.Proofs.YthidcafbhjahdaaDoor.Q
open Go.RowKit Go.Proofs.YthidcafbhjahdaaDoorW.PrintWords Go.Proofs.YthidcafbhjahdaaDoorW.PrintLast Go.Proofs.YthidcafbhjahdaaDoorW.PrintMore
set_option linter.unusedVariables false
def shapesT : List ByteArray := [⟨#[]⟩, ⟨#[114, 110, 32]⟩, ⟨#[114, 114, 32]⟩, ⟨#[114, 114, 114]⟩, ⟨#[114, 114, 114]⟩, ⟨#[114, 114, 114]⟩, ⟨#[114, 114, 114]⟩, ⟨#[114, 114, 114]⟩, ⟨#[114, 114, 32]⟩, ⟨#[32, 114, 114]⟩, ⟨#[32, 114, 32]⟩, ⟨#[114, 32, 32]⟩, ⟨#[32, 116, 32]⟩, ⟨#[116, 114, 116]⟩, ⟨#[32, 114, 32]⟩]
def shapesD : DataW Unit := .agg (shapesT.map fun s => .lit (.string s.data.toList))
def LaidW (w : World) : Prop := ∀ i, i < 15 → w.cell? ⟨0, i, none⟩ = some (.string (shapesT.getD i ⟨#[]⟩))
theorem LaidW.below {w w1 : World} (h : LaidW w) (hb : Below w.heap.size w w1) : LaidW w1 := fun i hi => pw_cell_below hb (h i hi)
theorem LaidW.alloc {w : World} (h : LaidW w) (o : Obj) : LaidW (w.alloc o) := h.below (below_alloc (Below.refl _ _) o)
theorem LaidW.drewN {w : World} (h : LaidW w) (n : Nat) : LaidW (w.drewN n) := h
theorem LaidW.drew {w : World} (h : LaidW w) : LaidW w.drew := h
theorem LaidW.of_reads {w : World} (h : Lib.VarReads Tryd.prog w "cubby/ir.shapes" shapesD) : LaidW w := by
 obtain ⟨g, t, cs, fuel, p, hg, ht, hv, hd⟩ := h
 obtain rfl := zI ((show Tryd.prog.globalNamed "cubby/ir.shapes" = some 0 by kernel_rfl).symm.trans hg)
 obtain rfl := zI ((show (Tryd.prog.globals[0]?).map (·.type) = some 62 by kernel_rfl).symm.trans ht)
 obtain ⟨xs, m, _, ex, _, hl, hel⟩ := DataW.trod_array Tryd.underlying62 hd
 have c1 : Tryd.prog.cellsOf 9 = 1 := by kernel_rfl
 intro i hi
 have hE := hel i hi
 rw [c1, Nat.mul_one, List.getElem?_eq_getElem (by omega)] at hE
 obtain ⟨s, e1, e2, _⟩ := DataW.trod_string Tryd.underlying9 hE
 have hlen : shapesT.length = 15 := rfl
 have e3 : (xs.map (·.1)) = shapesT.map fun s => .lit (.string s.data.toList) := (DataW.agg.inj (Prod.mk.inj ex).1).symm
 have e4 : (xs.map (·.1))[i]? = (shapesT.map fun s => (DataW.lit (.string s.data.toList) : DataW Unit))[i]? := by rw [e3]
 rw [List.getElem?_map, List.getElem?_map, List.getElem?_eq_getElem (by omega : i < xs.length), List.getElem?_eq_getElem (by omega : i < shapesT.length), e2] at e4
 have hs : s = shapesT.getD i ⟨#[]⟩ := by
  simp only [Option.map_some, Option.some.injEq, DataW.lit.injEq, Lit.string.injEq] at e4
  rw [List.getD_eq_getElem?_getD, List.getElem?_eq_getElem (by omega : i < shapesT.length)]
  have := congrArg List.toArray e4
  simp only [Array.toArray_toList] at this
  cases s
  simp at this ⊢
  rw [this]
 rw [World.var?_cell hg hv i, ← hs]
 have : cs.toList[i]? = some (.string s) := by
  have h0 : ((cs.toList.drop i).take 1)[0]? = some (.string s) := by rw [e1]; rfl
  simpa using h0
 simpa using this
def ir_shape.f (a0 : Int) : Option ByteArray := some (if 0 ≤ a0 ∧ a0 < 15 then shapesT.getD a0.toNat ⟨#[]⟩ else ⟨#[]⟩)
set_option maxHeartbeats 8000000 in
set_option maxRecDepth 100000 in
theorem ir_shape.calls (a0 : Int) (r : ByteArray) (w : World) (hL : LaidW w) (h : ir_shape.f a0 = some r) :
 Calls Tryd.prog 21 #[.int .i64 a0] w fun e w' => e = .returned (.string r) ∧ Drawn0 w w' := by
 obtain rfl := zI h
 clear h
 by_cases c0 : a0 < 0
 ·rw [zD (by omega)]
  have c0b : decide (a0 < 0) = true := zF c0
  clear hL
  go_enter Tryd.func21, Tryd.ntmps21
  go_wp2
  go_ret
  exact ⟨rfl, by repeat (first | exact Drawn0.refl _ | apply Drawn0.step)⟩
 ·by_cases c1 : a0 < 15
  ·rw [zC ⟨by omega, c1⟩]
   have hc := hL a0.toNat (by omega)
   have c0b : decide (a0 < 0) = false := zG c0
   have c1b : decide (15 ≤ a0) = false := zG (by omega)
   clear hL
   have p0 : 0 ≤ a0 := by omega
   go_enter Tryd.func21, Tryd.ntmps21
   go_wp2
   go_ret
   exact ⟨rfl, by repeat (first | exact Drawn0.refl _ | apply Drawn0.step)⟩
  ·rw [zD (by omega)]
   have c0b : decide (a0 < 0) = false := zG c0
   have c1b : decide (15 ≤ a0) = true := zF (by omega)
   clear hL
   go_enter Tryd.func21, Tryd.ntmps21
   go_wp2
   go_ret
   exact ⟨rfl, by repeat (first | exact Drawn0.refl _ | apply Drawn0.step)⟩
end Go.Proofs.YthidcafbhjahdaaDoor.Q
namespace Go.Proofs
open Go.Shelf
def Tryd.lays160_ren : Go.Shelf.Ren := ⟨fun | 160 => 20 | 232 => 34 | 231 => 33 | 227 => 35 | 234 => 37 | 233 => 36 | 236 => 39 | 235 => 38 | 228 => 41 | 271 => 44 | 151 => 43 | 197 => 42 | 120 => 47 | 152 => 46 | 260 => 45 | 137 => 48 | 119 => 49 | 224 => 50 | 225 => 51 | 217 => 52 | 266 => 53 | n => n, fun | 9 => 9 | 4 => 4 | 3 => 3 | 5 => 5 | 117 => 58 | 116 => 57 | 0 => 0 | 124 => 61 | 21 => 21 | 105 => 65 | 46 => 70 | 119 => 69 | 139 => 73 | 138 => 72 | n => n, fun | 3 => 1 | 4 => 2 | n => n⟩
theorem Tryd.lays160 : Go.Proofs.Lays.n160 Tryd.prog Tryd.lays160_ren := {
 mixed := by kernel_rfl
 f119 := Tryd.func49.trans (congrArg some (by kernel_rfl))
 f120 := Tryd.func47.trans (congrArg some (by kernel_rfl))
 f137 := Tryd.func48.trans (congrArg some (by kernel_rfl))
 f151 := Tryd.func43.trans (congrArg some (by kernel_rfl))
 f152 := Tryd.func46.trans (congrArg some (by kernel_rfl))
 f160 := Tryd.func20.trans (congrArg some (by kernel_rfl))
 f197 := Tryd.func42.trans (congrArg some (by kernel_rfl))
 f217 := Tryd.func52.trans (congrArg some (by kernel_rfl))
 f224 := Tryd.func50.trans (congrArg some (by kernel_rfl))
 f225 := Tryd.func51.trans (congrArg some (by kernel_rfl))
 f227 := Tryd.func35.trans (congrArg some (by kernel_rfl))
 f228 := Tryd.func41.trans (congrArg some (by kernel_rfl))
 f231 := Tryd.func33.trans (congrArg some (by kernel_rfl))
 f232 := Tryd.func34.trans (congrArg some (by kernel_rfl))
 f233 := Tryd.func36.trans (congrArg some (by kernel_rfl))
 f234 := Tryd.func37.trans (congrArg some (by kernel_rfl))
 f235 := Tryd.func38.trans (congrArg some (by kernel_rfl))
 f236 := Tryd.func39.trans (congrArg some (by kernel_rfl))
 f260 := Tryd.func45.trans (congrArg some (by kernel_rfl))
 f266 := Tryd.func53.trans (congrArg some (by kernel_rfl))
 f271 := Tryd.func44.trans (congrArg some (by kernel_rfl))
 t0 := Tryd.underlying0
 a0 := Tryd.isAgg0
 z0 := Tryd.sizeOf0
 v0 := Tryd.zeroValue0
 t3 := Tryd.underlying3
 a3 := Tryd.isAgg3
 z3 := Tryd.sizeOf3
 v3 := Tryd.zeroValue3
 t4 := Tryd.underlying4
 a4 := Tryd.isAgg4
 z4 := Tryd.sizeOf4
 v4 := Tryd.zeroValue4
 t5 := Tryd.underlying5
 a5 := Tryd.isAgg5
 z5 := Tryd.sizeOf5
 v5 := Tryd.zeroValue5
 t9 := Tryd.underlying9
 a9 := Tryd.isAgg9
 z9 := Tryd.sizeOf9
 v9 := Tryd.zeroValue9
 t21 := Tryd.underlying21
 a21 := Tryd.isAgg21
 z21 := Tryd.sizeOf21
 v21 := Tryd.zeroValue21
 t46 := Tryd.underlying70
 a46 := Tryd.isAgg70
 z46 := Tryd.sizeOf70
 v46 := Tryd.zeroValue70
 t105 := Tryd.underlying65
 a105 := Tryd.isAgg65
 z105 := Tryd.sizeOf65
 v105 := Tryd.zeroValue65
 t116 := Tryd.underlying57
 a116 := Tryd.isAgg57
 z116 := Tryd.sizeOf57
 t117 := Tryd.underlying58
 a117 := Tryd.isAgg58
 z117 := Tryd.sizeOf58
 v117 := Tryd.zeroValue58
 t119 := Tryd.underlying69
 a119 := Tryd.isAgg69
 z119 := Tryd.sizeOf69
 t124 := Tryd.underlying61
 a124 := Tryd.isAgg61
 z124 := Tryd.sizeOf61
 v124 := Tryd.zeroValue61
 t138 := Tryd.underlying72
 a138 := Tryd.isAgg72
 z138 := Tryd.sizeOf72
 v138 := Tryd.zeroValue72
 t139 := Tryd.underlying73
 a139 := Tryd.isAgg73
 z139 := Tryd.sizeOf73
 v139 := Tryd.zeroValue73
 g3 := by kernel_rfl
 g4 := by kernel_rfl }
def Tryd.l8_ren : Go.Shelf.Ren := ⟨fun | 8 => 24 | 6 => 40 | n => n, fun | 22 => 29 | 23 => 3 | 25 => 47 | 4 => 4 | 3 => 3 | 0 => 0 | n => n, fun | n => n⟩
theorem Tryd.l8 : Go.Proofs.SlLaysH.n8 Tryd.prog Tryd.l8_ren := {
 mixed := by kernel_rfl
 f6 := ⟨Tryd.f40.name, by decide, Tryd.func40.trans (congrArg some (by kernel_rfl))⟩
 f8 := ⟨Tryd.f24.name, by decide, Tryd.func24.trans (congrArg some (by kernel_rfl))⟩
 t0 := Tryd.underlying0
 a0 := Tryd.isAgg0
 z0 := Tryd.sizeOf0
 v0 := Tryd.zeroValue0
 t3 := Tryd.underlying3
 a3 := Tryd.isAgg3
 z3 := Tryd.sizeOf3
 v3 := Tryd.zeroValue3
 t4 := Tryd.underlying4
 a4 := Tryd.isAgg4
 z4 := Tryd.sizeOf4
 v4 := Tryd.zeroValue4
 t22 := Tryd.underlying29
 a22 := Tryd.isAgg29
 z22 := Tryd.sizeOf29
 v22 := Tryd.zeroValue29
 a23 := Tryd.isAgg3
 z23 := Tryd.sizeOf3
 t25 := Tryd.underlying47
 a25 := Tryd.isAgg47
 z25 := Tryd.sizeOf47
 v25 := Tryd.zeroValue47 }
end Go.Proofs
namespace Go.Proofs.YthidcafbhjahdaaDoor.Q
open Go.RowKit Go.Shelf Go.Proofs.YthidcafbhjahdaaDoorW.PrintWords Go.Proofs.YthidcafbhjahdaaDoorW.PrintLast Go.Proofs.YthidcafbhjahdaaDoorW.PrintMore
set_option linter.unusedVariables false
def nameCut : ByteArray := ⟨#[97, 98, 99, 100, 101, 102, 103, 104, 105, 106, 107, 108, 109, 110, 111, 112, 113, 114, 115, 116, 117, 118, 119, 120, 121, 122, 48, 49, 50, 51, 52, 53, 54, 55, 56, 57]⟩
def strings_Trim.f (a0 a1 : ByteArray) : Option ByteArray := if a0.size ≤ 9223372036854775807 ∧ a1 = nameCut then some ⟨(Lib.trimS a0.data.toList a1.data.toList).toArray⟩ else none
theorem strings_Trim.calls (a0 a1 : ByteArray) (r : ByteArray) (w : World) (h : strings_Trim.f a0 a1 = some r) :
 Calls Tryd.prog 20 #[.string a0, .string a1] w fun e w' => e = .returned (.string r) ∧ Below w.heap.size w w' := by
 unfold strings_Trim.f at h
 split at h
 ·next c =>
  obtain ⟨c0, rfl⟩ := c
  obtain rfl := zI h
  exact Any.strings_Trim_laid Tryd.lays160 (by kernel_rfl) a0 nameCut w c0 (by decide) (ascii_of_all (by decide))
 ·exact absurd h (by simp)
end Go.Proofs.YthidcafbhjahdaaDoor.Q
namespace Go.Proofs.YthidcafbhjahdaaDoor.Q
open Go.RowKit Go.Proofs.YthidcafbhjahdaaDoorW.PrintWords Go.Proofs.YthidcafbhjahdaaDoorW.PrintLast Go.Proofs.YthidcafbhjahdaaDoorW.PrintMore
attribute [local go_sem] max2_int min2_int max_two min_two max_three min_three max_four min_four
set_option linter.unusedVariables false
set_option linter.unusedSimpArgs false

def ir_Name.f (a0 : ByteArray) : Option (Bool) := if a0.toList = ([] : List UInt8) then (some false) else (if (a0.size : Int) > 12 then (some false) else (if 0 < (a0.size : Int) then (if (bt a0 0) < 97 then (some false) else ((strings_Trim.f a0 (⟨#[97, 98, 99, 100, 101, 102, 103, 104, 105, 106, 107, 108, 109, 110, 111, 112, 113, 114, 115, 116, 117, 118, 119, 120, 121, 122, 48, 49, 50, 51, 52, 53, 54, 55, 56, 57]⟩ : ByteArray)).bind fun t108 => (some (t108.toList == ([] : List UInt8))))) else (none)))
set_option maxHeartbeats 8000000 in
set_option maxRecDepth 100000 in
theorem ir_Name.calls (a0 : ByteArray) (r : Bool) (w : World) (h : ir_Name.f a0 = some r) :
 Calls Tryd.prog 11 #[.string a0] w fun e w' => e = .returned (.bool r) ∧ Below w.heap.size w w' := by
 have HB := zA (Below.refl w.heap.size w)
 have H := h; clear h; unfold ir_Name.f at H
 by_cases c2 : a0.toList = ([] : List UInt8)
 ·rw [zC c2] at H
  obtain ⟨c2b0, c2b1⟩ := qe c2; clear c2
  obtain rfl := zI H
  go_enter Tryd.func11, Tryd.ntmps11
  go_wp2
  go_ret
  exact ⟨qE, qB⟩
 ·rw [zD c2] at H
  obtain ⟨c2b0, c2b1⟩ := qn c2
  by_cases c3 : (a0.size : Int) > 12
  ·rw [zC c3] at H
   have c3b0 : decide (12 < (a0.size : Int)) = true := zF c3
   have c3b1 : decide (12 < a0.size) = true := zF (by omega)
   clear c3
   obtain rfl := zI H
   go_enter Tryd.func11, Tryd.ntmps11
   go_wp2
   go_ret
   exact ⟨qE, qB⟩
  ·rw [zD c3] at H
   have c3b0 : decide (12 < (a0.size : Int)) = false := zG c3
   have c3b1 : decide (12 < a0.size) = false := zG (by omega)
   clear c3
   by_cases c4 : 0 < (a0.size : Int)
   ·rw [zC c4] at H
    have c4b0 := zF c4
    have c4b1 : decide (0 < a0.size) = true := zF (by omega)
    clear c4
    by_cases c6 : (bt a0 0) < 97
    ·rw [zC c6] at H
     have c6b0 := zF c6
     clear c6
     obtain rfl := zI H
     have p5 : 0 ≤ (0 : Int) := (by omega)
     have q5 : 0 < a0.size := (by have : (0 : Int) < (a0.size : Int) := zB qA; omega)
     have hx5 : ∀ h : 0 < a0.size, ((a0[0]'h).toNat : Int) = bt a0 0 := bt_at a0 0
     clear p5
     have qi5 : (0 < (a0.size : Int)) = True := eq_true (zB qA)
     replace q5 := eq_true q5
     go_enter Tryd.func11, Tryd.ntmps11
     go_wp2
     go_ret
     exact ⟨qE, qB⟩
    ·rw [zD c6] at H
     have c6b0 := zG c6
     clear c6
     replace H := qb H; obtain ⟨t108, A7, H⟩ := H
     obtain rfl := zI H
     have p5 : 0 ≤ (0 : Int) := (by omega)
     have q5 : 0 < a0.size := (by have : (0 : Int) < (a0.size : Int) := zB qA; omega)
     have hx5 : ∀ h : 0 < a0.size, ((a0[0]'h).toNat : Int) = bt a0 0 := bt_at a0 0
     clear p5
     have qi5 : (0 < (a0.size : Int)) = True := eq_true (zB qA)
     replace q5 := eq_true q5
     go_enter Tryd.func11, Tryd.ntmps11
     go_wp2_with (first | ((with_reducible refine gate_callee (f := 20) rfl ?_); refine goesL_ (some 16) rfl rfl Tryd.func20 (by kernel_rfl) rfl #[.string a0, .string (⟨#[97, 98, 99, 100, 101, 102, 103, 104, 105, 106, 107, 108, 109, 110, 111, 112, 113, 114, 115, 116, 117, 118, 119, 120, 121, 122, 48, 49, 50, 51, 52, 53, 54, 55, 56, 57]⟩ : ByteArray)] rfl qL ?_; (with_reducible refine (strings_Trim.calls a0 (⟨#[97, 98, 99, 100, 101, 102, 103, 104, 105, 106, 107, 108, 109, 110, 111, 112, 113, 114, 115, 116, 117, 118, 119, 120, 121, 122, 48, 49, 50, 51, 52, 53, 54, 55, 56, 57]⟩ : ByteArray) t108 _ A7.out).mono ?_); rintro e w8 ⟨rfl, hb⟩; refine ⟨_, rfl, ?_⟩; replace HB := qH hb; (try clear hb)))
     go_ret
     exact ⟨qE, qB⟩
   ·rw [zD c4] at H
    exact absurd H (by simp)

def mach_below.f (a0 : Int) (a1 : Int) : Option (Bool) := if a0 ≥ 0 then (some (decide (a0 < a1))) else (some false)
set_option maxHeartbeats 8000000 in
set_option maxRecDepth 100000 in
theorem mach_below.calls (a0 : Int) (a1 : Int) (r : Bool) (w : World) (h : mach_below.f a0 a1 = some r) :
 Calls Tryd.prog 16 #[.int .i64 a0, .int .i64 a1] w fun e w' => e = .returned (.bool r) ∧ Drawn0 w w' := by
 have H := h; clear h; unfold mach_below.f at H
 by_cases c3 : a0 ≥ 0
 ·rw [zC c3] at H
  have c3b0 : decide (0 ≤ a0) = true := zF c3
  clear c3
  obtain rfl := zI H
  go_enter Tryd.func16, Tryd.ntmps16
  go_wp2
  go_ret
  exact ⟨by first | rfl | (simp; done) | (simp [*]; done), qD⟩
 ·rw [zD c3] at H
  have c3b0 : decide (0 ≤ a0) = false := zG c3
  clear c3
  obtain rfl := zI H
  go_enter Tryd.func16, Tryd.ntmps16
  go_wp2
  go_ret
  exact ⟨by first | rfl | (simp; done) | (simp [*]; done), qD⟩
end Go.Proofs.YthidcafbhjahdaaDoor.Q
namespace Go.Proofs.YthidcafbhjahdaaDoor.Q
open Go.RowKit Go.Proofs.YthidcafbhjahdaaDoorW.PrintWords Go.Proofs.YthidcafbhjahdaaDoorW.PrintLast Go.Proofs.YthidcafbhjahdaaDoorW.PrintMore
set_option linter.unusedVariables false
def mach_one_1.f (a0_0 : ByteArray) (a0_1 a0_2 a0_3 : Int) (l0_4 : List (List SIns)) (a1 : Int) : Option Int := some (if 0 ≤ a1 ∧ a1 < (l0_4.length : Int) then 0 else -1)
set_option maxHeartbeats 8000000 in
set_option maxRecDepth 100000 in
theorem mach_one_1.to (a0_0 : ByteArray) (a0_1 a0_2 a0_3 : Int) (A0_4 : Option Addr) (c0_4 : Nat) (l0_4 : List (List SIns)) (a1 : Int) (r : Int) (w : World) (hr0_4 : Kd.C (Kd.slice 31 kIns) w A0_4 l0_4.length l0_4) (hc0_4 : l0_4.length ≤ c0_4) (h : mach_one_1.f a0_0 a0_1 a0_2 a0_3 l0_4 a1 = some r)
 {gc gx j : Nat} (hbk : w.heap[gc]? = some (.cells #[.string a0_0, .int .i64 a0_1, .int .i64 a0_2, .int .i64 a0_3, .slice A0_4 l0_4.length c0_4] 34 (0, 0))) (hx : w.cell? ⟨gx, j, none⟩ = some (.int .i64 a1)) (hf : w.frozen? ⟨gx, j, none⟩ = false) :
 Calls Tryd.prog 32 #[.pointer (some ⟨gx, j, none⟩), .pointer (some ⟨gc, 0, none⟩)] w fun e w' => e = .returned (.tuple #[]) ∧ ∃ w1, Below w.heap.size w w1 ∧ w' = w1.setCell ⟨gx, j, none⟩ (.int .i64 r) := by
 have hcl : w.cell? ⟨gc, 4, none⟩ = some (.slice A0_4 l0_4.length c0_4) := (blk_cell hbk 4).trans rfl
 have hb : mach_below.f a1 (l0_4.length : Int) = some (decide (0 ≤ a1 ∧ a1 < (l0_4.length : Int))) := by
  unfold mach_below.f
  by_cases c : a1 ≥ 0
  ·rw [zC c]
   congr 1
   apply decide_eq_decide.2
   omega
  ·rw [zD c, zG (by omega)]
 have HBW := zA hb
 clear hbk hr0_4 hc0_4 hb
 unfold mach_one_1.f at h
 by_cases c : 0 ≤ a1 ∧ a1 < (l0_4.length : Int)
 ·rw [zC c] at h
  obtain rfl := zI h
  rw [zF c] at HBW
  clear c h
  go_enter Tryd.func32, Tryd.ntmps32
  go_wp2
  go_quiet ((go_at_call 16; exact Calls.quiet_of ((mach_below.calls a1 (l0_4.length : Int) true _ HBW.out).mono (by rintro e w' ⟨rfl, ⟨nd, rfl⟩⟩; exact ⟨rfl, nd, rfl⟩))))
  go_wp2
  first | go_end0 | ((try simp only [Exit.inBlock, Exit.then]); refine bodyPost_ret (results_none rfl _ _ _) rfl ?_)
  exact ⟨rfl, _, pw_below_drewN (Below.refl _ w) _, rfl⟩
 ·rw [zD c] at h
  obtain rfl := zI h
  rw [zG c] at HBW
  clear c h
  go_enter Tryd.func32, Tryd.ntmps32
  go_wp2
  go_quiet ((go_at_call 16; exact Calls.quiet_of ((mach_below.calls a1 (l0_4.length : Int) false _ HBW.out).mono (by rintro e w' ⟨rfl, ⟨nd, rfl⟩⟩; exact ⟨rfl, nd, rfl⟩))))
  go_wp2
  first | go_end0 | ((try simp only [Exit.inBlock, Exit.then]); refine bodyPost_ret (results_none rfl _ _ _) rfl ?_)
  exact ⟨rfl, _, pw_below_drewN (Below.refl _ w) _, rfl⟩
end Go.Proofs.YthidcafbhjahdaaDoor.Q
namespace Go.Proofs.YthidcafbhjahdaaDoor.Q
open Go.RowKit Go.Shelf Go.Proofs.YthidcafbhjahdaaDoorW.PrintWords Go.Proofs.YthidcafbhjahdaaDoorW.PrintLast Go.Proofs.YthidcafbhjahdaaDoorW.PrintMore
set_option linter.unusedVariables false
def oddReg (regs n : Int) : Bool := decide (n < 0 ∨ regs ≤ n)
theorem ir_one_1.pred {regs p : Int} {nm : ByteArray} {bl : Value} {g : Nat} {w : World} (hbk : w.heap[g]? = some (.cells #[.string nm, .int .i64 p, .int .i64 regs, bl] 24 (0, 0))) :
 PredAt Tryd.prog 23 #[.pointer (some ⟨g, 0, none⟩)] (Value.int .i64) (oddReg regs) w := fun W x hb => by
 have hc : W.cell? ⟨g, 2, none⟩ = some (.int .i64 regs) := (blk_cell (blk_below hbk hb) 2).trans rfl
 show Calls Tryd.prog 23 #[.int .i64 x, .pointer (some ⟨g, 0, none⟩)] W _
 clear hbk hb
 unfold oddReg
 by_cases c0 : x < 0
 ·have c0b : decide (x < 0) = true := zF c0
  rw [zF (.inl c0)]
  go_enter Tryd.func23, Tryd.ntmps23
  go_wp2
  go_ret
  exact ⟨rfl, 0, rfl⟩
 ·have c0b : decide (x < 0) = false := zG c0
  by_cases c1 : regs ≤ x
  ·have c1b : decide (regs ≤ x) = true := zF c1
   rw [zF (.inr c1)]
   go_enter Tryd.func23, Tryd.ntmps23
   go_wp2
   go_ret
   exact ⟨rfl, 0, rfl⟩
  ·have c1b : decide (regs ≤ x) = false := zG c1
   rw [zG (by omega)]
   go_enter Tryd.func23, Tryd.ntmps23
   go_wp2
   go_ret
   exact ⟨rfl, 0, rfl⟩
def ir_one_1.f (a0 : Int) (a1_0 : ByteArray) (a1_1 : Int) (a1_2 : Int) (l1_3 : List (List SIns)) : Option Bool := some (oddReg a1_2 a0)
theorem ir_one_1.calls (a0 : Int) (a1_0 : ByteArray) (a1_1 : Int) (a1_2 : Int) (A1_3 : Option Addr) (c1_3 : Nat) (l1_3 : List (List SIns)) (r : Bool) (w : World) (hr1_3 : Kd.C (Kd.slice 31 kIns) w A1_3 l1_3.length l1_3) (hc1_3 : l1_3.length ≤ c1_3) (h : ir_one_1.f a0 a1_0 a1_1 a1_2 l1_3 = some r)
 {gb_ : Nat} (hbk : w.heap[gb_]? = some (.cells #[.string a1_0, .int .i64 a1_1, .int .i64 a1_2, .slice A1_3 l1_3.length c1_3] 24 (0, 0))) :
 Calls Tryd.prog 23 #[.int .i64 a0, .pointer (some ⟨gb_, 0, none⟩)] w fun e w' => e = .returned (.bool r) ∧ Below w.heap.size w w' := by
 obtain rfl := zI h
 exact (ir_one_1.pred hbk w a0 (Below.refl _ _)).mono fun e w' q => ⟨q.1, by
  obtain ⟨n, rfl⟩ := q.2
  exact below_drewN' (Below.refl _ w) n⟩
theorem spot_none {w : World} {ad : Addr} {v : Value} (h : w.cell? ad = some v) : ad.spot = none := by
 unfold World.cell? at h
 split at h
 ·split at h
  ·exact absurd h (by simp)
  ·next hs => simpa using hs
 ·exact absurd h (by simp)
def slices_ContainsFunc_int_int.f (l0 : List Int) (a1_0 : ByteArray) (a1_1 : Int) (a1_2 : Int) (l1_3 : List (List SIns)) : Option Bool := some (l0.any (oddReg a1_2))
theorem slices_ContainsFunc_int_int.calls (A0 : Option Addr) (c0 : Nat) (l0 : List Int) (a1_0 : ByteArray) (a1_1 : Int) (a1_2 : Int) (A1_3 : Option Addr) (c1_3 : Nat) (l1_3 : List (List SIns)) (r : Bool) (w : World) (hr0 : Kd.C (Kd.int .i64) w A0 l0.length l0) (hc0 : l0.length ≤ c0) (hr1_3 : Kd.C (Kd.slice 31 kIns) w A1_3 l1_3.length l1_3) (hc1_3 : l1_3.length ≤ c1_3) (h : slices_ContainsFunc_int_int.f l0 a1_0 a1_1 a1_2 l1_3 = some r)
 {gb_ : Nat} (hbk : w.heap[gb_]? = some (.cells #[.string a1_0, .int .i64 a1_1, .int .i64 a1_2, .slice A1_3 l1_3.length c1_3] 24 (0, 0))) :
 Calls Tryd.prog 24 #[.slice A0 l0.length c0, .func (.func 23) #[] #[.pointer (some ⟨gb_, 0, none⟩)]] w fun e w' => e = .returned (.bool r) ∧ Below w.heap.size w w' := by
 obtain rfl := zI h
 have hR := Kd.reads_of_C (enc := Value.int .i64) (d := (0 : Int)) (h1 := fun _ => rfl) hr0
 have hp := ir_one_1.pred hbk
 have eg : ∀ args w, (callFunc 23 args).run Tryd.prog w = .ok (.enter 23 args) w := enters_of Tryd.func23 (by kernel_rfl) rfl
 clear hbk hr1_3 hc1_3 hr0
 cases l0 with
 | nil =>
  refine (AnyE.slices_ContainsFunc_empty Tryd.l8 A0 c0 _ w).mono ?_
  rintro e w' ⟨rfl, rfl⟩
  exact ⟨rfl, Below.refl _ _⟩
 | cons x xs =>
  obtain ⟨ad, rfl, hc⟩ := hR.2.2 (by simp)
  have hs : ad.spot = none := spot_none (hc 0 (by simp))
  obtain ⟨b, off, sp⟩ := ad
  obtain rfl : sp = none := hs
  have hcell : ∀ j, j < (x :: xs).length → w.cell? ⟨b, off + j, none⟩ = some (.int .i64 ((x :: xs)[j]!)) := by
   intro j hj
   have e := hc j hj
   have e1 : (Addr.add ⟨b, off, none⟩ j) = ⟨b, off + j, none⟩ := by
    unfold Addr.add
    split
    ·next h0 => rw [h0]; rfl
    ·rfl
   rw [e1] at e
   rw [e]
   congr 2
   rw [List.getD_eq_getElem?_getD, List.getElem!_eq_getElem?_getD]
   rfl
  refine (AnyE.slices_ContainsFunc Tryd.l8 (Value.int .i64) (oddReg a1_2) 23 #[.pointer (some ⟨gb_, 0, none⟩)] eg b off (x :: xs).length c0 (x :: xs) w hp (Nat.le_refl _) hR.2.1 hcell).mono ?_
  rintro e w' ⟨rfl, n, rfl⟩
  rw [List.take_length]
  exact ⟨rfl, below_drewN' (Below.refl _ w) n⟩
end Go.Proofs.YthidcafbhjahdaaDoor.Q
namespace Go.Proofs.YthidcafbhjahdaaDoor.Q
open Go.RowKit Go.Proofs.YthidcafbhjahdaaDoorW.PrintWords Go.Proofs.YthidcafbhjahdaaDoorW.PrintLast Go.Proofs.YthidcafbhjahdaaDoorW.PrintMore
attribute [local go_sem] max2_int min2_int max_two min_two max_three min_three max_four min_four
set_option linter.unusedVariables false
set_option linter.unusedSimpArgs false

def ir_Last.f (a0 : Int) : Option (Bool) := if a0 ≥ 12 then (some (decide (a0 ≤ 14))) else (some false)
set_option maxHeartbeats 8000000 in
set_option maxRecDepth 100000 in
theorem ir_Last.calls (a0 : Int) (r : Bool) (w : World) (h : ir_Last.f a0 = some r) :
 Calls Tryd.prog 22 #[.int .i64 a0] w fun e w' => e = .returned (.bool r) ∧ Drawn0 w w' := by
 have H := h; clear h; unfold ir_Last.f at H
 by_cases c2 : a0 ≥ 12
 ·rw [zC c2] at H
  have c2b0 : decide (12 ≤ a0) = true := zF c2
  clear c2
  obtain rfl := zI H
  go_enter Tryd.func22, Tryd.ntmps22
  go_wp2
  go_ret
  exact ⟨by first | rfl | (simp; done) | (simp [*]; done), qD⟩
 ·rw [zD c2] at H
  have c2b0 : decide (12 ≤ a0) = false := zG c2
  clear c2
  obtain rfl := zI H
  go_enter Tryd.func22, Tryd.ntmps22
  go_wp2
  go_ret
  exact ⟨by first | rfl | (simp; done) | (simp [*]; done), qD⟩

def ir_Targets.f (a0_0 : Int) (a0_1 : Int) (a0_2 : Int) (a0_3 : Int) (a0_4 : ByteArray) (l0_5 : List Int) : Option (List Int) := if a0_0 = 12 then (some (([a0_2] : List Int))) else (if a0_0 = 13 then (some (([a0_3, a0_1] : List Int))) else (some ([] : List Int)))
set_option maxHeartbeats 8000000 in
set_option maxRecDepth 100000 in
theorem ir_Targets.calls (a0_0 : Int) (a0_1 : Int) (a0_2 : Int) (a0_3 : Int) (a0_4 : ByteArray) (A0_5 : Option Addr) (c0_5 : Nat) (l0_5 : List Int) (r : List Int) (w : World) (hr0_5 : Kd.C (Kd.int .i64) w A0_5 l0_5.length l0_5) (hc0_5 : l0_5.length ≤ c0_5) (h : ir_Targets.f a0_0 a0_1 a0_2 a0_3 a0_4 l0_5 = some r) :
 Calls Tryd.prog 25 #[.agg #[.int .i64 a0_0, .int .i64 a0_1, .int .i64 a0_2, .int .i64 a0_3, .string a0_4, .slice A0_5 l0_5.length c0_5]] w fun e w' => ∃ v0_ : Value, e = .returned (v0_) ∧ Kd.R (Kd.int .i64) 3 w' w.heap.size (fun _ => True) v0_ r ∧ Below w.heap.size w w' := by
 have hu31 := Tryd.underlying31
 have HR0_5 := zA hr0_5
 have HC0_5 := zA hc0_5
 clear hr0_5 hc0_5
 have HB := zA (Below.refl w.heap.size w)
 have H := h; clear h; unfold ir_Targets.f at H
 by_cases c2 : a0_0 = 12
 ·rw [zC c2] at H
  obtain ⟨c2b0, c2b1⟩ := qe c2; clear c2
  obtain ⟨y110, hy110⟩ : ∃ y_ : List Int, y_ = (([a0_2] : List Int)) := ⟨_, rfl⟩
  replace H : (some y110) = some r := by (try rw [hy110]); first | with_reducible exact H | exact (zJ _ _).symm.trans H | exact H
  have Ny110 := zA hy110
  clear hy110
  obtain rfl := zI H
  go_enter Tryd.func25, Tryd.ntmps25
  go_wp2_with (first | ((with_reducible refine gate_dst (N := 1) rfl ?_); refine box_event (by rfl) (N := 1) (by rfl) (cs := #[.int .i64 a0_0, .int .i64 a0_1, .int .i64 a0_2, .int .i64 a0_3, .string a0_4, .slice A0_5 l0_5.length c0_5]) (t := 31) ?hr ?_; (case hr => go_simp <;> rfl); intro gb109 hg w3 hbox hb; have BK109 := zA (hbox); have GW109 := qG hg; have GE109 := GW109; replace HB := qH hb; clear hb hbox hg; have z4_0 := bk6 BK109.out) | ((with_reducible refine gate_dst (N := 9) rfl ?_); refine Kd.R_lit (Kd.int .i64) _ 3 (by rfl) (N := 9) (by rfl) (xs := ([a0_2] : List Int)) (inner := [.int .i64 a0_2]) (ok := fun _ => True) (okp := fun _ => True) ?hr ?hp (fun _ hk => hk) trivial (Below.refl _ _) (Nat.le_refl _) (by simp) ?_; (case hr => go_simp <;> rfl); (case hp => exact (Reps.one (show Kd.M (Kd.int .i64) _ _ _ a0_2 [.int .i64 a0_2] from rfl) (Reps.none _ _))); intro v111 w5 ho6 hb hg_ hnew_; clear hg_ hnew_; (first | rw [← Ny110.out] at ho6 | (simp only [Int.reduceToNat] at ho6; rw [← Ny110.out] at ho6)); have HO112 := zA (Kd.R_lower ho6 (below_size qB)); replace BK109 := qW BK109 hb; replace HB := qH hb; clear hb ho6))
  go_ret
  exact ⟨_, qE, qR HO112.out, qB⟩
 ·rw [zD c2] at H
  obtain ⟨c2b0, c2b1⟩ := qn c2
  by_cases c7 : a0_0 = 13
  ·rw [zC c7] at H
   obtain ⟨c7b0, c7b1⟩ := qe c7; clear c7
   obtain ⟨y113, hy113⟩ : ∃ y_ : List Int, y_ = (([a0_3, a0_1] : List Int)) := ⟨_, rfl⟩
   replace H : (some y113) = some r := by (try rw [hy113]); first | with_reducible exact H | exact (zJ _ _).symm.trans H | exact H
   have Ny113 := zA hy113
   clear hy113
   obtain rfl := zI H
   go_enter Tryd.func25, Tryd.ntmps25
   go_wp2_with (first | ((with_reducible refine gate_dst (N := 1) rfl ?_); refine box_event (by rfl) (N := 1) (by rfl) (cs := #[.int .i64 a0_0, .int .i64 a0_1, .int .i64 a0_2, .int .i64 a0_3, .string a0_4, .slice A0_5 l0_5.length c0_5]) (t := 31) ?hr ?_; (case hr => go_simp <;> rfl); intro gb109 hg w8 hbox hb; have BK109 := zA (hbox); have GW109 := qG hg; have GE109 := GW109; replace HB := qH hb; clear hb hbox hg; have z9_0 := bk6 BK109.out) | ((with_reducible refine gate_dst (N := 16) rfl ?_); refine Kd.R_lit (Kd.int .i64) _ 3 (by rfl) (N := 16) (by rfl) (xs := ([a0_3, a0_1] : List Int)) (inner := [.int .i64 a0_3, .int .i64 a0_1]) (ok := fun _ => True) (okp := fun _ => True) ?hr ?hp (fun _ hk => hk) trivial (Below.refl _ _) (Nat.le_refl _) (by simp) ?_; (case hr => go_simp <;> rfl); (case hp => exact (Reps.one (show Kd.M (Kd.int .i64) _ _ _ a0_3 [.int .i64 a0_3] from rfl) (Reps.one (show Kd.M (Kd.int .i64) _ _ _ a0_1 [.int .i64 a0_1] from rfl) (Reps.none _ _)))); intro v114 w10 ho11 hb hg_ hnew_; clear hg_ hnew_; (first | rw [← Ny113.out] at ho11 | (simp only [Int.reduceToNat] at ho11; rw [← Ny113.out] at ho11)); have HO115 := zA (Kd.R_lower ho11 (below_size qB)); replace BK109 := qW BK109 hb; replace HB := qH hb; clear hb ho11))
   go_ret
   exact ⟨_, qE, qR HO115.out, qB⟩
  ·rw [zD c7] at H
   obtain ⟨c7b0, c7b1⟩ := qn c7
   obtain rfl := zI H
   go_enter Tryd.func25, Tryd.ntmps25
   go_wp2_with (first | ((with_reducible refine gate_dst (N := 1) rfl ?_); refine box_event (by rfl) (N := 1) (by rfl) (cs := #[.int .i64 a0_0, .int .i64 a0_1, .int .i64 a0_2, .int .i64 a0_3, .string a0_4, .slice A0_5 l0_5.length c0_5]) (t := 31) ?hr ?_; (case hr => go_simp <;> rfl); intro gb109 hg w12 hbox hb; have BK109 := zA (hbox); have GW109 := qG hg; have GE109 := GW109; replace HB := qH hb; clear hb hbox hg; have z13_0 := bk6 BK109.out))
   go_ret
   exact ⟨_, qE, by first | exact Kd.R_nil _ _ _ _ _ | exact Kd.N_nil _ _ _ _ _ | exact Kd.V_nil _ _ _ _ _ | exact Kd.Q_nil _ _ _ _ _ | exact Kd.S_nil _ _ _ _ _, qB⟩

mutual
def ir_one.j0 : Nat → ByteArray → Bool → ByteArray → Int → Int → List (List (SIns)) → Int → Int → Int → Int → ByteArray → List Int → Option (Int)
 | 0, _, _, _, _, _, _, _, _, _, _, _, _ => none
 | k + 1, x7, x45, x117000, x117001, x117002, x117003, x118000, x118001, x118002, x118003, x118004, x118005 => if x45 = true then (some 72) else ((some (([x118001, x118002, x118003] : List Int) : List Int)).bind fun y120 => (ir_one.l0 k x7 y120 y120 (y120.length : Int) 0 x117000 x117001 x117002 x117003 x118000 x118001 x118002 x118003 x118004 x118005))
def ir_one.l0 : Nat → ByteArray → List Int → List Int → Int → Int → ByteArray → Int → Int → List (List (SIns)) → Int → Int → Int → Int → ByteArray → List Int → Option (Int)
 | 0, _, _, _, _, _, _, _, _, _, _, _, _, _, _, _ => none
 | k + 1, x7, x8, x53, x54, x55, x117000, x117001, x117002, x117003, x118000, x118001, x118002, x118003, x118004, x118005 => if x55 < x54 then (if 0 ≤ x55 then (if x55 < (x53.length : Int) then (if x55 < (x7.size : Int) then (if (bt x7 x55) = 32 then (if (rd x53 x55) = 0 then (ir_one.l0 k x7 x8 x53 x54 (wrap64 (x55 + 1)) x117000 x117001 x117002 x117003 x118000 x118001 x118002 x118003 x118004 x118005) else (some 72)) else (ir_one.l0 k x7 x8 x53 x54 (wrap64 (x55 + 1)) x117000 x117001 x117002 x117003 x118000 x118001 x118002 x118003 x118004 x118005)) else (none)) else (none)) else (none)) else (ir_one.l1 k x7 x8 x8 (x8.length : Int) 0 x117000 x117001 x117002 x117003 x118000 x118001 x118002 x118003 x118004 x118005)
def ir_one.l1 : Nat → ByteArray → List Int → List Int → Int → Int → ByteArray → Int → Int → List (List (SIns)) → Int → Int → Int → Int → ByteArray → List Int → Option (Int)
 | 0, _, _, _, _, _, _, _, _, _, _, _, _, _, _, _ => none
 | k + 1, x7, x8, x70, x71, x72, x117000, x117001, x117002, x117003, x118000, x118001, x118002, x118003, x118004, x118005 => if x72 < x71 then (if 0 ≤ x72 then (if x72 < (x70.length : Int) then (if x72 < (x7.size : Int) then (if (bt x7 x72) = 114 then ((ir_one_1.f (rd x70 x72) x117000 x117001 x117002 x117003).bind fun t125 => (if t125 = true then (some 73) else (ir_one.l1 k x7 x8 x70 x71 (wrap64 (x72 + 1)) x117000 x117001 x117002 x117003 x118000 x118001 x118002 x118003 x118004 x118005))) else (ir_one.l1 k x7 x8 x70 x71 (wrap64 (x72 + 1)) x117000 x117001 x117002 x117003 x118000 x118001 x118002 x118003 x118004 x118005)) else (none)) else (none)) else (none)) else ((slices_ContainsFunc_int_int.f x118005 x117000 x117001 x117002 x117003).bind fun t126 => (if t126 = true then (some 73) else (ir_one.l2 k x7 x8 (x8.length : Int) 0 x117000 x117001 x117002 x117003 x118000 x118001 x118002 x118003 x118004 x118005)))
def ir_one.l2 : Nat → ByteArray → List Int → Int → Int → ByteArray → Int → Int → List (List (SIns)) → Int → Int → Int → Int → ByteArray → List Int → Option (Int)
 | 0, _, _, _, _, _, _, _, _, _, _, _, _, _, _ => none
 | k + 1, x7, x91, x92, x93, x117000, x117001, x117002, x117003, x118000, x118001, x118002, x118003, x118004, x118005 => if x93 < x92 then (if 0 ≤ x93 then (if x93 < (x91.length : Int) then (if x93 < (x7.size : Int) then (if (bt x7 x93) = 110 then (if (rd x91 x93) < 0 then (some 81) else (if (rd x91 x93) ≥ 65536 then (some 81) else (ir_one.l2 k x7 x91 x92 (wrap64 (x93 + 1)) x117000 x117001 x117002 x117003 x118000 x118001 x118002 x118003 x118004 x118005))) else (ir_one.l2 k x7 x91 x92 (wrap64 (x93 + 1)) x117000 x117001 x117002 x117003 x118000 x118001 x118002 x118003 x118004 x118005)) else (none)) else (none)) else (none)) else ((ir_Targets.f x118000 x118001 x118002 x118003 x118004 x118005).bind fun t128 => (ir_one.l3 k t128 (t128.length : Int) 0 x117000 x117001 x117002 x117003 x118000 x118001 x118002 x118003 x118004 x118005))
def ir_one.l3 : Nat → List Int → Int → Int → ByteArray → Int → Int → List (List (SIns)) → Int → Int → Int → Int → ByteArray → List Int → Option (Int)
 | 0, _, _, _, _, _, _, _, _, _, _, _, _, _ => none
 | k + 1, x112, x113, x114, x117000, x117001, x117002, x117003, x118000, x118001, x118002, x118003, x118004, x118005 => if x114 < x113 then (if 0 ≤ x114 then (if x114 < (x112.length : Int) then (if (rd x112 x114) < 0 then (some 74) else (if (rd x112 x114) ≥ (x117003.length : Int) then (some 74) else (ir_one.l3 k x112 x113 (wrap64 (x114 + 1)) x117000 x117001 x117002 x117003 x118000 x118001 x118002 x118003 x118004 x118005))) else (none)) else (none)) else (if x118000 = 11 then ((ir_Name.f x118004).bind fun t132 => (ir_one.j5 k (!t132) x118000 x118001 x118002 x118003 x118004 x118005)) else (ir_one.j5 k false x118000 x118001 x118002 x118003 x118004 x118005))
def ir_one.j5 : Nat → Bool → Int → Int → Int → Int → ByteArray → List Int → Option (Int)
 | 0, _, _, _, _, _, _, _ => none
 | k + 1, x128, x118000, x118001, x118002, x118003, x118004, x118005 => if x128 = true then (some 70) else (if (x118005.length : Int) > 4 then (some 192) else (some 0))
end
def ir_one.f (k : Nat) (a0_0 : ByteArray) (a0_1 : Int) (a0_2 : Int) (l0_3 : List (List (SIns))) (a1_0 : Int) (a1_1 : Int) (a1_2 : Int) (a1_3 : Int) (a1_4 : ByteArray) (l1_5 : List Int) (a2 : Bool) : Option (Int) := (ir_shape.f a1_0).bind fun t118 => (if t118.toList = ([] : List UInt8) then (ir_one.j0 k t118 true a0_0 a0_1 a0_2 l0_3 a1_0 a1_1 a1_2 a1_3 a1_4 l1_5) else ((ir_Last.f a1_0).bind fun t119 => (if (t119 != a2) = true then (ir_one.j0 k t118 true a0_0 a0_1 a0_2 l0_3 a1_0 a1_1 a1_2 a1_3 a1_4 l1_5) else (if a1_0 = 11 then (ir_one.j0 k t118 false a0_0 a0_1 a0_2 l0_3 a1_0 a1_1 a1_2 a1_3 a1_4 l1_5) else (if a1_4.toList = ([] : List UInt8) then (ir_one.j0 k t118 (decide ((l1_5.length : Int) > 0)) a0_0 a0_1 a0_2 l0_3 a1_0 a1_1 a1_2 a1_3 a1_4 l1_5) else (ir_one.j0 k t118 true a0_0 a0_1 a0_2 l0_3 a1_0 a1_1 a1_2 a1_3 a1_4 l1_5))))))
set_option maxHeartbeats 8000000 in
set_option maxRecDepth 100000 in
theorem ir_one.calls (k : Nat) (a0_0 : ByteArray) (a0_1 : Int) (a0_2 : Int) (A0_3 : Option Addr) (c0_3 : Nat) (l0_3 : List (List (SIns))) (a1_0 : Int) (a1_1 : Int) (a1_2 : Int) (a1_3 : Int) (a1_4 : ByteArray) (A1_5 : Option Addr) (c1_5 : Nat) (l1_5 : List Int) (a2 : Bool) (r : Int) (w : World) (hL : LaidW w) (hr0_3 : Kd.C (Kd.slice 31 kIns) w A0_3 l0_3.length l0_3) (hc0_3 : l0_3.length ≤ c0_3) (hr1_5 : Kd.C (Kd.int .i64) w A1_5 l1_5.length l1_5) (hc1_5 : l1_5.length ≤ c1_5) (h : ir_one.f k a0_0 a0_1 a0_2 l0_3 a1_0 a1_1 a1_2 a1_3 a1_4 l1_5 a2 = some r) :
 Calls Tryd.prog 12 #[.agg #[.string a0_0, .int .i64 a0_1, .int .i64 a0_2, .slice A0_3 l0_3.length c0_3], .agg #[.int .i64 a1_0, .int .i64 a1_1, .int .i64 a1_2, .int .i64 a1_3, .string a1_4, .slice A1_5 l1_5.length c1_5], .bool a2] w fun e w' => e = .returned (.int .i64 r) ∧ Below w.heap.size w w' := by
 have hu24 := Tryd.underlying24
 have hu31 := Tryd.underlying31
 have HR0_3 := zA hr0_3
 have HC0_3 := zA hc0_3
 clear hr0_3 hc0_3
 have HR1_5 := zA hr1_5
 have HC1_5 := zA hc1_5
 clear hr1_5 hc1_5
 have HB := zA (Below.refl w.heap.size w)
 have HLd := zA hL
 clear hL
 have H := h; clear h; unfold ir_one.f at H
 replace H := qb H; obtain ⟨t118, A4, H⟩ := H
 have HC5 := zA H
 clear H
 go_enter Tryd.func12, Tryd.ntmps12
 go_upto_region 2 with (first | ((with_reducible refine gate_dst (N := 3) rfl ?_); (try (refine gate_guard (by rfl) ?_; dsimp only)); refine box_event (by rfl) (N := 3) (by rfl) (cs := #[.string a0_0, .int .i64 a0_1, .int .i64 a0_2, .slice A0_3 l0_3.length c0_3]) (t := 24) ?hr ?_; (case hr => go_simp <;> rfl); intro gb116 hg w6 hbox hb; have BK116 := zA (hbox); have GW116 := qG hg; have GE116 := GW116; replace HB := qH hb; clear hb hbox hg) | ((with_reducible refine gate_dst (N := 4) rfl ?_); (try (refine gate_guard (by rfl) ?_; dsimp only)); refine box_event (by rfl) (N := 4) (by rfl) (cs := #[.int .i64 a1_0, .int .i64 a1_1, .int .i64 a1_2, .int .i64 a1_3, .string a1_4, .slice A1_5 l1_5.length c1_5]) (t := 31) ?hr ?_; (case hr => go_simp <;> rfl); intro gb117 hg w7 hbox hb; have BK117 := zA (hbox); have GW117 := qG hg; have GE117 := GW117; replace HB := qH hb; have NB116_117 := zA ((by rw [hg]; exact Nat.ne_of_lt (blk_lt (g := gb116) (o := .cells #[.string a0_0, .int .i64 a0_1, .int .i64 a0_2, .slice A0_3 l0_3.length c0_3] 24 (0, 0)) (qK BK116.out)) : gb116 ≠ gb117)); have NB117_116 := zA ((by rw [hg]; exact Nat.ne_of_gt (blk_lt (g := gb116) (o := .cells #[.string a0_0, .int .i64 a0_1, .int .i64 a0_2, .slice A0_3 l0_3.length c0_3] 24 (0, 0)) (qK BK116.out)) : gb117 ≠ gb116)); replace BK116 := qW BK116 hb; clear hb hbox hg; have hnb8 := NB117_116.out; have hnc8 := NB116_117.out; have z9_0 := bk6 BK117.out) | ((with_reducible refine gate_callee (f := 21) rfl ?_); refine goesL_ (some 20) rfl rfl Tryd.func21 (by kernel_rfl) rfl #[.int .i64 a1_0] rfl qL ?_; (with_reducible refine (ir_shape.calls a1_0 t118 _ A4.out (hL := ?side99)).mono ?_); (case side99 => exact LaidW.below HLd.out qB); rintro e w' ⟨rfl, ⟨nd, rfl⟩⟩; refine ⟨_, rfl, ?_⟩))
 (try simp only [Act.put, List.setIfInBounds_toArray, List.set_cons_zero, List.set_cons_succ])
 go_cut [45] (fun v45 wc => ∃ (kq : Nat) (x45_4 : Bool), v45 = .bool x45_4 ∧ Aside0 (ir_one.j0 kq t118 x45_4 a0_0 a0_1 a0_2 l0_3 a1_0 a1_1 a1_2 a1_3 a1_4 l1_5 = some r) ∧ Aside0 (kq ≤ k) ∧ Aside0 (wc.heap[gb116]? = some (.cells #[.string a0_0, .int .i64 a0_1, .int .i64 a0_2, (.slice A0_3 l0_3.length c0_3)] 24 (0, 0))) ∧ Aside0 (wc.heap[gb117]? = some (.cells #[.int .i64 a1_0, .int .i64 a1_1, .int .i64 a1_2, .int .i64 a1_3, .string a1_4, (.slice A1_5 l1_5.length c1_5)] 31 (0, 0))) ∧ Aside0 (Below w.heap.size w wc))
 case first =>
  have H := HC5.out
  clear HC5
  by_cases c10 : t118.toList = ([] : List UInt8)
  ·rw [zC c10] at H
   obtain ⟨c10b0, c10b1⟩ := qe c10; clear c10
   (first | rw [c10b0] | (simp only [i64_w, i32_w]; rw [c10b0]) | skip)
   have H' := zA H
   clear H
   go_wp2
   go_meet
   case rel => exact ⟨_, (true), qT, H', ⟨qO⟩, ⟨qK BK116.out⟩, ⟨qK BK117.out⟩, ⟨qB⟩⟩
  ·rw [zD c10] at H
   obtain ⟨c10b0, c10b1⟩ := qn c10
   (first | rw [c10b0] | (simp only [i64_w, i32_w]; rw [c10b0]) | skip)
   replace H := qb H; obtain ⟨t119, A11, H⟩ := H
   by_cases c12 : (t119 != a2) = true
   ·rw [zC c12] at H
    have c12b0 : (t119 != a2) = true := c12
    (try (have c12b1 : decide (t119 = a2) = false := by simpa using c12))
    (try (have c12b2 : (t119 == a2) = false := by simpa using c12))
    (try (have c12b3 : ¬ (t119 = a2) := by simpa using c12))
    clear c12
    have H' := zA H
    clear H
    have hnb13 := NB117_116.out
    have hnc13 := NB116_117.out
    have z14_0 := bk6 BK117.out
    go_wp2_with (first | (go_at_call 22; (with_reducible refine (ir_Last.calls a1_0 t119 _ A11.out).mono ?_); (try clear A11); rintro e w' ⟨rfl, ⟨nd, rfl⟩⟩))
    go_meet
    case rel => exact ⟨_, (true), qT, H', ⟨qO⟩, ⟨qK BK116.out⟩, ⟨qK BK117.out⟩, ⟨qB⟩⟩
   ·rw [zD c12] at H
    have c12b0 : (t119 != a2) = false := by simpa using c12
    (try (have c12b1 : decide (t119 = a2) = true := by simpa using c12))
    (try (have c12b2 : (t119 == a2) = true := by simpa using c12))
    clear c12
    by_cases c15 : a1_0 = 11
    ·rw [zC c15] at H
     obtain ⟨c15b0, c15b1⟩ := qe c15; clear c15
     have H' := zA H
     clear H
     have hnb16 := NB117_116.out
     have hnc16 := NB116_117.out
     have z17_0 := bk6 BK117.out
     go_wp2_with (first | (go_at_call 22; (with_reducible refine (ir_Last.calls a1_0 t119 _ A11.out).mono ?_); (try clear A11); rintro e w' ⟨rfl, ⟨nd, rfl⟩⟩))
     go_meet
     case rel => exact ⟨_, (false), qT, H', ⟨qO⟩, ⟨qK BK116.out⟩, ⟨qK BK117.out⟩, ⟨qB⟩⟩
    ·rw [zD c15] at H
     obtain ⟨c15b0, c15b1⟩ := qn c15
     by_cases c18 : a1_4.toList = ([] : List UInt8)
     ·rw [zC c18] at H
      obtain ⟨c18b0, c18b1⟩ := qe c18; clear c18
      have H' := zA H
      clear H
      have hnb19 := NB117_116.out
      have hnc19 := NB116_117.out
      have z20_0 := bk6 BK117.out
      go_wp2_with (first | (go_at_call 22; (with_reducible refine (ir_Last.calls a1_0 t119 _ A11.out).mono ?_); (try clear A11); rintro e w' ⟨rfl, ⟨nd, rfl⟩⟩))
      go_meet
      case rel => exact ⟨_, (decide ((l1_5.length : Int) > 0)), qT, H', ⟨qO⟩, ⟨qK BK116.out⟩, ⟨qK BK117.out⟩, ⟨qB⟩⟩
     ·rw [zD c18] at H
      obtain ⟨c18b0, c18b1⟩ := qn c18
      have H' := zA H
      clear H
      have hnb21 := NB117_116.out
      have hnc21 := NB116_117.out
      have z22_0 := bk6 BK117.out
      go_wp2_with (first | (go_at_call 22; (with_reducible refine (ir_Last.calls a1_0 t119 _ A11.out).mono ?_); (try clear A11); rintro e w' ⟨rfl, ⟨nd, rfl⟩⟩))
      go_meet
      case rel => exact ⟨_, (true), qT, H', ⟨qO⟩, ⟨qK BK116.out⟩, ⟨qK BK117.out⟩, ⟨qB⟩⟩
 case rest =>
  clear HC5
  obtain ⟨kq, x45_4, rfl, HA, HJ4, BK116, BK117, HB⟩ := hcut
  cases kq with
  | zero => exact absurd HA.out (by simp [ir_one.j0])
  | succ kj4 =>
   have H := HA.out
   clear HA
   simp only [ir_one.j0] at H
   by_cases c23 : x45_4 = true
   ·subst c23
    have H1 : (some 72) = some r := by rw [zC rfl] at H; exact H
    clear H
    have H := H1
    clear H1
    obtain rfl := zI H
    go_wp2
    go_ret
    exact ⟨qE, qB⟩
   ·replace c23 := Bool.eq_false_iff.mpr c23
    subst c23
    have H1 : ((some (([a1_1, a1_2, a1_3] : List Int) : List Int)).bind fun y120 => (ir_one.l0 kj4 t118 y120 y120 (y120.length : Int) 0 a0_0 a0_1 a0_2 l0_3 a1_0 a1_1 a1_2 a1_3 a1_4 l1_5)) = some r := by rw [zD (show ¬ (false = true) by decide)] at H; exact H
    clear H
    have H := H1
    clear H1
    obtain ⟨y120, hy120⟩ : ∃ y_ : List Int, y_ = (([a1_1, a1_2, a1_3] : List Int)) := ⟨_, rfl⟩
    replace H : (ir_one.l0 kj4 t118 y120 y120 (y120.length : Int) 0 a0_0 a0_1 a0_2 l0_3 a1_0 a1_1 a1_2 a1_3 a1_4 l1_5) = some r := by (try rw [hy120]); first | with_reducible exact H | exact (zJ _ _).symm.trans H | exact H
    have Ny120 := zA hy120
    clear hy120
    have H' := zA H
    clear H
    have hnb24 := NB117_116.out
    have hnc24 := NB116_117.out
    have z25_0 := bk6 BK117.out
    go_wp2_with (first | ((with_reducible refine gate_dst (N := 52) rfl ?_); (try (refine gate_guard (by rfl) ?_; dsimp only)); refine Kd.R_lit (Kd.int .i64) _ 3 (by rfl) (N := 52) (by rfl) (xs := ([a1_1, a1_2, a1_3] : List Int)) (inner := [.int .i64 a1_1, .int .i64 a1_2, .int .i64 a1_3]) (ok := fun _ => True) (okp := fun _ => True) ?hr ?hp (fun _ hk => hk) trivial (Below.refl _ _) (Nat.le_refl _) (by simp) ?_; (case hr => go_simp <;> rfl); (case hp => exact (Reps.one (show Kd.M (Kd.int .i64) _ _ _ a1_1 [.int .i64 a1_1] from rfl) (Reps.one (show Kd.M (Kd.int .i64) _ _ _ a1_2 [.int .i64 a1_2] from rfl) (Reps.one (show Kd.M (Kd.int .i64) _ _ _ a1_3 [.int .i64 a1_3] from rfl) (Reps.none _ _))))); intro v121 w26 ho27 hb hg_ hnew_; clear hg_ hnew_; (first | rw [← Ny120.out] at ho27 | (simp only [Int.reduceToNat] at ho27; rw [← Ny120.out] at ho27)); have HO122 := zA (Kd.R_lower ho27 (below_size qB)); replace BK116 := qW BK116 hb; replace BK117 := qW BK117 hb; replace HB := qH hb; clear hb ho27; obtain ⟨Ao28, co28, eo28⟩ := Kd.R_slice HO122.out; subst eo28))
    go_loopg [55] kj4 (fun kq v55 w' => ∃ (x55_2 : Int), v55 = .int .i64 x55_2 ∧ Aside0 (ir_one.l0 kq t118 y120 y120 (y120.length : Int) x55_2 a0_0 a0_1 a0_2 l0_3 a1_0 a1_1 a1_2 a1_3 a1_4 l1_5 = some r) ∧ Aside0 (kq ≤ kj4) ∧ Aside0 (Kd.R (Kd.int .i64) 3 w' w.heap.size (fun _ => True) (.slice Ao28 y120.length co28) y120) ∧ Aside0 (Kd.R (Kd.int .i64) 3 w' w.heap.size (fun _ => True) (.slice Ao28 y120.length co28) y120) ∧ Aside0 (w'.heap[gb116]? = some (.cells #[.string a0_0, .int .i64 a0_1, .int .i64 a0_2, (.slice A0_3 l0_3.length c0_3)] 24 (0, 0))) ∧ Aside0 (w'.heap[gb117]? = some (.cells #[.int .i64 a1_0, .int .i64 a1_1, .int .i64 a1_2, .int .i64 a1_3, .string a1_4, (.slice A1_5 l1_5.length c1_5)] 31 (0, 0))) ∧ Aside0 (Below w.heap.size w w'))
    case atStart => exact ⟨(0), qT, H', ⟨Nat.le_refl _⟩, ⟨qR HO122.out⟩, ⟨qR HO122.out⟩, ⟨qK BK116.out⟩, ⟨qK BK117.out⟩, ⟨qB⟩⟩
    case round =>
     clear H'
     obtain ⟨x55_2, rfl, HA, HK2, HO_8, HO_53, BK116, BK117, HB⟩ := hrel
     cases gk with
     | zero => exact absurd HA.out (by simp [ir_one.l0])
     | succ k2 =>
      have H := HA.out
      clear HA
      simp only [ir_one.l0] at H
      by_cases c29 : x55_2 < (y120.length : Int)
      ·rw [zC c29] at H
       have c29b0 := zF c29
       clear c29
       by_cases c30 : 0 ≤ x55_2
       ·rw [zC c30] at H
        have c30b0 := zF c30
        clear c30
        by_cases c31 : x55_2 < (y120.length : Int)
        ·rw [zC c31] at H
         have c31b0 := zF c31
         clear c31
         by_cases c32 : x55_2 < (t118.size : Int)
         ·rw [zC c32] at H
          have c32b0 := zF c32
          clear c32
          by_cases c34 : (bt t118 x55_2) = 32
          ·rw [zC c34] at H
           obtain ⟨c34b0, c34b1⟩ := qe c34; clear c34
           by_cases c35 : (rd y120 x55_2) = 0
           ·rw [zC c35] at H
            obtain ⟨c35b0, c35b1⟩ := qe c35; clear c35
            have H' := zA H
            clear H
            have p123 : 0 ≤ (x55_2 : Int) := zB qA
            have q123 : x55_2 < (y120.length : Int) := zB qA
            obtain ⟨ad123, e123, hx123_0⟩ := Kd.at_int (Kd.R_reads' HO_53.out).2.2 x55_2 p123 q123
            cases e123
            replace p123 := eq_true p123
            replace q123 := eq_true q123
            have p33 : 0 ≤ (x55_2 : Int) := zB qA
            have q33 : x55_2 < (t118.size : Int) := zB qA
            have hx33 := bt_at t118 x55_2
            replace p33 := eq_true p33
            replace q33 := eq_true q33
            go_wp2
            go_roundg k2
            case measure => have := HJ4.out; have := HK2.out; omega
            case rel => exact ⟨(wrap64 (x55_2 + 1)), qT, H', ⟨by have := HJ4.out; have := HK2.out; omega⟩, ⟨qR HO_8.out⟩, ⟨qR HO_53.out⟩, ⟨qK BK116.out⟩, ⟨qK BK117.out⟩, ⟨qB⟩⟩
           ·rw [zD c35] at H
            obtain ⟨c35b0, c35b1⟩ := qn c35
            obtain rfl := zI H
            have p123 : 0 ≤ (x55_2 : Int) := zB qA
            have q123 : x55_2 < (y120.length : Int) := zB qA
            obtain ⟨ad123, e123, hx123_0⟩ := Kd.at_int (Kd.R_reads' HO_53.out).2.2 x55_2 p123 q123
            cases e123
            replace p123 := eq_true p123
            replace q123 := eq_true q123
            have p33 : 0 ≤ (x55_2 : Int) := zB qA
            have q33 : x55_2 < (t118.size : Int) := zB qA
            have hx33 := bt_at t118 x55_2
            replace p33 := eq_true p33
            replace q33 := eq_true q33
            go_wp2
            go_ret
            exact ⟨qE, qB⟩
          ·rw [zD c34] at H
           obtain ⟨c34b0, c34b1⟩ := qn c34
           have H' := zA H
           clear H
           have p123 : 0 ≤ (x55_2 : Int) := zB qA
           have q123 : x55_2 < (y120.length : Int) := zB qA
           obtain ⟨ad123, e123, hx123_0⟩ := Kd.at_int (Kd.R_reads' HO_53.out).2.2 x55_2 p123 q123
           cases e123
           replace p123 := eq_true p123
           replace q123 := eq_true q123
           have p33 : 0 ≤ (x55_2 : Int) := zB qA
           have q33 : x55_2 < (t118.size : Int) := zB qA
           have hx33 := bt_at t118 x55_2
           replace p33 := eq_true p33
           replace q33 := eq_true q33
           go_wp2
           go_roundg k2
           case measure => have := HJ4.out; have := HK2.out; omega
           case rel => exact ⟨(wrap64 (x55_2 + 1)), qT, H', ⟨by have := HJ4.out; have := HK2.out; omega⟩, ⟨qR HO_8.out⟩, ⟨qR HO_53.out⟩, ⟨qK BK116.out⟩, ⟨qK BK117.out⟩, ⟨qB⟩⟩
         ·rw [zD c32] at H
          exact absurd H (by simp)
        ·rw [zD c31] at H
         exact absurd H (by simp)
       ·rw [zD c30] at H
        exact absurd H (by simp)
      ·rw [zD c29] at H
       have c29b0 := zG c29
       clear c29
       have H' := zA H
       clear H
       go_wp2
       go_loopg [72] k2 (fun kq v72 w' => ∃ (x72_3 : Int), v72 = .int .i64 x72_3 ∧ Aside0 (ir_one.l1 kq t118 y120 y120 (y120.length : Int) x72_3 a0_0 a0_1 a0_2 l0_3 a1_0 a1_1 a1_2 a1_3 a1_4 l1_5 = some r) ∧ Aside0 (kq ≤ k2) ∧ Aside0 (Kd.R (Kd.int .i64) 3 w' w.heap.size (fun _ => True) (.slice Ao28 y120.length co28) y120) ∧ Aside0 (Kd.R (Kd.int .i64) 3 w' w.heap.size (fun _ => True) (.slice Ao28 y120.length co28) y120) ∧ Aside0 (w'.heap[gb116]? = some (.cells #[.string a0_0, .int .i64 a0_1, .int .i64 a0_2, (.slice A0_3 l0_3.length c0_3)] 24 (0, 0))) ∧ Aside0 (w'.heap[gb117]? = some (.cells #[.int .i64 a1_0, .int .i64 a1_1, .int .i64 a1_2, .int .i64 a1_3, .string a1_4, (.slice A1_5 l1_5.length c1_5)] 31 (0, 0))) ∧ Aside0 (Below w.heap.size w w'))
       case atStart => exact ⟨(0), qT, H', ⟨Nat.le_refl _⟩, ⟨qR HO_8.out⟩, ⟨qR HO_8.out⟩, ⟨qK BK116.out⟩, ⟨qK BK117.out⟩, ⟨qB⟩⟩
       case round =>
        clear H'
        obtain ⟨x72_3, rfl, HA, HK3, HO_8, HO_70, BK116, BK117, HB⟩ := hrel
        cases gk with
        | zero => exact absurd HA.out (by simp [ir_one.l1])
        | succ k3 =>
         have H := HA.out
         clear HA
         simp only [ir_one.l1] at H
         by_cases c36 : x72_3 < (y120.length : Int)
         ·rw [zC c36] at H
          have c36b0 := zF c36
          clear c36
          by_cases c37 : 0 ≤ x72_3
          ·rw [zC c37] at H
           have c37b0 := zF c37
           clear c37
           by_cases c38 : x72_3 < (y120.length : Int)
           ·rw [zC c38] at H
            have c38b0 := zF c38
            clear c38
            by_cases c39 : x72_3 < (t118.size : Int)
            ·rw [zC c39] at H
             have c39b0 := zF c39
             clear c39
             by_cases c41 : (bt t118 x72_3) = 114
             ·rw [zC c41] at H
              obtain ⟨c41b0, c41b1⟩ := qe c41; clear c41
              replace H := qb H; obtain ⟨t125, A42, H⟩ := H
              by_cases c43 : t125 = true
              ·subst c43
               have H1 : (some 73) = some r := by rw [zC rfl] at H; exact H
               clear H
               have H := H1
               clear H1
               obtain rfl := zI H
               have p124 : 0 ≤ (x72_3 : Int) := zB qA
               have q124 : x72_3 < (y120.length : Int) := zB qA
               obtain ⟨ad124, e124, hx124_0⟩ := Kd.at_int (Kd.R_reads' HO_70.out).2.2 x72_3 p124 q124
               cases e124
               replace p124 := eq_true p124
               replace q124 := eq_true q124
               have p40 : 0 ≤ (x72_3 : Int) := zB qA
               have q40 : x72_3 < (t118.size : Int) := zB qA
               have hx40 := bt_at t118 x72_3
               replace p40 := eq_true p40
               replace q40 := eq_true q40
               have hnb44 := NB116_117.out
               have hnc44 := NB117_116.out
               have z45_0 := bk4 BK116.out
               go_wp2_with (first | (go_at_call 23; (refine (ir_one_1.calls (rd y120 x72_3) a0_0 a0_1 a0_2 (A0_3) (c0_3) l0_3 true _ ?side1 ?side2 A42.out (hbk := ?side98) (gb_ := gb116)).mono ?_); (case side1 => repeat (first | exact (Kd.C_below HR0_3.out HB.out) | (refine Kd.C_alloc ?_ _) | (refine Kd.C_drewN ?_ _) | (refine Kd.C_drew ?_))); (case side2 => exact HC0_3.out); (case side98 => exact qK BK116.out); (try clear A42); rintro e w46 ⟨rfl, hb⟩; replace HO_8 := zA (Kd.R_below (qR HO_8.out) hb); replace HO_70 := zA (Kd.R_below (qR HO_70.out) hb); replace BK116 := qW BK116 hb; replace BK117 := qW BK117 hb; replace HB := qH hb; (try clear hb)))
               go_ret
               exact ⟨qE, qB⟩
              ·replace c43 := Bool.eq_false_iff.mpr c43
               subst c43
               have H1 : (ir_one.l1 k3 t118 y120 y120 (y120.length : Int) (wrap64 (x72_3 + 1)) a0_0 a0_1 a0_2 l0_3 a1_0 a1_1 a1_2 a1_3 a1_4 l1_5) = some r := by rw [zD (show ¬ (false = true) by decide)] at H; exact H
               clear H
               have H := H1
               clear H1
               have H' := zA H
               clear H
               have p124 : 0 ≤ (x72_3 : Int) := zB qA
               have q124 : x72_3 < (y120.length : Int) := zB qA
               obtain ⟨ad124, e124, hx124_0⟩ := Kd.at_int (Kd.R_reads' HO_70.out).2.2 x72_3 p124 q124
               cases e124
               replace p124 := eq_true p124
               replace q124 := eq_true q124
               have p40 : 0 ≤ (x72_3 : Int) := zB qA
               have q40 : x72_3 < (t118.size : Int) := zB qA
               have hx40 := bt_at t118 x72_3
               replace p40 := eq_true p40
               replace q40 := eq_true q40
               have hnb47 := NB116_117.out
               have hnc47 := NB117_116.out
               have z48_0 := bk4 BK116.out
               go_wp2_with (first | (go_at_call 23; (refine (ir_one_1.calls (rd y120 x72_3) a0_0 a0_1 a0_2 (A0_3) (c0_3) l0_3 false _ ?side1 ?side2 A42.out (hbk := ?side98) (gb_ := gb116)).mono ?_); (case side1 => repeat (first | exact (Kd.C_below HR0_3.out HB.out) | (refine Kd.C_alloc ?_ _) | (refine Kd.C_drewN ?_ _) | (refine Kd.C_drew ?_))); (case side2 => exact HC0_3.out); (case side98 => exact qK BK116.out); (try clear A42); rintro e w49 ⟨rfl, hb⟩; replace HO_8 := zA (Kd.R_below (qR HO_8.out) hb); replace HO_70 := zA (Kd.R_below (qR HO_70.out) hb); replace BK116 := qW BK116 hb; replace BK117 := qW BK117 hb; replace HB := qH hb; (try clear hb)))
               go_roundg k3
               case measure => have := HJ4.out; have := HK2.out; have := HK3.out; omega
               case rel => exact ⟨(wrap64 (x72_3 + 1)), qT, H', ⟨by have := HJ4.out; have := HK2.out; have := HK3.out; omega⟩, ⟨qR HO_8.out⟩, ⟨qR HO_70.out⟩, ⟨qK BK116.out⟩, ⟨qK BK117.out⟩, ⟨qB⟩⟩
             ·rw [zD c41] at H
              obtain ⟨c41b0, c41b1⟩ := qn c41
              have H' := zA H
              clear H
              have p124 : 0 ≤ (x72_3 : Int) := zB qA
              have q124 : x72_3 < (y120.length : Int) := zB qA
              obtain ⟨ad124, e124, hx124_0⟩ := Kd.at_int (Kd.R_reads' HO_70.out).2.2 x72_3 p124 q124
              cases e124
              replace p124 := eq_true p124
              replace q124 := eq_true q124
              have p40 : 0 ≤ (x72_3 : Int) := zB qA
              have q40 : x72_3 < (t118.size : Int) := zB qA
              have hx40 := bt_at t118 x72_3
              replace p40 := eq_true p40
              replace q40 := eq_true q40
              go_wp2
              go_roundg k3
              case measure => have := HJ4.out; have := HK2.out; have := HK3.out; omega
              case rel => exact ⟨(wrap64 (x72_3 + 1)), qT, H', ⟨by have := HJ4.out; have := HK2.out; have := HK3.out; omega⟩, ⟨qR HO_8.out⟩, ⟨qR HO_70.out⟩, ⟨qK BK116.out⟩, ⟨qK BK117.out⟩, ⟨qB⟩⟩
            ·rw [zD c39] at H
             exact absurd H (by simp)
           ·rw [zD c38] at H
            exact absurd H (by simp)
          ·rw [zD c37] at H
           exact absurd H (by simp)
         ·rw [zD c36] at H
          have c36b0 := zG c36
          clear c36
          replace H := qb H; obtain ⟨t126, A50, H⟩ := H
          by_cases c51 : t126 = true
          ·subst c51
           have H1 : (some 73) = some r := by rw [zC rfl] at H; exact H
           clear H
           have H := H1
           clear H1
           obtain rfl := zI H
           have hnb52 := NB117_116.out
           have hnc52 := NB116_117.out
           have z53_0 := bk6 BK117.out
           have z54_0 := bk4 BK116.out
           go_wp2_with (first | ((with_reducible refine gate_callee (f := 24) rfl ?_); refine goesL_ (some 90) rfl rfl Tryd.func24 (by kernel_rfl) rfl #[.slice A1_5 l1_5.length c1_5, .func (.func 23) #[] #[.pointer (some ⟨gb116, 0, none⟩)]] rfl qL ?_; (refine (slices_ContainsFunc_int_int.calls (A1_5) (c1_5) l1_5 a0_0 a0_1 a0_2 (A0_3) (c0_3) l0_3 true _ ?side1 ?side2 ?side3 ?side4 A50.out (hbk := ?side98) (gb_ := gb116)).mono ?_); (case side1 => repeat (first | exact (Kd.C_below HR1_5.out HB.out) | (refine Kd.C_alloc ?_ _) | (refine Kd.C_drewN ?_ _) | (refine Kd.C_drew ?_))); (case side2 => exact HC1_5.out); (case side3 => repeat (first | exact (Kd.C_below HR0_3.out HB.out) | (refine Kd.C_alloc ?_ _) | (refine Kd.C_drewN ?_ _) | (refine Kd.C_drew ?_))); (case side4 => exact HC0_3.out); (case side98 => exact qK BK116.out); rintro e w55 ⟨rfl, hb⟩; refine ⟨_, rfl, ?_⟩; replace HO_8 := zA (Kd.R_below (qR HO_8.out) hb); replace HO_70 := zA (Kd.R_below (qR HO_70.out) hb); replace BK116 := qW BK116 hb; replace BK117 := qW BK117 hb; replace HB := qH hb; (try clear hb)))
           go_ret
           exact ⟨qE, qB⟩
          ·replace c51 := Bool.eq_false_iff.mpr c51
           subst c51
           have H1 : (ir_one.l2 k3 t118 y120 (y120.length : Int) 0 a0_0 a0_1 a0_2 l0_3 a1_0 a1_1 a1_2 a1_3 a1_4 l1_5) = some r := by rw [zD (show ¬ (false = true) by decide)] at H; exact H
           clear H
           have H := H1
           clear H1
           have H' := zA H
           clear H
           have hnb56 := NB117_116.out
           have hnc56 := NB116_117.out
           have z57_0 := bk6 BK117.out
           have z58_0 := bk4 BK116.out
           go_wp2_with (first | ((with_reducible refine gate_callee (f := 24) rfl ?_); refine goesL_ (some 90) rfl rfl Tryd.func24 (by kernel_rfl) rfl #[.slice A1_5 l1_5.length c1_5, .func (.func 23) #[] #[.pointer (some ⟨gb116, 0, none⟩)]] rfl qL ?_; (refine (slices_ContainsFunc_int_int.calls (A1_5) (c1_5) l1_5 a0_0 a0_1 a0_2 (A0_3) (c0_3) l0_3 false _ ?side1 ?side2 ?side3 ?side4 A50.out (hbk := ?side98) (gb_ := gb116)).mono ?_); (case side1 => repeat (first | exact (Kd.C_below HR1_5.out HB.out) | (refine Kd.C_alloc ?_ _) | (refine Kd.C_drewN ?_ _) | (refine Kd.C_drew ?_))); (case side2 => exact HC1_5.out); (case side3 => repeat (first | exact (Kd.C_below HR0_3.out HB.out) | (refine Kd.C_alloc ?_ _) | (refine Kd.C_drewN ?_ _) | (refine Kd.C_drew ?_))); (case side4 => exact HC0_3.out); (case side98 => exact qK BK116.out); rintro e w59 ⟨rfl, hb⟩; refine ⟨_, rfl, ?_⟩; replace HO_8 := zA (Kd.R_below (qR HO_8.out) hb); replace HO_70 := zA (Kd.R_below (qR HO_70.out) hb); replace BK116 := qW BK116 hb; replace BK117 := qW BK117 hb; replace HB := qH hb; (try clear hb)))
           go_loopg [93] k3 (fun kq v93 w' => ∃ (x93_4 : Int), v93 = .int .i64 x93_4 ∧ Aside0 (ir_one.l2 kq t118 y120 (y120.length : Int) x93_4 a0_0 a0_1 a0_2 l0_3 a1_0 a1_1 a1_2 a1_3 a1_4 l1_5 = some r) ∧ Aside0 (kq ≤ k3) ∧ Aside0 (Kd.R (Kd.int .i64) 3 w' w.heap.size (fun _ => True) (.slice Ao28 y120.length co28) y120) ∧ Aside0 (w'.heap[gb116]? = some (.cells #[.string a0_0, .int .i64 a0_1, .int .i64 a0_2, (.slice A0_3 l0_3.length c0_3)] 24 (0, 0))) ∧ Aside0 (w'.heap[gb117]? = some (.cells #[.int .i64 a1_0, .int .i64 a1_1, .int .i64 a1_2, .int .i64 a1_3, .string a1_4, (.slice A1_5 l1_5.length c1_5)] 31 (0, 0))) ∧ Aside0 (Below w.heap.size w w'))
           case atStart => exact ⟨(0), qT, H', ⟨Nat.le_refl _⟩, ⟨qR HO_8.out⟩, ⟨qK BK116.out⟩, ⟨qK BK117.out⟩, ⟨qB⟩⟩
           case round =>
            clear H'
            obtain ⟨x93_4, rfl, HA, HK4, HO_91, BK116, BK117, HB⟩ := hrel
            cases gk with
            | zero => exact absurd HA.out (by simp [ir_one.l2])
            | succ k4 =>
             have H := HA.out
             clear HA
             simp only [ir_one.l2] at H
             by_cases c60 : x93_4 < (y120.length : Int)
             ·rw [zC c60] at H
              have c60b0 := zF c60
              clear c60
              by_cases c61 : 0 ≤ x93_4
              ·rw [zC c61] at H
               have c61b0 := zF c61
               clear c61
               by_cases c62 : x93_4 < (y120.length : Int)
               ·rw [zC c62] at H
                have c62b0 := zF c62
                clear c62
                by_cases c63 : x93_4 < (t118.size : Int)
                ·rw [zC c63] at H
                 have c63b0 := zF c63
                 clear c63
                 by_cases c65 : (bt t118 x93_4) = 110
                 ·rw [zC c65] at H
                  obtain ⟨c65b0, c65b1⟩ := qe c65; clear c65
                  by_cases c66 : (rd y120 x93_4) < 0
                  ·rw [zC c66] at H
                   have c66b0 := zF c66
                   clear c66
                   obtain rfl := zI H
                   have p127 : 0 ≤ (x93_4 : Int) := zB qA
                   have q127 : x93_4 < (y120.length : Int) := zB qA
                   obtain ⟨ad127, e127, hx127_0⟩ := Kd.at_int (Kd.R_reads' HO_91.out).2.2 x93_4 p127 q127
                   cases e127
                   replace p127 := eq_true p127
                   replace q127 := eq_true q127
                   have p64 : 0 ≤ (x93_4 : Int) := zB qA
                   have q64 : x93_4 < (t118.size : Int) := zB qA
                   have hx64 := bt_at t118 x93_4
                   replace p64 := eq_true p64
                   replace q64 := eq_true q64
                   go_wp2
                   go_ret
                   exact ⟨qE, qB⟩
                  ·rw [zD c66] at H
                   have c66b0 := zG c66
                   clear c66
                   by_cases c67 : (rd y120 x93_4) ≥ 65536
                   ·rw [zC c67] at H
                    have c67b0 : decide (65536 ≤ (rd y120 x93_4)) = true := zF c67
                    clear c67
                    obtain rfl := zI H
                    have p127 : 0 ≤ (x93_4 : Int) := zB qA
                    have q127 : x93_4 < (y120.length : Int) := zB qA
                    obtain ⟨ad127, e127, hx127_0⟩ := Kd.at_int (Kd.R_reads' HO_91.out).2.2 x93_4 p127 q127
                    cases e127
                    replace p127 := eq_true p127
                    replace q127 := eq_true q127
                    have p64 : 0 ≤ (x93_4 : Int) := zB qA
                    have q64 : x93_4 < (t118.size : Int) := zB qA
                    have hx64 := bt_at t118 x93_4
                    replace p64 := eq_true p64
                    replace q64 := eq_true q64
                    go_wp2
                    go_ret
                    exact ⟨qE, qB⟩
                   ·rw [zD c67] at H
                    have c67b0 : decide (65536 ≤ (rd y120 x93_4)) = false := zG c67
                    clear c67
                    have H' := zA H
                    clear H
                    have p127 : 0 ≤ (x93_4 : Int) := zB qA
                    have q127 : x93_4 < (y120.length : Int) := zB qA
                    obtain ⟨ad127, e127, hx127_0⟩ := Kd.at_int (Kd.R_reads' HO_91.out).2.2 x93_4 p127 q127
                    cases e127
                    replace p127 := eq_true p127
                    replace q127 := eq_true q127
                    have p64 : 0 ≤ (x93_4 : Int) := zB qA
                    have q64 : x93_4 < (t118.size : Int) := zB qA
                    have hx64 := bt_at t118 x93_4
                    replace p64 := eq_true p64
                    replace q64 := eq_true q64
                    go_wp2
                    go_roundg k4
                    case measure => have := HJ4.out; have := HK2.out; have := HK3.out; have := HK4.out; omega
                    case rel => exact ⟨(wrap64 (x93_4 + 1)), qT, H', ⟨by have := HJ4.out; have := HK2.out; have := HK3.out; have := HK4.out; omega⟩, ⟨qR HO_91.out⟩, ⟨qK BK116.out⟩, ⟨qK BK117.out⟩, ⟨qB⟩⟩
                 ·rw [zD c65] at H
                  obtain ⟨c65b0, c65b1⟩ := qn c65
                  have H' := zA H
                  clear H
                  have p127 : 0 ≤ (x93_4 : Int) := zB qA
                  have q127 : x93_4 < (y120.length : Int) := zB qA
                  obtain ⟨ad127, e127, hx127_0⟩ := Kd.at_int (Kd.R_reads' HO_91.out).2.2 x93_4 p127 q127
                  cases e127
                  replace p127 := eq_true p127
                  replace q127 := eq_true q127
                  have p64 : 0 ≤ (x93_4 : Int) := zB qA
                  have q64 : x93_4 < (t118.size : Int) := zB qA
                  have hx64 := bt_at t118 x93_4
                  replace p64 := eq_true p64
                  replace q64 := eq_true q64
                  go_wp2
                  go_roundg k4
                  case measure => have := HJ4.out; have := HK2.out; have := HK3.out; have := HK4.out; omega
                  case rel => exact ⟨(wrap64 (x93_4 + 1)), qT, H', ⟨by have := HJ4.out; have := HK2.out; have := HK3.out; have := HK4.out; omega⟩, ⟨qR HO_91.out⟩, ⟨qK BK116.out⟩, ⟨qK BK117.out⟩, ⟨qB⟩⟩
                ·rw [zD c63] at H
                 exact absurd H (by simp)
               ·rw [zD c62] at H
                exact absurd H (by simp)
              ·rw [zD c61] at H
               exact absurd H (by simp)
             ·rw [zD c60] at H
              have c60b0 := zG c60
              clear c60
              replace H := qb H; obtain ⟨t128, A68, H⟩ := H
              have H' := zA H
              clear H
              have hnb69 := NB117_116.out
              have hnc69 := NB116_117.out
              have z70_0 := bk6 BK117.out
              go_wp2_with (first | ((with_reducible refine gate_callee (f := 25) rfl ?_); refine goesL_ (some 112) rfl rfl Tryd.func25 (by kernel_rfl) rfl #[.agg #[.int .i64 a1_0, .int .i64 a1_1, .int .i64 a1_2, .int .i64 a1_3, .string a1_4, .slice A1_5 l1_5.length c1_5]] rfl qL ?_; (with_reducible refine (ir_Targets.calls a1_0 a1_1 a1_2 a1_3 a1_4 _ _ l1_5 t128 _ ?side1 ?side2 A68.out).mono ?_); (case side1 => exact qCB HR1_5.out); (case side2 => exact HC1_5.out); rintro e w71 ⟨v129, rfl, ho0, hb⟩; refine ⟨_, rfl, ?_⟩; have HO130 := zA (Kd.R_lower (Kd.R_new' ho0 (Kd.R_lt (qR HO_91.out))) (below_size qB)); replace HO_91 := zA (Kd.R_elder' (qR HO_91.out) (Kd.R_base ho0) hb); replace BK116 := qW BK116 hb; replace BK117 := qW BK117 hb; replace HB := qH hb; (try clear hb); (try clear ho0); obtain ⟨Ao72, co72, eo72⟩ := Kd.R_slice HO130.out; subst eo72))
              go_loopg [114] k4 (fun kq v114 w' => ∃ (x114_5 : Int), v114 = .int .i64 x114_5 ∧ Aside0 (ir_one.l3 kq t128 (t128.length : Int) x114_5 a0_0 a0_1 a0_2 l0_3 a1_0 a1_1 a1_2 a1_3 a1_4 l1_5 = some r) ∧ Aside0 (kq ≤ k4) ∧ Aside0 (Kd.R (Kd.int .i64) 3 w' w.heap.size (fun _ => True) (.slice Ao72 t128.length co72) t128) ∧ Aside0 (w'.heap[gb116]? = some (.cells #[.string a0_0, .int .i64 a0_1, .int .i64 a0_2, (.slice A0_3 l0_3.length c0_3)] 24 (0, 0))) ∧ Aside0 (w'.heap[gb117]? = some (.cells #[.int .i64 a1_0, .int .i64 a1_1, .int .i64 a1_2, .int .i64 a1_3, .string a1_4, (.slice A1_5 l1_5.length c1_5)] 31 (0, 0))) ∧ Aside0 (Below w.heap.size w w'))
              case atStart => exact ⟨(0), qT, H', ⟨Nat.le_refl _⟩, ⟨by (with_reducible repeat (first | apply Kd.R_alloc | apply Kd.R_drewN | apply Kd.R_drew)); exact Kd.R_mono HO130.out (fun _ hk => trivial)⟩, ⟨qK BK116.out⟩, ⟨qK BK117.out⟩, ⟨qB⟩⟩
              case round =>
               clear H'
               obtain ⟨x114_5, rfl, HA, HK5, HO_112, BK116, BK117, HB⟩ := hrel
               cases gk with
               | zero => exact absurd HA.out (by simp [ir_one.l3])
               | succ k5 =>
                have H := HA.out
                clear HA
                simp only [ir_one.l3] at H
                by_cases c73 : x114_5 < (t128.length : Int)
                ·rw [zC c73] at H
                 have c73b0 := zF c73
                 clear c73
                 by_cases c74 : 0 ≤ x114_5
                 ·rw [zC c74] at H
                  have c74b0 := zF c74
                  clear c74
                  by_cases c75 : x114_5 < (t128.length : Int)
                  ·rw [zC c75] at H
                   have c75b0 := zF c75
                   clear c75
                   by_cases c76 : (rd t128 x114_5) < 0
                   ·rw [zC c76] at H
                    have c76b0 := zF c76
                    clear c76
                    obtain rfl := zI H
                    have p131 : 0 ≤ (x114_5 : Int) := zB qA
                    have q131 : x114_5 < (t128.length : Int) := zB qA
                    obtain ⟨ad131, e131, hx131_0⟩ := Kd.at_int (Kd.R_reads' HO_112.out).2.2 x114_5 p131 q131
                    cases e131
                    replace p131 := eq_true p131
                    replace q131 := eq_true q131
                    go_wp2
                    go_ret
                    exact ⟨qE, qB⟩
                   ·rw [zD c76] at H
                    have c76b0 := zG c76
                    clear c76
                    by_cases c77 : (rd t128 x114_5) ≥ (l0_3.length : Int)
                    ·rw [zC c77] at H
                     have c77b0 : decide ((l0_3.length : Int) ≤ (rd t128 x114_5)) = true := zF c77
                     clear c77
                     obtain rfl := zI H
                     have p131 : 0 ≤ (x114_5 : Int) := zB qA
                     have q131 : x114_5 < (t128.length : Int) := zB qA
                     obtain ⟨ad131, e131, hx131_0⟩ := Kd.at_int (Kd.R_reads' HO_112.out).2.2 x114_5 p131 q131
                     cases e131
                     replace p131 := eq_true p131
                     replace q131 := eq_true q131
                     have hnb78 := NB116_117.out
                     have hnc78 := NB117_116.out
                     have z79_0 := bk4 BK116.out
                     go_wp2
                     go_ret
                     exact ⟨qE, qB⟩
                    ·rw [zD c77] at H
                     have c77b0 : decide ((l0_3.length : Int) ≤ (rd t128 x114_5)) = false := zG c77
                     clear c77
                     have H' := zA H
                     clear H
                     have p131 : 0 ≤ (x114_5 : Int) := zB qA
                     have q131 : x114_5 < (t128.length : Int) := zB qA
                     obtain ⟨ad131, e131, hx131_0⟩ := Kd.at_int (Kd.R_reads' HO_112.out).2.2 x114_5 p131 q131
                     cases e131
                     replace p131 := eq_true p131
                     replace q131 := eq_true q131
                     have hnb80 := NB116_117.out
                     have hnc80 := NB117_116.out
                     have z81_0 := bk4 BK116.out
                     go_wp2
                     go_roundg k5
                     case measure => have := HJ4.out; have := HK2.out; have := HK3.out; have := HK4.out; have := HK5.out; omega
                     case rel => exact ⟨(wrap64 (x114_5 + 1)), qT, H', ⟨by have := HJ4.out; have := HK2.out; have := HK3.out; have := HK4.out; have := HK5.out; omega⟩, ⟨qR HO_112.out⟩, ⟨qK BK116.out⟩, ⟨qK BK117.out⟩, ⟨qB⟩⟩
                  ·rw [zD c75] at H
                   exact absurd H (by simp)
                 ·rw [zD c74] at H
                  exact absurd H (by simp)
                ·rw [zD c73] at H
                 have c73b0 := zG c73
                 clear c73
                 have HC82 := zA H
                 clear H
                 go_upto_region 32 with (fail)
                 go_cut [128] (fun v128 wc => ∃ (kq : Nat) (x128_81 : Bool), v128 = .bool x128_81 ∧ Aside0 (ir_one.j5 kq x128_81 a1_0 a1_1 a1_2 a1_3 a1_4 l1_5 = some r) ∧ Aside0 (kq ≤ k5) ∧ Aside0 (wc.heap[gb116]? = some (.cells #[.string a0_0, .int .i64 a0_1, .int .i64 a0_2, (.slice A0_3 l0_3.length c0_3)] 24 (0, 0))) ∧ Aside0 (wc.heap[gb117]? = some (.cells #[.int .i64 a1_0, .int .i64 a1_1, .int .i64 a1_2, .int .i64 a1_3, .string a1_4, (.slice A1_5 l1_5.length c1_5)] 31 (0, 0))) ∧ Aside0 (Below w.heap.size w wc))
                 case first =>
                  have H := HC82.out
                  clear HC82
                  by_cases c83 : a1_0 = 11
                  ·rw [zC c83] at H
                   obtain ⟨c83b0, c83b1⟩ := qe c83; clear c83
                   (first | rw [c83b0] | (simp only [i64_w, i32_w]; rw [c83b0]) | skip)
                   replace H := qb H; obtain ⟨t132, A84, H⟩ := H
                   have H' := zA H
                   clear H
                   have hnb85 := NB117_116.out
                   have hnc85 := NB116_117.out
                   have z86_0 := bk6 BK117.out
                   go_wp2_with (first | (go_at_call 11; (with_reducible refine (ir_Name.calls a1_4 t132 _ A84.out).mono ?_); (try clear A84); rintro e w87 ⟨rfl, hb⟩; replace HO_112 := zA (Kd.R_below (qR HO_112.out) hb); replace BK116 := qW BK116 hb; replace BK117 := qW BK117 hb; replace HB := qH hb; (try clear hb)))
                   go_meet
                   case rel => exact ⟨_, (!t132), qT, H', ⟨by have := HJ4.out; have := HK2.out; have := HK3.out; have := HK4.out; have := HK5.out; first | omega | exact Nat.le_refl _⟩, ⟨qK BK116.out⟩, ⟨qK BK117.out⟩, ⟨qB⟩⟩
                  ·rw [zD c83] at H
                   obtain ⟨c83b0, c83b1⟩ := qn c83
                   (first | rw [c83b0] | (simp only [i64_w, i32_w]; rw [c83b0]) | skip)
                   have H' := zA H
                   clear H
                   have hnb88 := NB117_116.out
                   have hnc88 := NB116_117.out
                   have z89_0 := bk6 BK117.out
                   go_wp2
                   go_meet
                   case rel => exact ⟨_, (false), qT, H', ⟨by have := HJ4.out; have := HK2.out; have := HK3.out; have := HK4.out; have := HK5.out; first | omega | exact Nat.le_refl _⟩, ⟨qK BK116.out⟩, ⟨qK BK117.out⟩, ⟨qB⟩⟩
                 case rest =>
                  clear HC82
                  obtain ⟨kq, x128_81, rfl, HA, HJ81, BK116, BK117, HB⟩ := hcut
                  cases kq with
                  | zero => exact absurd HA.out (by simp [ir_one.j5])
                  | succ kj81 =>
                   have H := HA.out
                   clear HA
                   simp only [ir_one.j5] at H
                   by_cases c90 : x128_81 = true
                   ·subst c90
                    have H1 : (some 70) = some r := by rw [zC rfl] at H; exact H
                    clear H
                    have H := H1
                    clear H1
                    obtain rfl := zI H
                    go_wp2
                    go_ret
                    exact ⟨qE, qB⟩
                   ·replace c90 := Bool.eq_false_iff.mpr c90
                    subst c90
                    have H1 : (if (l1_5.length : Int) > 4 then (some 192) else (some 0)) = some r := by rw [zD (show ¬ (false = true) by decide)] at H; exact H
                    clear H
                    have H := H1
                    clear H1
                    by_cases c91 : (l1_5.length : Int) > 4
                    ·rw [zC c91] at H
                     have c91b0 : decide (4 < (l1_5.length : Int)) = true := zF c91
                     have c91b1 : decide (4 < l1_5.length) = true := zF (by omega)
                     clear c91
                     obtain rfl := zI H
                     have hnb92 := NB117_116.out
                     have hnc92 := NB116_117.out
                     have z93_0 := bk6 BK117.out
                     go_wp2
                     go_ret
                     exact ⟨qE, qB⟩
                    ·rw [zD c91] at H
                     have c91b0 : decide (4 < (l1_5.length : Int)) = false := zG c91
                     have c91b1 : decide (4 < l1_5.length) = false := zG (by omega)
                     clear c91
                     obtain rfl := zI H
                     have hnb94 := NB117_116.out
                     have hnc94 := NB116_117.out
                     have z95_0 := bk6 BK117.out
                     go_wp2
                     go_ret
                     exact ⟨qE, qB⟩

mutual
def ir_Check.j0 : Nat → Bool → ByteArray → Int → Int → List (List (SIns)) → Option (Int)
 | 0, _, _, _, _, _ => none
 | k + 1, x46, x134000, x134001, x134002, x134003 => if x46 = true then (some 71) else (ir_Check.l0 k 200 x134003 (x134003.length : Int) 0 x134000 x134001 x134002 x134003)
def ir_Check.l0 : Nat → Int → List (List (SIns)) → Int → Int → ByteArray → Int → Int → List (List (SIns)) → Option (Int)
 | 0, _, _, _, _, _, _, _, _ => none
 | k + 1, x3, x48, x49, x50, x134000, x134001, x134002, x134003 => if x50 < x49 then (if 0 ≤ x50 then (if x50 < (x48.length : Int) then (if ((rd_LIns x48 x50).length : Int) = 0 then (some 71) else (if ((rd_LIns x48 x50).length : Int) > x3 then (some 71) else (ir_Check.l0 k (wrap64 (x3 - ((rd_LIns x48 x50).length : Int))) x48 x49 (wrap64 (x50 + 1)) x134000 x134001 x134002 x134003))) else (none)) else (none)) else (ir_Check.l1 k x134003 (x134003.length : Int) 0 x134000 x134001 x134002 x134003)
def ir_Check.l1 : Nat → List (List (SIns)) → Int → Int → ByteArray → Int → Int → List (List (SIns)) → Option (Int)
 | 0, _, _, _, _, _, _, _ => none
 | k + 1, x69, x70, x71, x134000, x134001, x134002, x134003 => if x71 < x70 then (if 0 ≤ x71 then (if x71 < (x69.length : Int) then (ir_Check.l2 k (rd_LIns x69 x71) x69 x70 x71 (rd_LIns x69 x71) ((rd_LIns x69 x71).length : Int) 0 x134000 x134001 x134002 x134003) else (none)) else (none)) else (some 0)
def ir_Check.l2 : Nat → List (SIns) → List (List (SIns)) → Int → Int → List (SIns) → Int → Int → ByteArray → Int → Int → List (List (SIns)) → Option (Int)
 | 0, _, _, _, _, _, _, _, _, _, _, _ => none
 | k + 1, x7, x69, x70, x71, x75, x76, x77, x134000, x134001, x134002, x134003 => if x77 < x76 then (if 0 ≤ x77 then (if x77 < (x75.length : Int) then ((ir_one.f k x134000 x134001 x134002 x134003 ((rd_TIns x75 x77).f0) ((rd_TIns x75 x77).f1) ((rd_TIns x75 x77).f2) ((rd_TIns x75 x77).f3) ((rd_TIns x75 x77).f4) ((rd_TIns x75 x77).f5) (x77 == (wrap64 ((x7.length : Int) - 1)))).bind fun t139 => (if t139 = 0 then (ir_Check.l2 k x7 x69 x70 x71 x75 x76 (wrap64 (x77 + 1)) x134000 x134001 x134002 x134003) else (some t139))) else (none)) else (none)) else (ir_Check.l1 k x69 x70 (wrap64 (x71 + 1)) x134000 x134001 x134002 x134003)
end
def ir_Check.f (k : Nat) (a0_0 : ByteArray) (a0_1 : Int) (a0_2 : Int) (l0_3 : List (List (SIns))) : Option (Int) := (ir_Name.f a0_0).bind fun t134 => (if t134 = true then (if a0_1 < 0 then (ir_Check.j0 k true a0_0 a0_1 a0_2 l0_3) else (if a0_1 > 4 then (ir_Check.j0 k true a0_0 a0_1 a0_2 l0_3) else (if a0_2 < a0_1 then (ir_Check.j0 k true a0_0 a0_1 a0_2 l0_3) else (if a0_2 > 64 then (ir_Check.j0 k true a0_0 a0_1 a0_2 l0_3) else (if (l0_3.length : Int) < 1 then (ir_Check.j0 k true a0_0 a0_1 a0_2 l0_3) else (ir_Check.j0 k (decide ((l0_3.length : Int) > 32)) a0_0 a0_1 a0_2 l0_3)))))) else (some 70))
set_option maxHeartbeats 8000000 in
set_option maxRecDepth 100000 in
theorem ir_Check.calls (k : Nat) (a0_0 : ByteArray) (a0_1 : Int) (a0_2 : Int) (A0_3 : Option Addr) (c0_3 : Nat) (l0_3 : List (List (SIns))) (r : Int) (w : World) (hL : LaidW w) (hr0_3 : Kd.C (Kd.slice 31 kIns) w A0_3 l0_3.length l0_3) (hc0_3 : l0_3.length ≤ c0_3) (h : ir_Check.f k a0_0 a0_1 a0_2 l0_3 = some r) :
 Calls Tryd.prog 6 #[.agg #[.string a0_0, .int .i64 a0_1, .int .i64 a0_2, .slice A0_3 l0_3.length c0_3]] w fun e w' => e = .returned (.int .i64 r) ∧ Below w.heap.size w w' := by
 have hu24 := Tryd.underlying24
 have hu31 := Tryd.underlying31
 have HR0_3 := zA hr0_3
 have HC0_3 := zA hc0_3
 clear hr0_3 hc0_3
 have HB := zA (Below.refl w.heap.size w)
 have HLd := zA hL
 clear hL
 have H := h; clear h; unfold ir_Check.f at H
 replace H := qb H; obtain ⟨t134, A2, H⟩ := H
 by_cases c3 : t134 = true
 ·subst c3
  have H1 : (if a0_1 < 0 then (ir_Check.j0 k true a0_0 a0_1 a0_2 l0_3) else (if a0_1 > 4 then (ir_Check.j0 k true a0_0 a0_1 a0_2 l0_3) else (if a0_2 < a0_1 then (ir_Check.j0 k true a0_0 a0_1 a0_2 l0_3) else (if a0_2 > 64 then (ir_Check.j0 k true a0_0 a0_1 a0_2 l0_3) else (if (l0_3.length : Int) < 1 then (ir_Check.j0 k true a0_0 a0_1 a0_2 l0_3) else (ir_Check.j0 k (decide ((l0_3.length : Int) > 32)) a0_0 a0_1 a0_2 l0_3)))))) = some r := by rw [zC rfl] at H; exact H
  clear H
  have H := H1
  clear H1
  have HC4 := zA H
  clear H
  go_enter Tryd.func6, Tryd.ntmps6
  go_upto_region 3 with (first | ((with_reducible refine gate_dst (N := 1) rfl ?_); (try (refine gate_guard (by rfl) ?_; dsimp only)); refine box_event (by rfl) (N := 1) (by rfl) (cs := #[.string a0_0, .int .i64 a0_1, .int .i64 a0_2, .slice A0_3 l0_3.length c0_3]) (t := 24) ?hr ?_; (case hr => go_simp <;> rfl); intro gb133 hg w5 hbox hb; have BK133 := zA (hbox); have GW133 := qG hg; have GE133 := GW133; replace HB := qH hb; clear hb hbox hg; have z6_0 := bk4 BK133.out) | ((with_reducible refine gate_callee (f := 11) rfl ?_); refine goesL_ (some 13) rfl rfl Tryd.func11 (by kernel_rfl) rfl #[.string a0_0] rfl qL ?_; (with_reducible refine (ir_Name.calls a0_0 true _ A2.out).mono ?_); rintro e w7 ⟨rfl, hb⟩; refine ⟨_, rfl, ?_⟩; replace BK133 := qW BK133 hb; replace HB := qH hb; (try clear hb)))
  (try simp only [Act.put, List.setIfInBounds_toArray, List.set_cons_zero, List.set_cons_succ])
  go_cut [46] (fun v46 wc => ∃ (kq : Nat) (x46_3 : Bool), v46 = .bool x46_3 ∧ Aside0 (ir_Check.j0 kq x46_3 a0_0 a0_1 a0_2 l0_3 = some r) ∧ Aside0 (kq ≤ k) ∧ Aside0 (wc.heap[gb133]? = some (.cells #[.string a0_0, .int .i64 a0_1, .int .i64 a0_2, (.slice A0_3 l0_3.length c0_3)] 24 (0, 0))) ∧ Aside0 (Below w.heap.size w wc))
  case first =>
   have H := HC4.out
   clear HC4
   by_cases c8 : a0_1 < 0
   ·rw [zC c8] at H
    have c8b0 := zF c8
    clear c8
    (first | rw [c8b0] | (simp only [i64_w, i32_w]; rw [c8b0]) | skip)
    have H' := zA H
    clear H
    have z9_0 := bk4 BK133.out
    go_wp2
    go_meet
    case rel => exact ⟨_, (true), qT, H', ⟨qO⟩, ⟨qK BK133.out⟩, ⟨qB⟩⟩
   ·rw [zD c8] at H
    have c8b0 := zG c8
    clear c8
    (first | rw [c8b0] | (simp only [i64_w, i32_w]; rw [c8b0]) | skip)
    by_cases c10 : a0_1 > 4
    ·rw [zC c10] at H
     have c10b0 : decide (4 < a0_1) = true := zF c10
     clear c10
     have H' := zA H
     clear H
     have z11_0 := bk4 BK133.out
     go_wp2
     go_meet
     case rel => exact ⟨_, (true), qT, H', ⟨qO⟩, ⟨qK BK133.out⟩, ⟨qB⟩⟩
    ·rw [zD c10] at H
     have c10b0 : decide (4 < a0_1) = false := zG c10
     clear c10
     by_cases c12 : a0_2 < a0_1
     ·rw [zC c12] at H
      have c12b0 := zF c12
      clear c12
      have H' := zA H
      clear H
      have z13_0 := bk4 BK133.out
      go_wp2
      go_meet
      case rel => exact ⟨_, (true), qT, H', ⟨qO⟩, ⟨qK BK133.out⟩, ⟨qB⟩⟩
     ·rw [zD c12] at H
      have c12b0 := zG c12
      clear c12
      by_cases c14 : a0_2 > 64
      ·rw [zC c14] at H
       have c14b0 : decide (64 < a0_2) = true := zF c14
       clear c14
       have H' := zA H
       clear H
       have z15_0 := bk4 BK133.out
       go_wp2
       go_meet
       case rel => exact ⟨_, (true), qT, H', ⟨qO⟩, ⟨qK BK133.out⟩, ⟨qB⟩⟩
      ·rw [zD c14] at H
       have c14b0 : decide (64 < a0_2) = false := zG c14
       clear c14
       by_cases c16 : (l0_3.length : Int) < 1
       ·rw [zC c16] at H
        have c16b0 := zF c16
        have c16b1 : decide (l0_3.length < 1) = true := zF (by omega)
        clear c16
        have H' := zA H
        clear H
        have z17_0 := bk4 BK133.out
        go_wp2
        go_meet
        case rel => exact ⟨_, (true), qT, H', ⟨qO⟩, ⟨qK BK133.out⟩, ⟨qB⟩⟩
       ·rw [zD c16] at H
        have c16b0 := zG c16
        have c16b1 : decide (l0_3.length < 1) = false := zG (by omega)
        clear c16
        have H' := zA H
        clear H
        have z18_0 := bk4 BK133.out
        go_wp2
        go_meet
        case rel => exact ⟨_, (decide ((l0_3.length : Int) > 32)), qT, H', ⟨qO⟩, ⟨qK BK133.out⟩, ⟨qB⟩⟩
  case rest =>
   clear HC4
   obtain ⟨kq, x46_3, rfl, HA, HJ3, BK133, HB⟩ := hcut
   cases kq with
   | zero => exact absurd HA.out (by simp [ir_Check.j0])
   | succ kj3 =>
    have H := HA.out
    clear HA
    simp only [ir_Check.j0] at H
    by_cases c19 : x46_3 = true
    ·subst c19
     have H1 : (some 71) = some r := by rw [zC rfl] at H; exact H
     clear H
     have H := H1
     clear H1
     obtain rfl := zI H
     go_wp2
     go_ret
     exact ⟨qE, qB⟩
    ·replace c19 := Bool.eq_false_iff.mpr c19
     subst c19
     have H1 : (ir_Check.l0 kj3 200 l0_3 (l0_3.length : Int) 0 a0_0 a0_1 a0_2 l0_3) = some r := by rw [zD (show ¬ (false = true) by decide)] at H; exact H
     clear H
     have H := H1
     clear H1
     have H' := zA H
     clear H
     have z20_0 := bk4 BK133.out
     go_wp2
     go_loopg [3, 50] kj3 (fun kq v3 v50 w' => ∃ (x3_2 : Int) (x50_2 : Int), v3 = .int .i64 x3_2 ∧ v50 = .int .i64 x50_2 ∧ Aside0 (ir_Check.l0 kq x3_2 l0_3 (l0_3.length : Int) x50_2 a0_0 a0_1 a0_2 l0_3 = some r) ∧ Aside0 (kq ≤ kj3) ∧ Aside0 (w'.heap[gb133]? = some (.cells #[.string a0_0, .int .i64 a0_1, .int .i64 a0_2, (.slice A0_3 l0_3.length c0_3)] 24 (0, 0))) ∧ Aside0 (Below w.heap.size w w'))
     case atStart => exact ⟨(200), (0), qT, qT, H', ⟨Nat.le_refl _⟩, ⟨qK BK133.out⟩, ⟨qB⟩⟩
     case round =>
      clear H'
      obtain ⟨x3_2, x50_2, rfl, rfl, HA, HK2, BK133, HB⟩ := hrel
      cases gk with
      | zero => exact absurd HA.out (by simp [ir_Check.l0])
      | succ k2 =>
       have H := HA.out
       clear HA
       simp only [ir_Check.l0] at H
       by_cases c21 : x50_2 < (l0_3.length : Int)
       ·rw [zC c21] at H
        have c21b0 := zF c21
        clear c21
        by_cases c22 : 0 ≤ x50_2
        ·rw [zC c22] at H
         have c22b0 := zF c22
         clear c22
         by_cases c23 : x50_2 < (l0_3.length : Int)
         ·rw [zC c23] at H
          have c23b0 := zF c23
          clear c23
          by_cases c24 : ((rd_LIns l0_3 x50_2).length : Int) = 0
          ·rw [zC c24] at H
           obtain ⟨c24b0, c24b1⟩ := qe c24; clear c24
           obtain rfl := zI H
           have p135 : 0 ≤ (x50_2 : Int) := zB qA
           have q135 : x50_2 < (l0_3.length : Int) := zB qA
           obtain ⟨ad135, A135_0, c135_0, e135, hx135_0, hl135_0, hi135_0⟩ := at_LIns HR0_3.out x50_2 p135 q135
           cases e135
           replace hx135_0 := (HB.out.cell (zE w _ hx135_0)).trans hx135_0
           have HR135_0 := zA hi135_0
           have HC135_0 := zA hl135_0
           clear hi135_0 hl135_0
           replace p135 := eq_true p135
           replace q135 := eq_true q135
           go_wp2
           go_ret
           exact ⟨qE, qB⟩
          ·rw [zD c24] at H
           obtain ⟨c24b0, c24b1⟩ := qn c24
           have c24b2 : ¬ ((rd_LIns l0_3 x50_2) = []) := fun h_ => c24 (by rw [h_]; rfl)
           by_cases c25 : ((rd_LIns l0_3 x50_2).length : Int) > x3_2
           ·rw [zC c25] at H
            have c25b0 : decide (x3_2 < ((rd_LIns l0_3 x50_2).length : Int)) = true := zF c25
            clear c25
            obtain rfl := zI H
            have p135 : 0 ≤ (x50_2 : Int) := zB qA
            have q135 : x50_2 < (l0_3.length : Int) := zB qA
            obtain ⟨ad135, A135_0, c135_0, e135, hx135_0, hl135_0, hi135_0⟩ := at_LIns HR0_3.out x50_2 p135 q135
            cases e135
            replace hx135_0 := (HB.out.cell (zE w _ hx135_0)).trans hx135_0
            have HR135_0 := zA hi135_0
            have HC135_0 := zA hl135_0
            clear hi135_0 hl135_0
            replace p135 := eq_true p135
            replace q135 := eq_true q135
            go_wp2
            go_ret
            exact ⟨qE, qB⟩
           ·rw [zD c25] at H
            have c25b0 : decide (x3_2 < ((rd_LIns l0_3 x50_2).length : Int)) = false := zG c25
            clear c25
            have H' := zA H
            clear H
            have p135 : 0 ≤ (x50_2 : Int) := zB qA
            have q135 : x50_2 < (l0_3.length : Int) := zB qA
            obtain ⟨ad135, A135_0, c135_0, e135, hx135_0, hl135_0, hi135_0⟩ := at_LIns HR0_3.out x50_2 p135 q135
            cases e135
            replace hx135_0 := (HB.out.cell (zE w _ hx135_0)).trans hx135_0
            have HR135_0 := zA hi135_0
            have HC135_0 := zA hl135_0
            clear hi135_0 hl135_0
            replace p135 := eq_true p135
            replace q135 := eq_true q135
            go_wp2
            go_roundg k2
            case measure => have := HJ3.out; have := HK2.out; omega
            case rel => exact ⟨(wrap64 (x3_2 - ((rd_LIns l0_3 x50_2).length : Int))), (wrap64 (x50_2 + 1)), qT, qT, H', ⟨by have := HJ3.out; have := HK2.out; omega⟩, ⟨qK BK133.out⟩, ⟨qB⟩⟩
         ·rw [zD c23] at H
          exact absurd H (by simp)
        ·rw [zD c22] at H
         exact absurd H (by simp)
       ·rw [zD c21] at H
        have c21b0 := zG c21
        clear c21
        have H' := zA H
        clear H
        have z26_0 := bk4 BK133.out
        go_wp2
        go_loopg [71] k2 (fun kq v71 w' => ∃ (x71_3 : Int), v71 = .int .i64 x71_3 ∧ Aside0 (ir_Check.l1 kq l0_3 (l0_3.length : Int) x71_3 a0_0 a0_1 a0_2 l0_3 = some r) ∧ Aside0 (kq ≤ k2) ∧ Aside0 (w'.heap[gb133]? = some (.cells #[.string a0_0, .int .i64 a0_1, .int .i64 a0_2, (.slice A0_3 l0_3.length c0_3)] 24 (0, 0))) ∧ Aside0 (Below w.heap.size w w'))
        case atStart => exact ⟨(0), qT, H', ⟨Nat.le_refl _⟩, ⟨qK BK133.out⟩, ⟨qB⟩⟩
        case round =>
         clear H'
         obtain ⟨x71_3, rfl, HA, HK3, BK133, HB⟩ := hrel
         cases gk with
         | zero => exact absurd HA.out (by simp [ir_Check.l1])
         | succ k3 =>
          have H := HA.out
          clear HA
          simp only [ir_Check.l1] at H
          by_cases c27 : x71_3 < (l0_3.length : Int)
          ·rw [zC c27] at H
           have c27b0 := zF c27
           clear c27
           by_cases c28 : 0 ≤ x71_3
           ·rw [zC c28] at H
            have c28b0 := zF c28
            clear c28
            by_cases c29 : x71_3 < (l0_3.length : Int)
            ·rw [zC c29] at H
             have c29b0 := zF c29
             clear c29
             have H' := zA H
             clear H
             have p136 : 0 ≤ (x71_3 : Int) := zB qA
             have q136 : x71_3 < (l0_3.length : Int) := zB qA
             obtain ⟨ad136, A136_0, c136_0, e136, hx136_0, hl136_0, hi136_0⟩ := at_LIns HR0_3.out x71_3 p136 q136
             cases e136
             replace hx136_0 := (HB.out.cell (zE w _ hx136_0)).trans hx136_0
             have HR136_0 := zA hi136_0
             have HC136_0 := zA hl136_0
             clear hi136_0 hl136_0
             replace p136 := eq_true p136
             replace q136 := eq_true q136
             go_wp2
             go_loopg [77] k3 (fun kq v77 w' => ∃ (x77_4 : Int), v77 = .int .i64 x77_4 ∧ Aside0 (ir_Check.l2 kq (rd_LIns l0_3 x71_3) l0_3 (l0_3.length : Int) x71_3 (rd_LIns l0_3 x71_3) ((rd_LIns l0_3 x71_3).length : Int) x77_4 a0_0 a0_1 a0_2 l0_3 = some r) ∧ Aside0 (kq ≤ k3) ∧ Aside0 (w'.heap[gb133]? = some (.cells #[.string a0_0, .int .i64 a0_1, .int .i64 a0_2, (.slice (some ad136) l0_3.length c0_3)] 24 (0, 0))) ∧ Aside0 (Below w.heap.size w w'))
             case atStart => exact ⟨(0), qT, H', ⟨Nat.le_refl _⟩, ⟨qK BK133.out⟩, ⟨qB⟩⟩
             case round =>
              clear H'
              obtain ⟨x77_4, rfl, HA, HK4, BK133, HB⟩ := hrel
              cases gk with
              | zero => exact absurd HA.out (by simp [ir_Check.l2])
              | succ k4 =>
               have H := HA.out
               clear HA
               simp only [ir_Check.l2] at H
               by_cases c30 : x77_4 < ((rd_LIns l0_3 x71_3).length : Int)
               ·rw [zC c30] at H
                have c30b0 := zF c30
                clear c30
                by_cases c31 : 0 ≤ x77_4
                ·rw [zC c31] at H
                 have c31b0 := zF c31
                 clear c31
                 by_cases c32 : x77_4 < ((rd_LIns l0_3 x71_3).length : Int)
                 ·rw [zC c32] at H
                  have c32b0 := zF c32
                  clear c32
                  replace H := qb H; obtain ⟨t139, A33, H⟩ := H
                  by_cases c34 : t139 = 0
                  ·rw [zC c34] at H
                   obtain ⟨c34b0, c34b1⟩ := qe c34; clear c34
                   have H' := zA H
                   clear H
                   have p137 : 0 ≤ (x77_4 : Int) := zB qA
                   have q137 : x77_4 < ((rd_LIns l0_3 x71_3).length : Int) := zB qA
                   obtain ⟨ad137, A137_5, c137_5, e137, hx137_0, hx137_1, hx137_2, hx137_3, hx137_4, hx137_5, hl137_5, hi137_5⟩ := at_TIns HR136_0.out x77_4 p137 q137
                   cases e137
                   replace hx137_0 := (HB.out.cell (zE w _ hx137_0)).trans hx137_0
                   replace hx137_1 := (HB.out.cell (zE w _ hx137_1)).trans hx137_1
                   replace hx137_2 := (HB.out.cell (zE w _ hx137_2)).trans hx137_2
                   replace hx137_3 := (HB.out.cell (zE w _ hx137_3)).trans hx137_3
                   replace hx137_4 := (HB.out.cell (zE w _ hx137_4)).trans hx137_4
                   replace hx137_5 := (HB.out.cell (zE w _ hx137_5)).trans hx137_5
                   have HR137_5 := zA hi137_5
                   have HC137_5 := zA hl137_5
                   clear hi137_5 hl137_5
                   replace p137 := eq_true p137
                   replace q137 := eq_true q137
                   go_wp2_with (first | ((with_reducible refine gate_dst (N := 9) rfl ?_); (try (refine gate_guard (by rfl) ?_; dsimp only)); refine box_event (by rfl) (N := 9) (by rfl) (cs := #[.int .i64 0, .int .i64 0, .int .i64 0, .int .i64 0, .string (⟨#[]⟩ : ByteArray), .slice none 0 0]) (t := 31) ?hr ?_; (case hr => go_simp <;> rfl); intro gb138 hg w35 hbox hb; have BK138 := zA (hbox); have GW138 := qG hg; have GE138 := GW138; replace HB := qH hb; have NB133_138 := zA ((by rw [hg]; exact Nat.ne_of_lt (blk_lt (g := gb133) (o := .cells #[.string a0_0, .int .i64 a0_1, .int .i64 a0_2, .slice (some ad136) l0_3.length c0_3] 24 (0, 0)) (qK BK133.out)) : gb133 ≠ gb138)); have NB138_133 := zA ((by rw [hg]; exact Nat.ne_of_gt (blk_lt (g := gb133) (o := .cells #[.string a0_0, .int .i64 a0_1, .int .i64 a0_2, .slice (some ad136) l0_3.length c0_3] 24 (0, 0)) (qK BK133.out)) : gb138 ≠ gb133)); replace BK133 := qW BK133 hb; clear hb hbox hg; have hnb36 := NB138_133.out; have hnc36 := NB133_138.out; have z37_0 := bk6 BK138.out; have z38_0 := bk4 BK133.out) | ((with_reducible refine gate_callee (f := 12) rfl ?_); refine goesL_ (some 89) rfl rfl Tryd.func12 (by kernel_rfl) rfl #[.agg #[.string a0_0, .int .i64 a0_1, .int .i64 a0_2, .slice (some ad136) l0_3.length c0_3], .agg #[.int .i64 ((rd_TIns (rd_LIns l0_3 x71_3) x77_4).f0), .int .i64 ((rd_TIns (rd_LIns l0_3 x71_3) x77_4).f1), .int .i64 ((rd_TIns (rd_LIns l0_3 x71_3) x77_4).f2), .int .i64 ((rd_TIns (rd_LIns l0_3 x71_3) x77_4).f3), .string ((rd_TIns (rd_LIns l0_3 x71_3) x77_4).f4), .slice A137_5 ((rd_TIns (rd_LIns l0_3 x71_3) x77_4).f5).length c137_5], .bool (x77_4 == (wrap64 (((rd_LIns l0_3 x71_3).length : Int) - 1)))] rfl qL ?_; (with_reducible refine (ir_one.calls k4 a0_0 a0_1 a0_2 _ _ l0_3 ((rd_TIns (rd_LIns l0_3 x71_3) x77_4).f0) ((rd_TIns (rd_LIns l0_3 x71_3) x77_4).f1) ((rd_TIns (rd_LIns l0_3 x71_3) x77_4).f2) ((rd_TIns (rd_LIns l0_3 x71_3) x77_4).f3) ((rd_TIns (rd_LIns l0_3 x71_3) x77_4).f4) _ _ ((rd_TIns (rd_LIns l0_3 x71_3) x77_4).f5) (x77_4 == (wrap64 (((rd_LIns l0_3 x71_3).length : Int) - 1))) t139 _ ?side1 ?side2 ?side3 ?side4 A33.out (hL := ?side99)).mono ?_); (case side1 => exact Kd.C_below HR0_3.out qB); (case side2 => exact HC0_3.out); (case side3 => exact Kd.C_below HR137_5.out qB); (case side4 => exact HC137_5.out); (case side99 => exact LaidW.below HLd.out qB); rintro e w39 ⟨rfl, hb⟩; refine ⟨_, rfl, ?_⟩; replace BK133 := zA (blk_below (g := gb133) (o := .cells #[.string a0_0, .int .i64 a0_1, .int .i64 a0_2, .slice (some ad136) l0_3.length c0_3] 24 (0, 0)) (by (with_reducible repeat (first | refine blk_drewN ?_ _ | refine blk_drew ?_ | refine blk_alloc ?_ _)); refine blk_far ?_ NB133_138.out _; (with_reducible repeat (first | refine blk_drewN ?_ _ | refine blk_drew ?_ | refine blk_alloc ?_ _)); refine blk_far ?_ NB133_138.out _; (with_reducible repeat (first | refine blk_drewN ?_ _ | refine blk_drew ?_ | refine blk_alloc ?_ _)); refine blk_far ?_ NB133_138.out _; (with_reducible repeat (first | refine blk_drewN ?_ _ | refine blk_drew ?_ | refine blk_alloc ?_ _)); refine blk_far ?_ NB133_138.out _; (with_reducible repeat (first | refine blk_drewN ?_ _ | refine blk_drew ?_ | refine blk_alloc ?_ _)); refine blk_far ?_ NB133_138.out _; (with_reducible repeat (first | refine blk_drewN ?_ _ | refine blk_drew ?_ | refine blk_alloc ?_ _)); refine blk_far ?_ NB133_138.out _; (with_reducible repeat (first | refine blk_drewN ?_ _ | refine blk_drew ?_ | refine blk_alloc ?_ _)); exact BK133.out) hb); replace BK138 := zA (blk_below (g := gb138) (o := .cells #[.int .i64 ((rd_TIns (rd_LIns l0_3 x71_3) x77_4).f0), .int .i64 ((rd_TIns (rd_LIns l0_3 x71_3) x77_4).f1), .int .i64 ((rd_TIns (rd_LIns l0_3 x71_3) x77_4).f2), .int .i64 ((rd_TIns (rd_LIns l0_3 x71_3) x77_4).f3), .string ((rd_TIns (rd_LIns l0_3 x71_3) x77_4).f4), .slice A137_5 ((rd_TIns (rd_LIns l0_3 x71_3) x77_4).f5).length c137_5] 31 (0, 0)) (by (with_reducible repeat (first | refine blk_drewN ?_ _ | refine blk_drew ?_ | refine blk_alloc ?_ _)); refine blk_put (cs := #[.int .i64 ((rd_TIns (rd_LIns l0_3 x71_3) x77_4).f0), .int .i64 ((rd_TIns (rd_LIns l0_3 x71_3) x77_4).f1), .int .i64 ((rd_TIns (rd_LIns l0_3 x71_3) x77_4).f2), .int .i64 ((rd_TIns (rd_LIns l0_3 x71_3) x77_4).f3), .string ((rd_TIns (rd_LIns l0_3 x71_3) x77_4).f4), .slice none 0 0]) ?_ 5 _ rfl; (with_reducible repeat (first | refine blk_drewN ?_ _ | refine blk_drew ?_ | refine blk_alloc ?_ _)); refine blk_put (cs := #[.int .i64 ((rd_TIns (rd_LIns l0_3 x71_3) x77_4).f0), .int .i64 ((rd_TIns (rd_LIns l0_3 x71_3) x77_4).f1), .int .i64 ((rd_TIns (rd_LIns l0_3 x71_3) x77_4).f2), .int .i64 ((rd_TIns (rd_LIns l0_3 x71_3) x77_4).f3), .string (⟨#[]⟩ : ByteArray), .slice none 0 0]) ?_ 4 _ rfl; (with_reducible repeat (first | refine blk_drewN ?_ _ | refine blk_drew ?_ | refine blk_alloc ?_ _)); refine blk_put (cs := #[.int .i64 ((rd_TIns (rd_LIns l0_3 x71_3) x77_4).f0), .int .i64 ((rd_TIns (rd_LIns l0_3 x71_3) x77_4).f1), .int .i64 ((rd_TIns (rd_LIns l0_3 x71_3) x77_4).f2), .int .i64 0, .string (⟨#[]⟩ : ByteArray), .slice none 0 0]) ?_ 3 _ rfl; (with_reducible repeat (first | refine blk_drewN ?_ _ | refine blk_drew ?_ | refine blk_alloc ?_ _)); refine blk_put (cs := #[.int .i64 ((rd_TIns (rd_LIns l0_3 x71_3) x77_4).f0), .int .i64 ((rd_TIns (rd_LIns l0_3 x71_3) x77_4).f1), .int .i64 0, .int .i64 0, .string (⟨#[]⟩ : ByteArray), .slice none 0 0]) ?_ 2 _ rfl; (with_reducible repeat (first | refine blk_drewN ?_ _ | refine blk_drew ?_ | refine blk_alloc ?_ _)); refine blk_put (cs := #[.int .i64 ((rd_TIns (rd_LIns l0_3 x71_3) x77_4).f0), .int .i64 0, .int .i64 0, .int .i64 0, .string (⟨#[]⟩ : ByteArray), .slice none 0 0]) ?_ 1 _ rfl; (with_reducible repeat (first | refine blk_drewN ?_ _ | refine blk_drew ?_ | refine blk_alloc ?_ _)); refine blk_put (cs := #[.int .i64 0, .int .i64 0, .int .i64 0, .int .i64 0, .string (⟨#[]⟩ : ByteArray), .slice none 0 0]) ?_ 0 _ rfl; (with_reducible repeat (first | refine blk_drewN ?_ _ | refine blk_drew ?_ | refine blk_alloc ?_ _)); exact BK138.out) hb); replace HB := qH hb))
                   go_roundg k4
                   case measure => have := HJ3.out; have := HK2.out; have := HK3.out; have := HK4.out; omega
                   case rel => exact ⟨(wrap64 (x77_4 + 1)), qT, H', ⟨by have := HJ3.out; have := HK2.out; have := HK3.out; have := HK4.out; omega⟩, ⟨qK BK133.out⟩, ⟨qB⟩⟩
                  ·rw [zD c34] at H
                   obtain ⟨c34b0, c34b1⟩ := qn c34
                   obtain rfl := zI H
                   have p137 : 0 ≤ (x77_4 : Int) := zB qA
                   have q137 : x77_4 < ((rd_LIns l0_3 x71_3).length : Int) := zB qA
                   obtain ⟨ad137, A137_5, c137_5, e137, hx137_0, hx137_1, hx137_2, hx137_3, hx137_4, hx137_5, hl137_5, hi137_5⟩ := at_TIns HR136_0.out x77_4 p137 q137
                   cases e137
                   replace hx137_0 := (HB.out.cell (zE w _ hx137_0)).trans hx137_0
                   replace hx137_1 := (HB.out.cell (zE w _ hx137_1)).trans hx137_1
                   replace hx137_2 := (HB.out.cell (zE w _ hx137_2)).trans hx137_2
                   replace hx137_3 := (HB.out.cell (zE w _ hx137_3)).trans hx137_3
                   replace hx137_4 := (HB.out.cell (zE w _ hx137_4)).trans hx137_4
                   replace hx137_5 := (HB.out.cell (zE w _ hx137_5)).trans hx137_5
                   have HR137_5 := zA hi137_5
                   have HC137_5 := zA hl137_5
                   clear hi137_5 hl137_5
                   replace p137 := eq_true p137
                   replace q137 := eq_true q137
                   go_wp2_with (first | ((with_reducible refine gate_dst (N := 9) rfl ?_); (try (refine gate_guard (by rfl) ?_; dsimp only)); refine box_event (by rfl) (N := 9) (by rfl) (cs := #[.int .i64 0, .int .i64 0, .int .i64 0, .int .i64 0, .string (⟨#[]⟩ : ByteArray), .slice none 0 0]) (t := 31) ?hr ?_; (case hr => go_simp <;> rfl); intro gb138 hg w40 hbox hb; have BK138 := zA (hbox); have GW138 := qG hg; have GE138 := GW138; replace HB := qH hb; have NB133_138 := zA ((by rw [hg]; exact Nat.ne_of_lt (blk_lt (g := gb133) (o := .cells #[.string a0_0, .int .i64 a0_1, .int .i64 a0_2, .slice (some ad136) l0_3.length c0_3] 24 (0, 0)) (qK BK133.out)) : gb133 ≠ gb138)); have NB138_133 := zA ((by rw [hg]; exact Nat.ne_of_gt (blk_lt (g := gb133) (o := .cells #[.string a0_0, .int .i64 a0_1, .int .i64 a0_2, .slice (some ad136) l0_3.length c0_3] 24 (0, 0)) (qK BK133.out)) : gb138 ≠ gb133)); replace BK133 := qW BK133 hb; clear hb hbox hg; have hnb41 := NB138_133.out; have hnc41 := NB133_138.out; have z42_0 := bk6 BK138.out; have z43_0 := bk4 BK133.out) | ((with_reducible refine gate_callee (f := 12) rfl ?_); refine goesL_ (some 89) rfl rfl Tryd.func12 (by kernel_rfl) rfl #[.agg #[.string a0_0, .int .i64 a0_1, .int .i64 a0_2, .slice (some ad136) l0_3.length c0_3], .agg #[.int .i64 ((rd_TIns (rd_LIns l0_3 x71_3) x77_4).f0), .int .i64 ((rd_TIns (rd_LIns l0_3 x71_3) x77_4).f1), .int .i64 ((rd_TIns (rd_LIns l0_3 x71_3) x77_4).f2), .int .i64 ((rd_TIns (rd_LIns l0_3 x71_3) x77_4).f3), .string ((rd_TIns (rd_LIns l0_3 x71_3) x77_4).f4), .slice A137_5 ((rd_TIns (rd_LIns l0_3 x71_3) x77_4).f5).length c137_5], .bool (x77_4 == (wrap64 (((rd_LIns l0_3 x71_3).length : Int) - 1)))] rfl qL ?_; (with_reducible refine (ir_one.calls k4 a0_0 a0_1 a0_2 _ _ l0_3 ((rd_TIns (rd_LIns l0_3 x71_3) x77_4).f0) ((rd_TIns (rd_LIns l0_3 x71_3) x77_4).f1) ((rd_TIns (rd_LIns l0_3 x71_3) x77_4).f2) ((rd_TIns (rd_LIns l0_3 x71_3) x77_4).f3) ((rd_TIns (rd_LIns l0_3 x71_3) x77_4).f4) _ _ ((rd_TIns (rd_LIns l0_3 x71_3) x77_4).f5) (x77_4 == (wrap64 (((rd_LIns l0_3 x71_3).length : Int) - 1))) t139 _ ?side1 ?side2 ?side3 ?side4 A33.out (hL := ?side99)).mono ?_); (case side1 => exact Kd.C_below HR0_3.out qB); (case side2 => exact HC0_3.out); (case side3 => exact Kd.C_below HR137_5.out qB); (case side4 => exact HC137_5.out); (case side99 => exact LaidW.below HLd.out qB); rintro e w44 ⟨rfl, hb⟩; refine ⟨_, rfl, ?_⟩; replace BK133 := zA (blk_below (g := gb133) (o := .cells #[.string a0_0, .int .i64 a0_1, .int .i64 a0_2, .slice (some ad136) l0_3.length c0_3] 24 (0, 0)) (by (with_reducible repeat (first | refine blk_drewN ?_ _ | refine blk_drew ?_ | refine blk_alloc ?_ _)); refine blk_far ?_ NB133_138.out _; (with_reducible repeat (first | refine blk_drewN ?_ _ | refine blk_drew ?_ | refine blk_alloc ?_ _)); refine blk_far ?_ NB133_138.out _; (with_reducible repeat (first | refine blk_drewN ?_ _ | refine blk_drew ?_ | refine blk_alloc ?_ _)); refine blk_far ?_ NB133_138.out _; (with_reducible repeat (first | refine blk_drewN ?_ _ | refine blk_drew ?_ | refine blk_alloc ?_ _)); refine blk_far ?_ NB133_138.out _; (with_reducible repeat (first | refine blk_drewN ?_ _ | refine blk_drew ?_ | refine blk_alloc ?_ _)); refine blk_far ?_ NB133_138.out _; (with_reducible repeat (first | refine blk_drewN ?_ _ | refine blk_drew ?_ | refine blk_alloc ?_ _)); refine blk_far ?_ NB133_138.out _; (with_reducible repeat (first | refine blk_drewN ?_ _ | refine blk_drew ?_ | refine blk_alloc ?_ _)); exact BK133.out) hb); replace BK138 := zA (blk_below (g := gb138) (o := .cells #[.int .i64 ((rd_TIns (rd_LIns l0_3 x71_3) x77_4).f0), .int .i64 ((rd_TIns (rd_LIns l0_3 x71_3) x77_4).f1), .int .i64 ((rd_TIns (rd_LIns l0_3 x71_3) x77_4).f2), .int .i64 ((rd_TIns (rd_LIns l0_3 x71_3) x77_4).f3), .string ((rd_TIns (rd_LIns l0_3 x71_3) x77_4).f4), .slice A137_5 ((rd_TIns (rd_LIns l0_3 x71_3) x77_4).f5).length c137_5] 31 (0, 0)) (by (with_reducible repeat (first | refine blk_drewN ?_ _ | refine blk_drew ?_ | refine blk_alloc ?_ _)); refine blk_put (cs := #[.int .i64 ((rd_TIns (rd_LIns l0_3 x71_3) x77_4).f0), .int .i64 ((rd_TIns (rd_LIns l0_3 x71_3) x77_4).f1), .int .i64 ((rd_TIns (rd_LIns l0_3 x71_3) x77_4).f2), .int .i64 ((rd_TIns (rd_LIns l0_3 x71_3) x77_4).f3), .string ((rd_TIns (rd_LIns l0_3 x71_3) x77_4).f4), .slice none 0 0]) ?_ 5 _ rfl; (with_reducible repeat (first | refine blk_drewN ?_ _ | refine blk_drew ?_ | refine blk_alloc ?_ _)); refine blk_put (cs := #[.int .i64 ((rd_TIns (rd_LIns l0_3 x71_3) x77_4).f0), .int .i64 ((rd_TIns (rd_LIns l0_3 x71_3) x77_4).f1), .int .i64 ((rd_TIns (rd_LIns l0_3 x71_3) x77_4).f2), .int .i64 ((rd_TIns (rd_LIns l0_3 x71_3) x77_4).f3), .string (⟨#[]⟩ : ByteArray), .slice none 0 0]) ?_ 4 _ rfl; (with_reducible repeat (first | refine blk_drewN ?_ _ | refine blk_drew ?_ | refine blk_alloc ?_ _)); refine blk_put (cs := #[.int .i64 ((rd_TIns (rd_LIns l0_3 x71_3) x77_4).f0), .int .i64 ((rd_TIns (rd_LIns l0_3 x71_3) x77_4).f1), .int .i64 ((rd_TIns (rd_LIns l0_3 x71_3) x77_4).f2), .int .i64 0, .string (⟨#[]⟩ : ByteArray), .slice none 0 0]) ?_ 3 _ rfl; (with_reducible repeat (first | refine blk_drewN ?_ _ | refine blk_drew ?_ | refine blk_alloc ?_ _)); refine blk_put (cs := #[.int .i64 ((rd_TIns (rd_LIns l0_3 x71_3) x77_4).f0), .int .i64 ((rd_TIns (rd_LIns l0_3 x71_3) x77_4).f1), .int .i64 0, .int .i64 0, .string (⟨#[]⟩ : ByteArray), .slice none 0 0]) ?_ 2 _ rfl; (with_reducible repeat (first | refine blk_drewN ?_ _ | refine blk_drew ?_ | refine blk_alloc ?_ _)); refine blk_put (cs := #[.int .i64 ((rd_TIns (rd_LIns l0_3 x71_3) x77_4).f0), .int .i64 0, .int .i64 0, .int .i64 0, .string (⟨#[]⟩ : ByteArray), .slice none 0 0]) ?_ 1 _ rfl; (with_reducible repeat (first | refine blk_drewN ?_ _ | refine blk_drew ?_ | refine blk_alloc ?_ _)); refine blk_put (cs := #[.int .i64 0, .int .i64 0, .int .i64 0, .int .i64 0, .string (⟨#[]⟩ : ByteArray), .slice none 0 0]) ?_ 0 _ rfl; (with_reducible repeat (first | refine blk_drewN ?_ _ | refine blk_drew ?_ | refine blk_alloc ?_ _)); exact BK138.out) hb); replace HB := qH hb))
                   go_ret
                   exact ⟨qE, qB⟩
                 ·rw [zD c32] at H
                  exact absurd H (by simp)
                ·rw [zD c31] at H
                 exact absurd H (by simp)
               ·rw [zD c30] at H
                have c30b0 := zG c30
                clear c30
                have H' := zA H
                clear H
                go_wp2
                go_roundg k4
                case measure => have := HJ3.out; have := HK2.out; have := HK3.out; have := HK4.out; omega
                case rel => exact ⟨(wrap64 (x71_3 + 1)), qT, H', ⟨by have := HJ3.out; have := HK2.out; have := HK3.out; have := HK4.out; omega⟩, ⟨qK BK133.out⟩, ⟨qB⟩⟩
            ·rw [zD c29] at H
             exact absurd H (by simp)
           ·rw [zD c28] at H
            exact absurd H (by simp)
          ·rw [zD c27] at H
           have c27b0 := zG c27
           clear c27
           obtain rfl := zI H
           go_wp2
           go_ret
           exact ⟨qE, qB⟩
 ·replace c3 := Bool.eq_false_iff.mpr c3
  subst c3
  have H1 : (some 70) = some r := by rw [zD (show ¬ (false = true) by decide)] at H; exact H
  clear H
  have H := H1
  clear H1
  obtain rfl := zI H
  go_enter Tryd.func6, Tryd.ntmps6
  go_wp2_with (first | ((with_reducible refine gate_dst (N := 1) rfl ?_); (try (refine gate_guard (by rfl) ?_; dsimp only)); refine box_event (by rfl) (N := 1) (by rfl) (cs := #[.string a0_0, .int .i64 a0_1, .int .i64 a0_2, .slice A0_3 l0_3.length c0_3]) (t := 24) ?hr ?_; (case hr => go_simp <;> rfl); intro gb133 hg w45 hbox hb; have BK133 := zA (hbox); have GW133 := qG hg; have GE133 := GW133; replace HB := qH hb; clear hb hbox hg; have z46_0 := bk4 BK133.out) | ((with_reducible refine gate_callee (f := 11) rfl ?_); refine goesL_ (some 13) rfl rfl Tryd.func11 (by kernel_rfl) rfl #[.string a0_0] rfl qL ?_; (with_reducible refine (ir_Name.calls a0_0 false _ A2.out).mono ?_); rintro e w47 ⟨rfl, hb⟩; refine ⟨_, rfl, ?_⟩; replace BK133 := qW BK133 hb; replace HB := qH hb; (try clear hb)))
  go_ret
  exact ⟨qE, qB⟩
end Go.Proofs.YthidcafbhjahdaaDoor.Q
