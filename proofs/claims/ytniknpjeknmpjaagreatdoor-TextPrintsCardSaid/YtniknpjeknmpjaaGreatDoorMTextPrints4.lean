/- TextPrints: parts of the proofs, put together. -/
import Derived.RangeFuncNested
import Derived.RangeFuncBound
import Derived.RangeFuncCalls
import Derived.RangeFuncLeaves
import Derived.Shelf.Abstract
import Derived.Shelf.RegionOpen
import Derived.WalkKit
import Derived.OwnWalkIn
import Derived.TacticsInMore
import Derived.LoopNIn
import Derived.LoopIn
import Derived.Lib.AtoiAllCases
import Derived.Lib.OthersKept
import Derived.Lib.AtoiTie
import Derived.Lib.ItoaNum
import Derived.Lib.ItoaMem
import Derived.Test.YtniknpjeknmpjaaGreatDoorMTextPrints1
import Derived.Test.YtniknpjeknmpjaaGreatDoorMTextPrints2
import Derived.Test.YtniknpjeknmpjaaGreatDoorMTextPrints3
namespace Go.Proofs.YtniknpjeknmpjaaGreatDoor.Q
open Go.RowKit Go.Shelf Go.Proofs.YtniknpjeknmpjaaGreatDoorW.PrintWords Go.Proofs.YtniknpjeknmpjaaGreatDoorW.PrintLast Go.Proofs.YtniknpjeknmpjaaGreatDoorW.PrintMore
set_option linter.unusedVariables false
set_option linter.unusedSimpArgs false
attribute [local go_sem] Oper.semAt_some
def cutB (s : ByteArray) : ByteArray × ByteArray := if 0 ≤ Lib.indexByte s.data.toList 10 then (s.extract 0 ((Lib.indexByte s.data.toList 10).toNat + 1), s.extract ((Lib.indexByte s.data.toList 10).toNat + 1) s.size) else (s, ⟨#[]⟩)
theorem cutB_pos {s : ByteArray} {i : Nat} (h : Lib.indexByte s.data.toList 10 = (i : Int)) : cutB s = (s.extract 0 (i + 1), s.extract (i + 1) s.size) := by
 unfold cutB
 rw [h, zC (by omega), Int.toNat_natCast]
theorem cutB_neg {s : ByteArray} (h : ¬ 0 ≤ Lib.indexByte s.data.toList 10) : cutB s = (s, ⟨#[]⟩) := zD h
theorem indexByte_lt : ∀ {l : List UInt8} {b : UInt8} {i : Nat}, Lib.indexByte l b = (i : Int) → i < l.length
 | [], b, i, h => by simp only [Lib.indexByte] at h; omega
 | c :: l, b, i, h => by
  unfold Lib.indexByte at h
  split at h
  ·have : i = 0 := by omega
   subst this; simp
  ·have hge := Lib.indexByte_ge l b
   split at h
   ·omega
   ·next h2 =>
    have h3 : Lib.indexByte l b ≠ -1 := by simpa using h2
    obtain ⟨q, hq⟩ : ∃ q : Nat, Lib.indexByte l b = q := ⟨(Lib.indexByte l b).toNat, by omega⟩
    have := indexByte_lt hq
    simp; omega
theorem cutB_less {s : ByteArray} (h : s.size ≠ 0) : (cutB s).2.size < s.size := by
 by_cases h0 : 0 ≤ Lib.indexByte s.data.toList 10
 ·obtain ⟨i, hi⟩ : ∃ i : Nat, Lib.indexByte s.data.toList 10 = i := ⟨_, (Int.toNat_of_nonneg h0).symm⟩
  have hl : s.data.toList.length = s.size := by simp
  have := indexByte_lt hi
  rw [cutB_pos hi]
  simp only [ByteArray.size_extract]
  omega
 ·rw [cutB_neg h0]
  have : (⟨#[]⟩ : ByteArray).size = 0 := rfl
  show (⟨#[]⟩ : ByteArray).size < s.size
  omega
def leftAt (Bn : Nat) (w : World) : Nat := match w.cell? ⟨Bn, 0, none⟩ with
 | some (.string s) => s.size
 | _ => 0
theorem leftAt_eq {Bn : Nat} {w : World} {s : ByteArray} (h : w.cell? ⟨Bn, 0, none⟩ = some (.string s)) : leftAt Bn w = s.size := by unfold leftAt; rw [h]
set_option maxRecDepth 100000 in
set_option maxHeartbeats 4000000 in
theorem lines1_in (m l Bn : Nat) (J : ByteArray → World → Prop) (Jx : World → Prop) (hm : 1 ≤ m)
 (hJc : ∀ s W, J s W → W.cell? ⟨Bn, 0, none⟩ = some (.string s) ∧ W.frozen? ⟨Bn, 0, none⟩ = false ∧ s.size ≤ 1000000) (hJd : ∀ s W, J s W → J s W.drew)
 (hY : ∀ s W, J s W → s.size ≠ 0 → YieldAt Fence.wide (m - 1) Tryz.prog l #[.string (cutB s).1] (W.setCell ⟨Bn, 0, none⟩ (.string (cutB s).2)) fun e W' => (e = .returned (.bool true) ∧ J (cutB s).2 W') ∨ (e = .returned (.bool false) ∧ Jx W'))
 (s0 : ByteArray) (W : World) (h0 : J s0 W) :
 CallsIn Fence.wide m Tryz.prog 60 #[.func (.yield l) #[] #[], .pointer (some ⟨Bn, 0, none⟩)] W fun e W' => (∃ v, e = .returned v) ∧ ((∃ s : ByteArray, s.size = 0 ∧ J s W') ∨ Jx W') := by
 refine callsIn_of_wp Tryz.func60 rfl trivial ?_ rfl
 simp only [Tryz.ntmps60, List.size_toArray, List.length_cons, List.length_nil, Nat.reduceAdd, Nat.reduceSub, Array.replicate_succ, Array.replicate_zero, List.push_toArray, List.append_toArray, List.nil_append, List.cons_append]
 gi_wp2
 gi_loopw [3] (fun p wr => ∃ s, J s wr) (fun p wr => leftAt Bn wr)
 case atStart => exact ⟨s0, h0⟩
 case round =>
  obtain ⟨s, hJ⟩ := hrel
  obtain ⟨hc, hf, hsz⟩ := hJc s _ hJ
  by_cases hz : s.size = 0
  ·have d1 := zG (show ¬ (0 : Int) < (s.size : Int) by omega)
   have d2 := zG (show ¬ 0 < s.size by omega)
   gi_wp2
   go_end0
   exact ⟨⟨_, rfl⟩, .inl ⟨s, hz, hJ⟩⟩
  ·have d1 := zF (show (0 : Int) < (s.size : Int) by omega)
   have d2 := zF (show 0 < s.size by omega)
   by_cases hi : 0 ≤ Lib.indexByte s.data.toList 10
   ·obtain ⟨i, hidx⟩ : ∃ i : Nat, Lib.indexByte s.data.toList 10 = i := ⟨_, (Int.toNat_of_nonneg hi).symm⟩
    have hil := indexByte_lt hidx
    have hsl : s.data.toList.length = s.size := by simp
    have hy0 := hY s wr.drew (hJd _ _ hJ) hz
    have hcl := cutB_less hz
    rw [cutB_pos hidx] at hy0 hcl
    obtain ⟨fn, tmps, assign, body, hy, hR⟩ := hy0
    dsimp only at hy hR hcl
    replace hy : (Instr.yield l #[.string (s.extract 0 (i + 1))]).run Tryz.prog ((wr.setCell ⟨Bn, 0, none⟩ (.string (s.extract (i + 1) s.size))).drew) = .ok (.round l fn tmps assign body) ((wr.setCell ⟨Bn, 0, none⟩ (.string (s.extract (i + 1) s.size))).drew) := hy
    replace hR : RoundIn Fence.wide (m - 1) Tryz.prog l fn tmps assign body ((wr.setCell ⟨Bn, 0, none⟩ (.string (s.extract (i + 1) s.size))).drew) _ := hR
    have hleft := leftAt_eq hc
    have hi1 : i < s.size := by omega
    have hi2 : i + 1 ≤ s.size := by omega
    have hi3 := eq_true (show (i : Int) + 1 ≤ (s.size : Int) by omega)
    have hi4 := eq_true (show (0 : Int) ≤ (i : Int) + 1 by omega)
    have hw2 : IntKind.i64.wrap ((i : Int) + 1) = (i : Int) + 1 := by rw [i64_w]; unfold wrap64; omega
    have d3 := zF (show (0 : Int) ≤ (i : Int) by omega)
    have hix : Lib.indexByte s.data.toList ((10 : Int).toNat.toUInt8) = (i : Int) := hidx
    have mixed : Tryz.prog.follows .mixedOrders = true := by kernel_rfl
    clear hY hidx hi
    gi_wp2_with (refine ⟨trivial, ?_⟩; gi_at_call 61; refine (callsIn_wide.2 (Any.strings_IndexByte Tryz.lays137 s 10 _)).mono ?_; rintro e w' ⟨rfl, rfl⟩; rw [hix])
    gi_region_with_o fail
    all_goals
     gi_wp2
     refine hR.mono ?_
     rintro e W3 (⟨rfl, hJ3⟩ | ⟨rfl, hJx3⟩)
     ·gi_wp2
      go_roundw
      case rel => exact ⟨_, hJ3⟩
      case measure => rw [hleft, leftAt_eq (hJc _ _ hJ3).1]; exact hcl
     ·gi_wp2
      refine bodyPost_ret (results_none rfl _ _ _) rfl ?_
      exact ⟨⟨_, rfl⟩, .inr hJx3⟩
   ·have hy0 := hY s wr hJ hz
    have hcl := cutB_less hz
    rw [cutB_neg hi] at hy0 hcl
    obtain ⟨fn, tmps, assign, body, hy, hR⟩ := hy0
    dsimp only at hy hR hcl
    have hleft := leftAt_eq hc
    have d3 := zG hi
    obtain ⟨i, hix⟩ : ∃ i, i = Lib.indexByte s.data.toList 10 := ⟨_, rfl⟩
    rw [← hix] at d3 hi
    have hix : Lib.indexByte s.data.toList ((10 : Int).toNat.toUInt8) = i := hix.symm
    clear hY
    gi_wp2_with (refine ⟨trivial, ?_⟩; gi_at_call 61; refine (callsIn_wide.2 (Any.strings_IndexByte Tryz.lays137 s 10 _)).mono ?_; rintro e w' ⟨rfl, rfl⟩; rw [hix])
    refine hR.mono ?_
    rintro e W3 (⟨rfl, hJ3⟩ | ⟨rfl, hJx3⟩)
    ·gi_wp2
     go_roundw
     case rel => exact ⟨_, hJ3⟩
     case measure => rw [hleft, leftAt_eq (hJc _ _ hJ3).1]; exact hcl
    ·gi_wp2
     refine bodyPost_ret (results_none rfl _ _ _) rfl ?_
     exact ⟨⟨_, rfl⟩, .inr hJx3⟩
end Go.Proofs.YtniknpjeknmpjaaGreatDoor.Q
namespace Go.Proofs.YtniknpjeknmpjaaGreatDoor.Q
open Go.RowKit Go.Shelf Go.Proofs.YtniknpjeknmpjaaGreatDoorW.PrintWords Go.Proofs.YtniknpjeknmpjaaGreatDoorW.PrintLast Go.Proofs.YtniknpjeknmpjaaGreatDoorW.PrintMore
set_option linter.unusedVariables false
set_option linter.unusedSimpArgs false
def Same2 (k : Nat) (W W' : World) : Prop := W'.heap[k]? = W.heap[k]? ∧ W'.heap[k + 1]? = W.heap[k + 1]?
def roundEnd (k : Nat) (I : World → Prop) (Ix : Code → World → Prop) (W : World) : Exit → Act → World → Prop
 | .normal, _, W' => Same2 k W W' ∧ I W'
 | .ret, _, W' => Same2 k W W' ∧ Ix .ret W'
 | _, _, _ => False
def AbPut (k : Nat) (I : World → Prop) : Prop := ∀ W j o, k ≤ j → j ≤ k + 1 → I W → I (W.putObj j o)
set_option maxHeartbeats 2000000 in
theorem wpIn_lines {m B : Nat} {g : Operand} {ps : Array Tmp} {assign body : Code} {Q : Exit → Act → World → Prop} {a : Act} {w : World} (h2 : 2 ≤ m)
 (hg : a.eval g = .func (.func 60) #[] #[.pointer (some ⟨B, 0, none⟩)]) (hps : ps.size = 1)
 (I K : ByteArray → World → Prop) (Ix : Code → World → Prop)
 (hc : ∀ s W, I s W → W.cell? ⟨B, 0, none⟩ = some (.string s) ∧ W.frozen? ⟨B, 0, none⟩ = false ∧ s.size ≤ 1000000) (hB : B < w.heap.size) (hd : ∀ s W, I s W → I s W.drew)
 (hK : ∀ s W, I s W → s.size ≠ 0 → K s (W.setCell ⟨B, 0, none⟩ (.string (cutB s).2)))
 (hIp : ∀ s, AbPut w.heap.size (I s)) (hKp : ∀ s, AbPut w.heap.size (K s)) (hXp : ∀ c, AbPut w.heap.size (Ix c))
 (s0 : ByteArray) (h0 : ∀ o1 o2, I s0 ((w.alloc o1).alloc o2)) (a₁ : ByteArray → Act)
 (hassign : ∀ (l : Nat) (x : ByteArray) (W : World) (K : Act → World → Prop), K (a₁ x) W →
   assign.wpIn (Fence.wide.inRound l) (m - 1 - 1) Tryz.prog (Exit.then K (fun _ _ _ => False)) { tmps := (ps.zip #[Value.string x]).foldl (fun t (p, v) => t.setIfInBounds p v) a.tmps, defers := [] } W)
 (hbody : ∀ (l : Nat) (s : ByteArray) (W : World), K s W → body.wpIn (Fence.wide.inRound l) (m - 1 - 1) Tryz.prog (roundEnd w.heap.size (I (cutB s).2) Ix W) (a₁ (cutB s).1) W)
 (hdone : ∀ (s : ByteArray) (W : World), s.size = 0 → I s W → W.heap[w.heap.size]? = some (.deferred (some [])) → Q .normal { a with defers := { target := .collected w.heap.size, args := #[] } :: a.defers } W)
 (hstop : ∀ (c : Code) (W : World), Ix c W → W.heap[w.heap.size]? = some (.deferred (some [])) → c.wpIn Fence.wide m Tryz.prog Q { a with defers := { target := .collected w.heap.size, args := #[] } :: a.defers } W) :
 (Code.rangeFunc g ps assign body).wpIn Fence.wide m Tryz.prog Q a w := by
 refine wpIn_rangeFunc fun fn hfn => ?_
 obtain ⟨rec, hrec⟩ : ∃ rec : LoopState → Option Code → Loop, rec = fun st pe => { state := st, pending := pe, fn, tmps := a.tmps, params := ps, assign, body, defers := w.heap.size } := ⟨_, rfl⟩
 obtain ⟨W1, hW1⟩ : ∃ W1, W1 = (w.alloc (.deferred (some []))).alloc (.loop (rec .ready none)) := ⟨_, rfl⟩
 have hsz : (w.alloc (.deferred (some []))).heap.size = w.heap.size + 1 := by simp
 have hL1 : W1.heap[w.heap.size + 1]? = some (.loop (rec .ready none)) := by
  rw [hW1, ← hsz]; exact World.alloc_heap_new _ _
 have hK1 : W1.heap[w.heap.size]? = some (.deferred (some [])) := by
  rw [hW1]; exact (Below.heap_alloc _ _ _ (by rw [hsz]; omega)).trans (World.alloc_heap_new w _)
 have hI1 : I s0 W1 := by rw [hW1]; exact h0 _ _
 have hent : ∀ args w, (callFunc 60 args).run Tryz.prog w = .ok (.enter 60 args) w := enters_of Tryz.func60 (by kernel_rfl) rfl
 refine ⟨w.heap.size + 1, [{ target := .collected w.heap.size, args := #[] }], W1, { target := .fn (.func 60) #[.pointer (some ⟨B, 0, none⟩)], args := #[.func (.yield (w.heap.size + 1)) #[] #[]] }, W1, 60,
  #[.func (.yield (w.heap.size + 1)) #[] #[]] ++ #[.pointer (some ⟨B, 0, none⟩)], W1, ?_, ?_, fun _ _ => trivial, ?_, fun _ => by omega, ?_⟩
 ·rw [hW1, hrec]; exact run_enterLoop_outer _ _ _ _ _
 ·simp only [resolve, hg]
  simp [go_sem]
 ·simp [invoke, go_sem, hent]
 ·refine (lines1_in (m - 1) (w.heap.size + 1) B (fun s W => I s W ∧ W.heap[w.heap.size + 1]? = some (.loop (rec .ready none)) ∧ W.heap[w.heap.size]? = some (.deferred (some [])))
   (fun W => ∃ c, Ix c W ∧ W.heap[w.heap.size + 1]? = some (.loop (rec .done (some c))) ∧ W.heap[w.heap.size]? = some (.deferred (some []))) (by omega) (fun s W h => hc s W h.1) (fun s W h => ⟨hd s W h.1, h.2.1, h.2.2⟩) ?_ s0 W1 ⟨hI1, hL1, hK1⟩).mono ?_
  ·-- a round
   rintro s W ⟨hi, hl, hk⟩ hz
   have hk3 := hK s W hi hz
   have hn1 : w.heap.size + 1 ≠ B := by omega
   have hn2 : w.heap.size ≠ B := by omega
   have hl3 : (W.setCell ⟨B, 0, none⟩ (.string (cutB s).2)).heap[w.heap.size + 1]? = some (.loop (rec .ready none)) := (heap_setCell_other _ _ _ _ hn1).trans hl
   have hd3 : (W.setCell ⟨B, 0, none⟩ (.string (cutB s).2)).heap[w.heap.size]? = some (.deferred (some [])) := (heap_setCell_other _ _ _ _ hn2).trans hk
   generalize W.setCell ⟨B, 0, none⟩ (.string (cutB s).2) = W2 at hk3 hl3 hd3 ⊢
   have hlt : w.heap.size + 1 < W2.heap.size := (Array.getElem?_eq_some_iff.1 hl3).1
   have hy := run_yield (P := Tryz.prog) (args := #[.string (cutB s).1]) hl3 (by rw [hrec]; exact hps.symm)
   rw [hrec] at hy
   refine ⟨fn, _, assign, body, hy, roundIn_of_wpIn hfn (hassign _ _ W2 _ ⟨_, run_beginRound hl3 (by rw [hrec]), ?_⟩)⟩
   have hl2 : (W2.putObj (w.heap.size + 1) (.loop { rec .ready none with state := .busy })).heap[w.heap.size + 1]? = some (.loop { rec .ready none with state := .busy }) := World.putObj_heap_same hlt
   have hd2 : (W2.putObj (w.heap.size + 1) (.loop { rec .ready none with state := .busy })).heap[w.heap.size]? = some (.deferred (some [])) := (World.putObj_heap_other (by omega)).trans hd3
   have hkk := hKp s W2 (w.heap.size + 1) (.loop { rec .ready none with state := .busy }) (by omega) (by omega) hk3
   generalize W2.putObj (w.heap.size + 1) (.loop { rec .ready none with state := .busy }) = W4 at hl2 hd2 hkk ⊢
   refine wpIn_mono (hbody _ s W4 hkk) ?_
   have fin : ∀ (jump : Option Code) (W3 : World), Same2 w.heap.size W4 W3 →
    (Instr.endRound (w.heap.size + 1) jump).run Tryz.prog W3 = .ok (.bool jump.isNone) (W3.putObj (w.heap.size + 1) (.loop (rec (if jump.isNone then .ready else .done) jump))) ∧
    (W3.putObj (w.heap.size + 1) (.loop (rec (if jump.isNone then .ready else .done) jump))).heap[w.heap.size + 1]? = some (.loop (rec (if jump.isNone then .ready else .done) jump)) ∧
    (W3.putObj (w.heap.size + 1) (.loop (rec (if jump.isNone then .ready else .done) jump))).heap[w.heap.size]? = some (.deferred (some [])) := fun jump W3 hs => by
    have hl3 := hs.2.trans hl2
    have hd3 := hs.1.trans hd2
    have := run_endRound (P := Tryz.prog) jump hl3
    rw [hrec] at this ⊢
    exact ⟨this, World.putObj_heap_same (Array.getElem?_eq_some_iff.1 hl3).1, (World.putObj_heap_other (by omega)).trans hd3⟩
   rintro e a3 W3 hp
   cases e with
   | normal =>
    obtain ⟨hs, hi3⟩ := hp
    obtain ⟨hr, hl4, hk4⟩ := fin none W3 hs
    exact ⟨_, _, hr, .inl ⟨rfl, hIp _ _ _ _ (by omega) (by omega) hi3, hl4, hk4⟩⟩
   | ret =>
    obtain ⟨hs, hi3⟩ := hp
    obtain ⟨hr, hl4, hk4⟩ := fin (some .ret) W3 hs
    exact ⟨_, _, hr, .inr ⟨rfl, .ret, hXp _ _ _ _ (by omega) (by omega) hi3, hl4, hk4⟩⟩
   | exit id => exact hp.elim
   | goto t => exact hp.elim
   | panic ch => exact hp.elim
   | outgrown => exact hp.elim
  ·-- behind the iterator
   rintro e W2 ⟨⟨v, rfl⟩, (⟨s, hz, hi, hl, hk⟩ | ⟨c, hi, hl, hk⟩)⟩
   ·exact ⟨none, _, by have := run_endLoop (P := Tryz.prog) hl (by rw [hrec]; simp); rw [hrec] at this; exact this, hdone s _ hz (hIp _ _ _ _ (by omega) (by omega) hi) ((World.putObj_heap_other (by omega)).trans hk)⟩
   ·exact ⟨some c, _, by have := run_endLoop (P := Tryz.prog) hl (by rw [hrec]; simp); rw [hrec] at this; exact this, hstop c _ (hXp _ _ _ _ (by omega) (by omega) hi) ((World.putObj_heap_other (by omega)).trans hk)⟩
def blank1 : ByteArray := ⟨#[32]⟩
def wordsOf (s : ByteArray) : List ByteArray := Lib.splitB blank1 0 (Lib.countB s blank1) s
theorem wordsOf_len (s : ByteArray) : (wordsOf s).length = Lib.countB s blank1 + 1 := Lib.splitB_all blank1 (by decide) 0 _ s rfl
theorem split_calls (s : ByteArray) (w : World) (hs : s.size < 4294967281) :
 Calls Tryz.prog 48 #[.string s, .string blank1] w fun e w' => e = .returned (.slice (some ⟨w.heap.size, 0, none⟩) (wordsOf s).length (wordsOf s).length) ∧ w' = w.alloc (.cells ((wordsOf s).map Value.string).toArray 9) := by
 have hle := Lib.countB_le blank1 (by decide) s.size s (Nat.le_refl _)
 have hlen := Lib.splitB_all blank1 (by decide) 0 _ s rfl
 have c := Any.strings_genSplit_core { Tryz.lays146 with } Tryz.lays146.i9 s blank1 0 (-1) (Lib.countB s blank1 + 1) w hs (by decide) (Nat.zero_le _)
  (fun x c hx => (Any.strings_Index_one { Tryz.lays146 with } x 32 _).mono fun e w' ⟨he, hw⟩ => ⟨by rw [he]; show _ = Ending.returned (Value.int .i64 (Lib.index x.data.toList [32])); rw [Lib.index_one], hw⟩)
  ((Any.strings_Count_one { Tryz.lays146 with } s 32 w).mono fun e w' ⟨he, hw⟩ => ⟨by rw [he]; show _ = Ending.returned (Value.int .i64 ((Lib.count s.data.toList [32] : Nat) : Int)); rw [Lib.count_one]; rfl, hw⟩) (by decide) (by decide) (by rw [zC (by decide)]; omega)
 rw [Nat.add_sub_cancel, hlen] at c
 have e2 : Lib.cellsOf (Lib.splitB blank1 0 (Lib.countB s blank1) s) (Lib.countB s blank1 + 1) = ((wordsOf s).map Value.string).toArray := by rw [← hlen]; exact Lib.cellsOf_full _
 rw [e2] at c
 have c' : Calls Tryz.prog 63 #[.string s, .string blank1, .int .i64 0, .int .i64 (-1)] w fun e w' => e = .returned (.slice (some ⟨w.heap.size, 0, none⟩) (Lib.countB s blank1 + 1) (Lib.countB s blank1 + 1)) ∧ w' = w.alloc (.cells ((wordsOf s).map Value.string).toArray 9) := c
 clear c e2
 rw [wordsOf_len]
 go_enter Tryz.func48, Tryz.ntmps48
 go_wp2_with (go_at_call 63; refine c'.mono ?_; rintro e w' ⟨rfl, hw⟩; rw [hw])
 go_ret
 exact ⟨rfl, rfl⟩
theorem split_at (s : ByteArray) (w : World) (hs : s.size < 4294967281) : Calls Tryz.prog 48 #[.string s, .string blank1] w fun e w' => ∃ g, e = .returned (.slice (some ⟨g, 0, none⟩) (wordsOf s).length (wordsOf s).length) ∧ w'.heap[g]? = some (.cells ((wordsOf s).map Value.string).toArray 9 (0, 0)) ∧ Below w.heap.size w w' ∧ w.heap.size ≤ g := by
 refine (split_calls s w hs).mono ?_
 rintro e w' ⟨rfl, rfl⟩
 exact ⟨_, rfl, blk_new w _, below_alloc (Below.refl _ _) _, Nat.le_refl _⟩
def numOf (t : ByteArray) : Option Int :=
 match Lib.atoiAll t.data.toList with
 | .ok v => if 0 ≤ v ∧ v < 2147483648 ∧ (⟨(Lib.itoa v).toArray⟩ : ByteArray) = t then some v else none
 | _ => none
theorem numOf_ok {t : ByteArray} {v : Int} (h : Lib.atoiAll t.data.toList = .ok v) : numOf t = if 0 ≤ v ∧ v < 2147483648 ∧ (⟨(Lib.itoa v).toArray⟩ : ByteArray) = t then some v else none := by unfold numOf; rw [h]
theorem atoi_ok {t : ByteArray} {v : Int} (h : Lib.atoiAll t.data.toList = .ok v) (w : World) (hs : t.size ≤ 281474976710656) :
 Calls Tryz.prog 84 #[.string t] w fun e w' => e = .returned (.tuple #[.int .i64 v, .nilIface]) ∧ Below w.heap.size w w' := by
 refine (Any.strconv_Atoi_ok Tryz.lays172 t (by omega) v h w).mono ?_
 rintro e w' ⟨rfl, hw⟩
 refine ⟨rfl, ?_⟩
 rcases hw with rfl | ⟨t, rfl⟩
 ·exact Below.refl _ _
 ·exact Lib.bytesWorld_below _ _ _
theorem atoi_bad {t : ByteArray} (h : ∀ v, Lib.atoiAll t.data.toList ≠ .ok v) (w : World) (hL : LaidW w) (hs : t.size ≤ 281474976710656) :
 numOf t = none ∧ Calls Tryz.prog 84 #[.string t] w fun e w' => ∃ (v : Int) (q : Value), e = .returned (.tuple #[.int .i64 v, .iface 150 q]) ∧ Below w.heap.size w w' := by
 obtain ⟨-, ⟨t1, p1, h2⟩, t2, p2, h3⟩ := hL
 rcases h' : Lib.atoiAll t.data.toList with v | _ | _
 ·exact absurd h' (h v)
 ·refine ⟨by unfold numOf; rw [h'], (Any.strconv_Atoi_syntax_var Tryz.lays172 t hs h' t1 p1 w h2).mono ?_⟩
  rintro e w' ⟨N, rfl, _, _, hb⟩
  exact ⟨_, _, rfl, hb⟩
 ·refine ⟨by unfold numOf; rw [h'], (Any.strconv_Atoi_range_var Tryz.lays172 t hs h' t2 p2 w h3).mono ?_⟩
  rintro e w' ⟨N, rfl, _, _, hb⟩
  exact ⟨_, _, rfl, hb⟩
theorem splitB_small (sep : ByteArray) : ∀ (k : Nat) (s : ByteArray), ∀ t ∈ Lib.splitB sep 0 k s, t.size ≤ s.size
 | 0, s, t, h => by rw [List.mem_singleton.1 h]; exact Nat.le_refl _
 | k + 1, s, t, h => by
  unfold Lib.splitB at h
  split at h
  ·rw [List.mem_singleton.1 h]; exact Nat.le_refl _
  ·rcases List.mem_cons.1 h with h | h
   ·rw [h]; simp only [ByteArray.size_extract]; omega
   ·have := splitB_small sep k _ t h
    simp only [ByteArray.size_extract] at this
    omega
theorem wordsOf_small (s : ByteArray) : ∀ t ∈ wordsOf s, t.size ≤ s.size := splitB_small _ _ _
end Go.Proofs.YtniknpjeknmpjaaGreatDoor.Q
namespace Go.Proofs.YtniknpjeknmpjaaGreatDoor.Q
open Go.RowKit Go.Shelf Go.Proofs.YtniknpjeknmpjaaGreatDoor.Plain Go.Proofs.YtniknpjeknmpjaaGreatDoorW.PrintWords Go.Proofs.YtniknpjeknmpjaaGreatDoorW.PrintLast Go.Proofs.YtniknpjeknmpjaaGreatDoorW.PrintMore
set_option linter.unusedVariables false
set_option linter.unusedSimpArgs false
set_option maxHeartbeats 2000000 in
set_option maxRecDepth 100000 in
theorem textnumber_calls (s : ByteArray) (w : World) (hL : LaidW w) (hs : s.size ≤ 281474976710656) :
 Calls Tryz.prog 64 #[.string s] w fun e w' => ∃ n, e = .returned (.tuple #[.int .i64 n, .bool (numOf s).isSome]) ∧ (∀ v, numOf s = some v → n = v) ∧ Below w.heap.size w w' := by
 have HB := zA (Below.refl w.heap.size w)
 have HLd := zA hL
 clear hL
 by_cases hat : ∃ v, Lib.atoiAll s.data.toList = .ok v
 case neg =>
  have hbad := atoi_bad (fun v h => hat ⟨v, h⟩) w HLd.out hs
  have HNo := zA hbad.1
  have HCl := zA hbad.2
  clear hbad hat
  go_enter Tryz.func64, Tryz.ntmps64
  go_wp2_with (go_at_call 84; refine HCl.out.mono ?_; rintro e w2 ⟨v, q, rfl, hb⟩; replace HB := zA (below_step HB.out hb); clear hb)
  go_ret2
  exact ⟨_, by rw [HNo.out]; rfl, (fun v h => by rw [HNo.out] at h; cases h), HB.out⟩
 obtain ⟨v, hv⟩ := hat
 have hno := numOf_ok hv
 have hvb := Lib.atoiAll_bounds hv
 have HV := zA hv
 clear hv
 have FAIL : Aside0 (¬ (0 ≤ v ∧ v < 2147483648 ∧ (⟨(Lib.itoa v).toArray⟩ : ByteArray) = s) → numOf s = none) := ⟨fun h => by rw [hno, zD h]⟩
 have GOOD : Aside0 ((0 ≤ v ∧ v < 2147483648 ∧ (⟨(Lib.itoa v).toArray⟩ : ByteArray) = s) → numOf s = some v) := ⟨fun h => by rw [hno, zC h]⟩
 clear hno
 by_cases f1 : v < 0
 ·have f1b := zG (show ¬ 0 ≤ v by omega)
  have HNo := zA (FAIL.out (fun h => by omega))
  clear FAIL GOOD
  go_enter Tryz.func64, Tryz.ntmps64
  go_wp2_with (go_at_call 84; refine (atoi_ok HV.out w hs).mono ?_; rintro e w2 ⟨rfl, hb⟩; replace HB := zA (below_step HB.out hb); clear hb)
  go_ret2
  exact ⟨_, by rw [HNo.out]; rfl, (fun v h => by rw [HNo.out] at h; cases h), HB.out⟩
 have f1b := zF (show 0 ≤ v by omega)
 by_cases f2 : 2147483648 ≤ v
 ·have f2b := zG (show ¬ v < 2147483648 by omega)
  have HNo := zA (FAIL.out (fun h => by omega))
  clear FAIL GOOD
  go_enter Tryz.func64, Tryz.ntmps64
  go_wp2_with (go_at_call 84; refine (atoi_ok HV.out w hs).mono ?_; rintro e w2 ⟨rfl, hb⟩; replace HB := zA (below_step HB.out hb); clear hb)
  go_ret2
  exact ⟨_, by rw [HNo.out]; rfl, (fun v h => by rw [HNo.out] at h; cases h), HB.out⟩
 have f2b := zF (show v < 2147483648 by omega)
 obtain ⟨u, hu⟩ : ∃ u, u = (⟨(Lib.itoa v).toArray⟩ : ByteArray) := ⟨_, rfl⟩
 have HF := zA (show strconv_Itoa_34.f v = some u by unfold strconv_Itoa_34.f; rw [zC (by omega), hu])
 rw [← hu] at FAIL GOOD
 clear hu
 by_cases f3 : u.toList = s.toList
 case neg =>
  obtain ⟨f3a, f3b⟩ := qn f3
  have HNo := zA (FAIL.out (fun h => f3 (by rw [h.2.2])))
  clear FAIL GOOD
  go_enter Tryz.func64, Tryz.ntmps64
  go_wp2_with (first
   | (go_at_call 84; refine (atoi_ok HV.out w hs).mono ?_; rintro e w2 ⟨rfl, hb⟩; replace HB := zA (below_step HB.out hb); replace HLd := zA (HLd.out.below hb); clear hb)
   | (go_at_call 34; refine (strconv_Itoa_34.calls v u _ HLd.out HF.out).mono ?_; rintro e w3 ⟨rfl, hb⟩; replace HB := zA (below_step HB.out hb); clear hb))
  go_ret2
  exact ⟨_, by rw [HNo.out]; rfl, (fun v h => by rw [HNo.out] at h; cases h), HB.out⟩
 obtain ⟨f3a, f3b⟩ := qe f3
 have HG1 := zA (GOOD.out ⟨by omega, by omega, toList_inj.1 f3⟩)
 clear FAIL GOOD
 go_enter Tryz.func64, Tryz.ntmps64
 go_wp2_with (first
  | (go_at_call 84; refine (atoi_ok HV.out w hs).mono ?_; rintro e w2 ⟨rfl, hb⟩; replace HB := zA (below_step HB.out hb); replace HLd := zA (HLd.out.below hb); clear hb)
  | (go_at_call 34; refine (strconv_Itoa_34.calls v u _ HLd.out HF.out).mono ?_; rintro e w3 ⟨rfl, hb⟩; replace HB := zA (below_step HB.out hb); clear hb))
 go_ret2
 exact ⟨_, by rw [HG1.out]; rfl, (fun v' h => by rw [HG1.out] at h; cases h; rfl), HB.out⟩
def isBy (wd : ByteArray) (code : Bool) (op : Int) : Option (Int × ByteArray × ByteArray) := match text_of.f op code with
 | some (o, w1, fs, true) => if w1.toList = wd.toList then some (o, w1, fs) else none
 | _ => none
def byFrom (wd : ByteArray) (code : Bool) : Nat → Int → Option (Int × ByteArray × ByteArray)
 | 0, _ => none
 | k + 1, i => match isBy wd code i with
  | some r => some r
  | none => byFrom wd code k (i + 1)
def byOf (wd : ByteArray) (code : Bool) : Option (Int × ByteArray × ByteArray) := byFrom wd code 23 0
def byVal : Option (Int × ByteArray × ByteArray) → Value
 | some (o, w1, fs) => .tuple #[.agg #[.int .i64 o, .string w1, .string fs], .bool true]
 | none => .tuple #[.agg #[.int .i64 0, .string ⟨#[]⟩, .string ⟨#[]⟩], .bool false]
theorem isBy_false {wd w1 fs : ByteArray} {code : Bool} {i o : Int} (h : text_of.f i code = some (o, w1, fs, false)) : isBy wd code i = none := by unfold isBy; rw [h]
theorem isBy_true {wd w1 fs : ByteArray} {code : Bool} {i o : Int} (h : text_of.f i code = some (o, w1, fs, true)) : isBy wd code i = if w1.toList = wd.toList then some (o, w1, fs) else none := by unfold isBy; rw [h]
theorem ite_some {α : Type} {c : Prop} [Decidable c] {a b : Option α} (ha : ∃ r, a = some r) (hb : ∃ r, b = some r) : ∃ r, (if c then a else b) = some r := by split <;> assumption
theorem text_of_total (op : Int) (code : Bool) : ∃ r, text_of.f op code = some r := by
 unfold text_of.f
 repeat' first | refine ite_some ?_ ?_ | exact ⟨_, rfl⟩
set_option maxHeartbeats 4000000 in
set_option maxRecDepth 100000 in
theorem by_calls (wd : ByteArray) (code : Bool) (w : World) :
 Calls Tryz.prog 65 #[.string wd, .bool code] w fun e w' => e = .returned (byVal (byOf wd code)) ∧ Below w.heap.size w w' := by
 have HB := zA (Below.refl w.heap.size w)
 have hu94 := Tryz.underlying102
 go_enter Tryz.func65, Tryz.ntmps65
 go_wp2_with ((with_reducible refine gate_dst (N := 4) rfl ?_); refine box_event (by rfl) (N := 4) (by rfl) (cs := #[.int .i64 0, .string (⟨#[]⟩ : ByteArray), .string (⟨#[]⟩ : ByteArray)]) (t := 102) ?hr ?_; (case hr => go_simp <;> rfl); intro gr hg w1 hbox hb; have BR := zA hbox; have HGr := zA (show w.heap.size ≤ gr by rw [hg]; exact HB.out.size); replace HB := zA (below_step HB.out hb); clear hb hbox hg)
 go_loopg [9] 23 (fun kq v9 w' => ∃ (i : Nat), v9 = .int .i64 (i : Int) ∧ Aside0 (kq + i = 23) ∧ Aside0 (byFrom wd code kq (i : Int) = byOf wd code) ∧ Aside0 (w'.heap[gr]? = some (.cells #[.int .i64 0, .string (⟨#[]⟩ : ByteArray), .string (⟨#[]⟩ : ByteArray)] 102 (0, 0))) ∧ Aside0 (Below w.heap.size w w'))
 case atStart => exact ⟨0, by first | rfl | simp, ⟨rfl⟩, ⟨rfl⟩, BR, HB⟩
 case round =>
  clear BR HB
  obtain ⟨i, rfl, HK, HF, BR, HB⟩ := hrel
  cases gk with
  | zero =>
   have hi : i = 23 := by have := HK.out; omega
   subst hi
   have HN := zA (show byOf wd code = none from HF.out.symm)
   have z1 := bk3 BR.out
   go_wp2_with fail
   refine bodyPost_ret (results_ct rfl _ _ gr 102 #[.int .i64 0, .string (⟨#[]⟩ : ByteArray), .string (⟨#[]⟩ : ByteArray)] (0, 0) _ rfl (blk_put (blk_put (blk_put BR.out 0 _ rfl) 1 _ rfl) 2 _ rfl) Tryz.underlying102 rfl (by kernel_rfl)) rfl ?_
   exact ⟨by rw [HN.out]; rfl, ((HB.out.setCell (p := ⟨gr, 0, none⟩) HGr.out _).setCell (p := ⟨gr, 1, none⟩) HGr.out _).setCell (p := ⟨gr, 2, none⟩) HGr.out _⟩
  | succ k1 =>
   have hi : i < 23 := by have := HK.out; omega
   have d1b := zF (show ((i : Int) < 23) by omega)
   have d1c := zF hi
   obtain ⟨⟨o, w1', fs, is⟩, hof⟩ := text_of_total (i : Int) code
   have HOf := zA hof
   have HFs : Aside0 (byOf wd code = (match isBy wd code (i : Int) with | some r => some r | none => byFrom wd code k1 ((i : Int) + 1))) := ⟨HF.out.symm⟩
   clear hof HF
   cases is with
   | false =>
    have HIs := zA (isBy_false (wd := wd) HOf.out)
    go_wp2_with (first
     | (go_at_call 59; refine (text_of.calls (i : Int) code o w1' fs false _ HOf.out).mono ?_; rintro e w2 ⟨rfl, hb⟩; replace BR := zA (blk_below BR.out hb); replace HB := zA (below_step HB.out hb); clear hb)
     | ((with_reducible refine gate_dst (N := 7) rfl ?_); refine box_event (by rfl) (N := 7) (by rfl) (cs := #[.int .i64 0, .string (⟨#[]⟩ : ByteArray), .string (⟨#[]⟩ : ByteArray)]) (t := 102) ?hr ?_; (case hr => go_simp <;> rfl); intro gf hg w3 hbox hb; have BF := zA hbox; have HGf := zA (show w.heap.size ≤ gf by rw [hg]; exact HB.out.size); have HNe := zA (show gr ≠ gf by rw [hg]; exact Nat.ne_of_lt (blk_lt BR.out)); replace BR := zA (blk_below BR.out hb); replace HB := zA (below_step HB.out hb); clear hb hbox hg; have z3 := bk3 BF.out))
    go_roundg k1
    case measure => have := HK.out; omega
    case rel => exact ⟨i + 1, by go_num, ⟨by have := HK.out; omega⟩, ⟨by rw [HFs.out, HIs.out]; first | rfl | simp⟩, ⟨blk_far (blk_far (blk_far BR.out (p := ⟨gf, 0, none⟩) HNe.out _) (p := ⟨gf, 1, none⟩) HNe.out _) (p := ⟨gf, 2, none⟩) HNe.out _⟩, ⟨((HB.out.setCell (p := ⟨gf, 0, none⟩) HGf.out _).setCell (p := ⟨gf, 1, none⟩) HGf.out _).setCell (p := ⟨gf, 2, none⟩) HGf.out _⟩⟩
   | true =>
    have HIs := zA (isBy_true (wd := wd) HOf.out)
    by_cases c1 : w1'.toList = wd.toList
    ·obtain ⟨c1a, c1b⟩ := qe c1
     have HY := zA (show byOf wd code = some (o, w1', fs) from by rw [HFs.out, HIs.out]; simp only [zC c1])
     clear c1 HFs HIs
     go_wp2_with (first
      | (go_at_call 59; refine (text_of.calls (i : Int) code o w1' fs true _ HOf.out).mono ?_; rintro e w2 ⟨rfl, hb⟩; replace BR := zA (blk_below BR.out hb); replace HB := zA (below_step HB.out hb); clear hb)
      | ((with_reducible refine gate_dst (N := 7) rfl ?_); refine box_event (by rfl) (N := 7) (by rfl) (cs := #[.int .i64 0, .string (⟨#[]⟩ : ByteArray), .string (⟨#[]⟩ : ByteArray)]) (t := 102) ?hr ?_; (case hr => go_simp <;> rfl); intro gf hg w3 hbox hb; have BF := zA hbox; have HGf := zA (show w.heap.size ≤ gf by rw [hg]; exact HB.out.size); have HNe := zA (show gr ≠ gf by rw [hg]; exact Nat.ne_of_lt (blk_lt BR.out)); replace BR := zA (blk_below BR.out hb); replace HB := zA (below_step HB.out hb); clear hb hbox hg; have z3 := bk3 BF.out; have z4 := bk3 BR.out; have hne := HNe.out; have hne2 := Ne.symm HNe.out))
     refine bodyPost_ret (results_ct rfl _ _ gr 102 #[.int .i64 o, .string w1', .string fs] (0, 0) _ rfl (blk_put (blk_put (blk_put (blk_far (blk_far (blk_far BR.out (p := ⟨gf, 0, none⟩) HNe.out _) (p := ⟨gf, 1, none⟩) HNe.out _) (p := ⟨gf, 2, none⟩) HNe.out _) 0 _ rfl) 1 _ rfl) 2 _ rfl) Tryz.underlying102 rfl (by kernel_rfl)) rfl ?_
     exact ⟨by rw [HY.out]; rfl, ((((((HB.out.setCell (p := ⟨gf, 0, none⟩) HGf.out _).setCell (p := ⟨gf, 1, none⟩) HGf.out _).setCell (p := ⟨gf, 2, none⟩) HGf.out _).setCell (p := ⟨gr, 0, none⟩) HGr.out _).setCell (p := ⟨gr, 1, none⟩) HGr.out _).setCell (p := ⟨gr, 2, none⟩) HGr.out _)⟩
    ·obtain ⟨c1a, c1b⟩ := qn c1
     go_wp2_with (first
      | (go_at_call 59; refine (text_of.calls (i : Int) code o w1' fs true _ HOf.out).mono ?_; rintro e w2 ⟨rfl, hb⟩; replace BR := zA (blk_below BR.out hb); replace HB := zA (below_step HB.out hb); clear hb)
      | ((with_reducible refine gate_dst (N := 7) rfl ?_); refine box_event (by rfl) (N := 7) (by rfl) (cs := #[.int .i64 0, .string (⟨#[]⟩ : ByteArray), .string (⟨#[]⟩ : ByteArray)]) (t := 102) ?hr ?_; (case hr => go_simp <;> rfl); intro gf hg w3 hbox hb; have BF := zA hbox; have HGf := zA (show w.heap.size ≤ gf by rw [hg]; exact HB.out.size); have HNe := zA (show gr ≠ gf by rw [hg]; exact Nat.ne_of_lt (blk_lt BR.out)); replace BR := zA (blk_below BR.out hb); replace HB := zA (below_step HB.out hb); clear hb hbox hg; have z3 := bk3 BF.out))
     go_roundg k1
     case measure => have := HK.out; omega
     case rel => exact ⟨i + 1, by go_num, ⟨by have := HK.out; omega⟩, ⟨by rw [HFs.out, HIs.out]; simp only [zD c1]; rfl⟩, ⟨blk_far (blk_far (blk_far BR.out (p := ⟨gf, 0, none⟩) HNe.out _) (p := ⟨gf, 1, none⟩) HNe.out _) (p := ⟨gf, 2, none⟩) HNe.out _⟩, ⟨((HB.out.setCell (p := ⟨gf, 0, none⟩) HGf.out _).setCell (p := ⟨gf, 1, none⟩) HGf.out _).setCell (p := ⟨gf, 2, none⟩) HGf.out _⟩⟩
end Go.Proofs.YtniknpjeknmpjaaGreatDoor.Q
namespace Go.Proofs.YtniknpjeknmpjaaGreatDoor.PlainName
open Go Go.RowKit Go.Proofs.YtniknpjeknmpjaaGreatDoorW.PrintWords Go.Proofs.YtniknpjeknmpjaaGreatDoorW.PrintMore Go.Proofs.YtniknpjeknmpjaaGreatDoor.Q Go.Proofs.YtniknpjeknmpjaaGreatDoor.Plain
set_option linter.unusedVariables false
set_option linter.unusedSimpArgs false
def lowD (x : UInt8) : Bool := decide ((97 ≤ x.toNat ∧ x.toNat ≤ 122) ∨ (48 ≤ x.toNat ∧ x.toNat ≤ 57))
def nameOk (s : ByteArray) : Bool := decide (1 ≤ s.size ∧ s.size ≤ 12 ∧ 97 ≤ bt s 0) && s.data.toList.all lowD
theorem cut_has (x : UInt8) : nameCut.data.toList.contains x = lowD x := by
 have h : ∀ n, n < 256 → nameCut.data.toList.contains (UInt8.ofNat n) = lowD (UInt8.ofNat n) := by decide +kernel
 have := h x.toNat x.toNat_lt
 rwa [UInt8.ofNat_toNat] at this
theorem dw_nil {p : UInt8 → Bool} : ∀ {l : List UInt8}, l.dropWhile p = [] ↔ ∀ x, x ∈ l → p x = true
 | [] => by simp
 | a :: t => by
  rw [List.dropWhile_cons]
  by_cases h : p a = true
  ·rw [zC h, dw_nil (l := t)]
   constructor
   ·intro g x hx
    rcases List.mem_cons.1 hx with rfl | hx
    ·exact h
    ·exact g x hx
   ·exact fun g x hx => g x (List.mem_cons_of_mem _ hx)
  ·rw [zD h]
   constructor
   ·intro g
    exact absurd g (by simp)
   ·intro g
    exact absurd (g a List.mem_cons_self) h
theorem trim_nil (l cs : List UInt8) : Lib.trimS l cs = [] ↔ l.all (cs.contains ·) = true := by
 unfold Lib.trimS Lib.trimLeftS Lib.trimRightS
 constructor
 ·intro h
  rw [dw_nil] at h
  rw [List.all_eq_true]
  intro x hx
  have h2 : x ∈ l.reverse := List.mem_reverse.2 hx
  rw [← List.takeWhile_append_dropWhile (p := fun x => cs.contains x) (l := l.reverse)] at h2
  rcases List.mem_append.1 h2 with h3 | h3
  ·exact (List.all_eq_true.1 (List.all_takeWhile (p := fun x => cs.contains x) (l := l.reverse))) x h3
  ·exact h x (List.mem_reverse.2 h3)
 ·intro h
  have h1 : l.reverse.dropWhile (cs.contains ·) = [] := by
   rw [dw_nil]
   intro x hx
   exact List.all_eq_true.1 h x (List.mem_reverse.1 hx)
  rw [h1]
  rfl
theorem size_list (s : ByteArray) : s.data.toList.length = s.size := by simp
theorem bt_get {s : ByteArray} {j : Nat} (h : j < s.data.toList.length) : bt s (j : Int) = ((s.data.toList[j]).toNat : Int) := by
 have hs := size_list s
 unfold bt
 rw [dif_pos (by omega)]
 rfl
theorem name_eq (s : ByteArray) : ir_Name.f s = some (nameOk s) := by
 have hs := size_list s
 unfold ir_Name.f
 rw [toList_data]
 by_cases h0 : s.data.toList = []
 ·have : s.size = 0 := by
   rw [h0] at hs
   exact hs.symm
  rw [zC h0]
  unfold nameOk
  rw [zG (by omega)]
  rfl
 ·have h1 : 0 < s.size := by
   rw [← hs]
   exact List.length_pos_iff.2 h0
  rw [zD h0]
  by_cases h2 : (s.size : Int) > 12
  ·rw [zC h2]
   unfold nameOk
   rw [zG (by omega)]
   rfl
  ·rw [zD h2, zC (by omega)]
   by_cases h3 : bt s 0 < 97
   ·rw [zC h3]
    unfold nameOk
    rw [zG (by omega)]
    rfl
   ·rw [zD h3]
    unfold strings_Trim.f
    rw [zC ⟨by omega, rfl⟩]
    simp only [zJ]
    rw [toList_data]
    unfold nameOk
    rw [zF (by omega), Bool.true_and, List.toList_toArray]
    congr 1
    have hc : s.data.toList.all (nameCut.data.toList.contains ·) = s.data.toList.all lowD := by
     congr 1
     funext x
     exact cut_has x
    have ht := trim_nil s.data.toList nameCut.data.toList
    rw [hc] at ht
    by_cases ha : s.data.toList.all lowD = true
    ·rw [ha]
     exact beq_iff_eq.2 (ht.2 ha)
    ·rw [Bool.not_eq_true _ |>.mp ha]
     exact beq_eq_false_iff_ne.2 fun e => ha (ht.1 e)
def restOk (s : ByteArray) (j : Nat) : Bool := (s.data.toList.drop j).all lowD && decide (j = 0 → 97 ≤ bt s 0)
theorem refname_loop (s : ByteArray) (hl : s.size ≤ 12) : ∀ (d j : Nat), s.size - j = d → j ≤ s.size → (j = 0 → 0 < s.size) → Ev (fun k => cubbyref07_Name.l0 k s (j : Int)) (restOk s j) := by
 have hs := size_list s
 intro d
 induction d with
 | zero =>
  intro j hd hj h0
  have : restOk s j = true := by
   unfold restOk
   rw [List.drop_eq_nil_of_le (by omega)]
   simp
   omega
  rw [this]
  exact Ev.step (f := fun _ => some true) (fun k => by simp only [cubbyref07_Name.l0]; rw [zD (by omega)]) (Ev.now _)
 | succ d ih =>
  intro j hd hj h0
  have hlt : j < s.data.toList.length := by omega
  have hb := bt_get hlt
  have hR : restOk s j = (lowD (s.data.toList[j]) && decide (j = 0 → 97 ≤ bt s 0) && restOk s (j + 1)) := by
   unfold restOk
   rw [drop_cons hlt]
   simp
   cases lowD s.data.toList[j] <;> cases (List.drop (j + 1) s.data.toList).all lowD <;> simp
  have hlow : lowD (s.data.toList[j]) = decide ((97 ≤ bt s (j : Int) ∧ bt s (j : Int) ≤ 122) ∨ (48 ≤ bt s (j : Int) ∧ bt s (j : Int) ≤ 57)) := by
   unfold lowD
   rw [hb]
   apply decide_eq_decide.2
   omega
  have hj0 : j = 0 → bt s (j : Int) = bt s 0 := by
   rintro rfl
   rfl
  rw [hR, hlow]
  have hstep : ∀ k, cubbyref07_Name.l0 (k + 1) s (j : Int) = (if (97 ≤ bt s (j : Int) ∧ bt s (j : Int) ≤ 122) ∨ ((48 ≤ bt s (j : Int) ∧ bt s (j : Int) ≤ 57) ∧ j ≠ 0) then cubbyref07_Name.l0 k s ((j + 1 : Nat) : Int) else some false) := by
   intro k
   simp only [cubbyref07_Name.l0]
   rw [zC (by omega : (j : Int) < (s.size : Int)), zC (by omega : (0 : Int) ≤ (j : Int)), wrap_nat (by omega)]
   repeat' split
   all_goals first
    | rfl
    | omega
  by_cases c : (97 ≤ bt s (j : Int) ∧ bt s (j : Int) ≤ 122) ∨ ((48 ≤ bt s (j : Int) ∧ bt s (j : Int) ≤ 57) ∧ j ≠ 0)
  ·refine Ev.step (fun k => (hstep k).trans (zC c)) ?_
   rw [zF (by omega), zF (by intro h; have := hj0 h; omega), Bool.true_and, Bool.true_and]
   exact ih (j + 1) (by omega) (by omega) (by omega)
  ·refine Ev.step (f := fun _ => some false) (fun k => (hstep k).trans (zD c)) ?_
   have : (decide ((97 ≤ bt s (j : Int) ∧ bt s (j : Int) ≤ 122) ∨ (48 ≤ bt s (j : Int) ∧ bt s (j : Int) ≤ 57)) && decide (j = 0 → 97 ≤ bt s 0)) = false := by
    by_cases c1 : (97 ≤ bt s (j : Int) ∧ bt s (j : Int) ≤ 122) ∨ (48 ≤ bt s (j : Int) ∧ bt s (j : Int) ≤ 57)
    ·rw [zG (p := (j = 0 → 97 ≤ bt s 0)) (fun h => by
      have h9 : j = 0 := by omega
      have := hj0 h9
      have := h h9
      omega), Bool.and_false]
    ·rw [zG c1, Bool.false_and]
   rw [this, Bool.false_and]
   exact Ev.now _
theorem refname_ev (s : ByteArray) : Ev (fun k => cubbyref07_Name.f k s) (nameOk s) := by
 have hyes : (s.size < 1 ∨ 12 < s.size) → Ev (fun k => cubbyref07_Name.j0 k s true) (nameOk s) := fun h => by
  have : nameOk s = false := by
   unfold nameOk
   rw [zG (by omega)]
   rfl
  rw [this]
  exact Ev.step (f := fun _ => some false) (fun k => by simp only [cubbyref07_Name.j0, if_true]) (Ev.now _)
 by_cases h1 : (s.size : Int) < 1
 ·exact Ev.congr (fun k => by unfold cubbyref07_Name.f; rw [zC h1]) (hyes (by omega))
 refine Ev.congr (f := fun k => cubbyref07_Name.j0 k s (decide ((s.size : Int) > 12))) (fun k => by unfold cubbyref07_Name.f; rw [zD h1]) ?_
 by_cases h2 : (s.size : Int) > 12
 ·rw [zF h2]
  exact hyes (by omega)
 ·rw [zG h2]
  refine Ev.step (f := fun k => cubbyref07_Name.l0 k s ((0 : Nat) : Int)) (fun k => by simp only [cubbyref07_Name.j0]; rw [zD (by simp)]; rfl) ?_
  have := refname_loop s (by omega) s.size 0 (by omega) (by omega) (by omega)
  have hR : restOk s 0 = nameOk s := by
   unfold restOk nameOk
   rw [List.drop_zero, Bool.and_comm]
   congr 1
   apply decide_eq_decide.2
   constructor
   ·intro h
    exact ⟨by omega, by omega, h rfl⟩
   ·intro h _
    exact h.2.2
  rw [← hR]
  exact this
end Go.Proofs.YtniknpjeknmpjaaGreatDoor.PlainName
namespace Go.Proofs.YtniknpjeknmpjaaGreatDoor.Q
open Go.RowKit Go.Shelf Go.Proofs.YtniknpjeknmpjaaGreatDoor.Plain Go.Proofs.YtniknpjeknmpjaaGreatDoor.PlainName Go.Proofs.YtniknpjeknmpjaaGreatDoorW.PrintWords Go.Proofs.YtniknpjeknmpjaaGreatDoorW.PrintLast Go.Proofs.YtniknpjeknmpjaaGreatDoorW.PrintMore
set_option linter.unusedVariables false
set_option linter.unusedSimpArgs false
theorem iter_cells2 {w : World} {k0 : Nat} {s : ByteArray} {p q : Nat} (hi : w.heap[k0]? = some (.stringIter s p)) {k t : Nat} {cs : Array Value} {fr : Nat × Nat} (hk : w.heap[k]? = some (.cells cs t fr)) : (w.iterAt k0 s q).heap[k]? = some (.cells cs t fr) := by
 refine (Lib.iterAt_other w k0 k s q (fun e => ?_)).trans hk
 subst e
 have := hi.symm.trans hk
 simp at this
def setF (c : UInt8) (n : Int) (x : SIns) : SIns := if c = 68 then { x with f1 := n } else if c = 65 then { x with f2 := n } else if c = 66 then { x with f3 := n } else x
def fillR (ws : List ByteArray) : List UInt8 → Nat → SIns → Int × SIns
 | [], _, x => (0, x)
 | c :: r, at_, x =>
  if c = 78 then (match ws[at_]? with | some t => if nameOk t = true then fillR ws r (at_ + 1) { x with f4 := t } else (80, x) | none => (80, x))
  else if c = 76 then (match (ws.drop at_).mapM numOf with | some l => fillR ws r at_ { x with f5 := x.f5 ++ l } | none => (81, x))
  else (match ws[at_]? with | some t => (match numOf t with | some n => fillR ws r (at_ + 1) (setF c n x) | none => (81, x)) | none => (81, x))
def wants : List UInt8 → Nat
 | [] => 0
 | c :: r => (if c = 76 then 0 else 1) + wants r
def WordsAt (gw o : Nat) (ws : List ByteArray) (w : World) : Prop := ∃ cs : Array Value, w.heap[gw]? = some (.cells cs 9 (0, 0)) ∧ ∀ (i : Nat) t, ws[i]? = some t → cs[o + i]? = some (.string t)
theorem WordsAt.cell {gw o : Nat} {ws : List ByteArray} {w : World} (h : WordsAt gw o ws w) {i : Nat} {t : ByteArray} (ht : ws[i]? = some t) : w.cell? ⟨gw, o + i, none⟩ = some (.string t) := by
 obtain ⟨cs, hk, hc⟩ := h
 exact (blk_cell hk (o + i)).trans (hc i t ht)
theorem WordsAt.low {gw o D : Nat} {ws : List ByteArray} {w w' : World} (h : WordsAt gw o ws w) (hg : gw < D) (hb : Below D w w') : WordsAt gw o ws w' := by
 obtain ⟨cs, hk, hc⟩ := h
 exact ⟨cs, (hb.block gw hg).trans hk, hc⟩
theorem WordsAt.tail {gw o : Nat} {a : ByteArray} {ws : List ByteArray} {w : World} (h : WordsAt gw o (a :: ws) w) : WordsAt gw (o + 1) ws w := by
 obtain ⟨cs, hk, hc⟩ := h
 exact ⟨cs, hk, fun i t ht => by have := hc (i + 1) t (by simpa using ht); rwa [show o + (i + 1) = o + 1 + i by omega] at this⟩
structure FillAt (D gx : Nat) (x : SIns) (w : World) : Prop where
 ge : D ≤ gx
 at_ : ∃ v5, w.heap[gx]? = some (.cells #[.int .i64 x.f0, .int .i64 x.f1, .int .i64 x.f2, .int .i64 x.f3, .string x.f4, v5] 44 (0, 0)) ∧ Kd.R (Kd.int .i64) 3 w D (fun _ => True) v5 x.f5
section
variable {D gx gf k0 gw : Nat} {cf : Array Value} {fs : ByteArray} {ws : List ByteArray} {w0 w w1 w2 : World} {i : Nat} {x : SIns}
theorem FillAt.below (h : FillAt D gx x w) (hb : Below w.heap.size w w1) : FillAt D gx x w1 := by
 obtain ⟨ge, v5, hk, hr⟩ := h
 exact ⟨ge, v5, blk_below hk hb, Kd.R_below hr hb⟩
structure FillSt (gx gf k0 : Nat) (cf : Array Value) (fs : ByteArray) (w0 w : World) (i : Nat) (x : SIns) (w' : World) : Prop where
 hD : w0.heap.size ≤ w.heap.size
 hx : gx < w.heap.size
 hf : w.heap.size ≤ gf
 hi : w.heap.size ≤ k0
 fx : FillAt w0.heap.size gx x w'
 it : w'.heap[k0]? = some (.stringIter fs i)
 bf : w'.heap[gf]? = some (.cells cf 102 (0, 0))
 bl : Below w0.heap.size w0 w'
theorem FillSt.next (s : FillSt gx gf k0 cf fs w0 w i x w1) (j : Nat) : FillSt gx gf k0 cf fs w0 w j x (w1.iterAt k0 fs j) where
 hD := s.hD
 hx := s.hx
 hf := s.hf
 hi := s.hi
 fx := by
  obtain ⟨ge, v5, hk, hr⟩ := s.fx
  refine ⟨ge, v5, iter_cells2 s.it hk, Kd.R_mono (Kd.R_step (Kd.R_bound hr) (fun k hk _ => ?_)) (fun k hk => hk.1)⟩
  obtain ⟨_, _, _, q, hq, cells, hk2⟩ := hk
  exact (iter_cells2 s.it hk2).trans hk2.symm
 it := Lib.iterAt_heap w1 k0 fs i j s.it
 bf := iter_cells2 s.it s.bf
 bl := Lib.below_iterAt s.bl (Nat.le_trans s.hD s.hi) fs j
theorem FillSt.later (s : FillSt gx gf k0 cf fs w0 w i x w1) (hb : Below w1.heap.size w1 w2) : FillSt gx gf k0 cf fs w0 w i x w2 where
 hD := s.hD
 hx := s.hx
 hf := s.hf
 hi := s.hi
 fx := s.fx.below hb
 it := (hb.block k0 (Array.getElem?_eq_some_iff.1 s.it).1).trans s.it
 bf := blk_below s.bf hb
 bl := below_step s.bl hb
theorem FillSt.gx_ne (s : FillSt gx gf k0 cf fs w0 w i x w1) : gf ≠ gx ∧ k0 ≠ gx := ⟨by have := s.hx; have := s.hf; omega, by have := s.hx; have := s.hi; omega⟩
theorem other_iter {k0 g j p : Nat} {u : Value} {s : ByteArray} (h : w.heap[k0]? = some (.stringIter s p)) (hn : k0 ≠ g) : (w.setCell ⟨g, j, none⟩ u).heap[k0]? = some (.stringIter s p) := (heap_setCell_other _ _ _ _ hn).trans h
theorem FillSt.set {y : SIns} (s : FillSt gx gf k0 cf fs w0 w i x w1) (j : Nat) (u : Value) (h5 : y.f5 = x.f5) (hc : ∀ v5 : Value, (#[Value.int .i64 x.f0, .int .i64 x.f1, .int .i64 x.f2, .int .i64 x.f3, .string x.f4, v5] : Array Value).setIfInBounds j u = #[.int .i64 y.f0, .int .i64 y.f1, .int .i64 y.f2, .int .i64 y.f3, .string y.f4, v5]) :
 FillSt gx gf k0 cf fs w0 w i y (w1.setCell ⟨gx, j, none⟩ u) where
 hD := s.hD
 hx := s.hx
 hf := s.hf
 hi := s.hi
 fx := by
  obtain ⟨ge, v5, hk, hr⟩ := s.fx
  refine ⟨ge, v5, ?_, ?_⟩
  ·rw [← hc v5]; exact blk_put hk j u rfl
  ·rw [h5]; exact Kd.R_set hr hk (by decide) j u
 it := other_iter s.it s.gx_ne.2
 bf := blk_far s.bf (p := ⟨gx, j, none⟩) s.gx_ne.1 _
 bl := s.bl.setCell (p := ⟨gx, j, none⟩) s.fx.ge u
theorem FillSt.app {v5 v1 : Value} {n : Int} (s : FillSt gx gf k0 cf fs w0 w i x w1) (hk : w1.heap[gx]? = some (.cells #[.int .i64 x.f0, .int .i64 x.f1, .int .i64 x.f2, .int .i64 x.f3, .string x.f4, v5] 44 (0, 0))) (hr : Kd.R (Kd.int .i64) 3 w1 w0.heap.size (fun _ => True) v5 x.f5)
 (ho : Kd.R (Kd.int .i64) 3 w2 w0.heap.size (fun _ => True) v1 (x.f5 ++ [n])) (hb : Below w0.heap.size w1 w2) (hg : w1.grownBy w2 v5.ownBlock) : FillSt gx gf k0 cf fs w0 w i { x with f5 := x.f5 ++ [n] } (w2.setCell ⟨gx, 5, none⟩ v1) := by
 have keep : ∀ (k : Nat) (o : Obj), w1.heap[k]? = some o → (∀ cs, o ≠ .cells cs 3 (0, 0)) → w2.heap[k]? = some o := fun k o hk2 hn => (hg.block k (Array.getElem?_eq_some_iff.1 hk2).1 (fun e => by
  obtain ⟨cs, h2⟩ := Kd.R_typed hr k e.symm
  exact hn cs (zI (hk2.symm.trans h2)))).trans hk2
 have hk2 := keep gx _ hk (fun cs e => by injection e with _ e2 _; exact absurd e2 (by decide))
 exact ⟨s.hD, s.hx, s.hf, s.hi, ⟨s.fx.ge, v1, blk_put hk2 5 v1 rfl, Kd.R_set ho hk2 (by decide) 5 v1⟩, other_iter (keep k0 _ s.it (fun cs e => by cases e)) s.gx_ne.2, blk_far (keep gf _ s.bf (fun cs e => by injection e with _ e2 _; exact absurd e2 (by decide))) (p := ⟨gx, 5, none⟩) s.gx_ne.1 _, (s.bl.trans hb).setCell (p := ⟨gx, 5, none⟩) s.fx.ge v1⟩
end
theorem fillR_name {ws : List ByteArray} {r : List UInt8} {at_ : Nat} {x : SIns} {t : ByteArray} (h : ws[at_]? = some t) : fillR ws (78 :: r) at_ x = if nameOk t = true then fillR ws r (at_ + 1) { x with f4 := t } else (80, x) := by
 rw [fillR, zC rfl, h]
theorem fillR_num {ws : List ByteArray} {c : UInt8} {r : List UInt8} {at_ : Nat} {x : SIns} {t : ByteArray} (h1 : c ≠ 78) (h2 : c ≠ 76) (h : ws[at_]? = some t) : fillR ws (c :: r) at_ x = match numOf t with | some n => fillR ws r (at_ + 1) (setF c n x) | none => (81, x) := by
 rw [fillR, zD h1, zD h2, h]
theorem mapM_at {ws : List ByteArray} {j : Nat} {t : ByteArray} (h : ws[j]? = some t) : (ws.drop j).mapM numOf = (numOf t).bind fun v => ((ws.drop (j + 1)).mapM numOf).map (v :: ·) := by
 obtain ⟨h1, h2⟩ := List.getElem?_eq_some_iff.1 h
 rw [List.drop_eq_getElem_cons h1, h2, List.mapM_cons]
 cases numOf t with
 | none => rfl
 | some v => cases (ws.drop (j + 1)).mapM numOf <;> rfl
theorem fillR_rest {ws : List ByteArray} {r : List UInt8} {at_ : Nat} {x : SIns} : fillR ws (76 :: r) at_ x = match (ws.drop at_).mapM numOf with | some l => fillR ws r at_ { x with f5 := x.f5 ++ l } | none => (81, x) := by
 rw [fillR, zD (by decide), zC rfl]
set_option maxHeartbeats 8000000 in
set_option maxRecDepth 100000 in
theorem fill_calls {w0 w : World} (hL : LaidW w0) (hB : Below w0.heap.size w0 w) (gx gw : Nat) (x : SIns) (hx : FillAt w0.heap.size gx x w) (hlt : gx < w.heap.size) (op : Int) (wd fs : ByteArray) (ws : List ByteArray) (c : Nat) (hw : WordsAt gw 1 ws w0)
 (hfs : ∀ b ∈ fs.data.toList, b = 68 ∨ b = 65 ∨ b = 66 ∨ b = 78 ∨ b = 76) (hn : wants fs.data.toList ≤ ws.length) (hwl : ws.length ≤ 100000) (hws : ∀ t ∈ ws, t.size ≤ 100000) (hf : fs.size ≤ 10) (h5 : x.f5.length + 10 * ws.length ≤ 10000000) (hc : ws.length ≤ c) :
 Calls Tryz.prog 67 #[.pointer (some ⟨gx, 0, none⟩), .agg #[.int .i64 op, .string wd, .string fs], .slice (some ⟨gw, 1, none⟩) ws.length c] w fun e w' => e = .returned (.int .i64 (fillR ws fs.data.toList 0 x).1) ∧ ((fillR ws fs.data.toList 0 x).1 = 0 → FillAt w0.heap.size gx (fillR ws fs.data.toList 0 x).2 w') ∧ Below w0.heap.size w0 w' := by
 obtain ⟨R, hR⟩ : ∃ R, R = fillR ws fs.data.toList 0 x := ⟨_, rfl⟩
 rw [← hR]
 have hB0 := zA hB
 have HLd := zA hL
 have HX := zA hx
 have HB := zA hB
 have HW := zA hw
 have HF := zA hfs
 have HR := zA hR
 have HN := zA hn
 have HWs := zA hws
 have HLt := zA hlt
 have HBw := zA (Below.refl w.heap.size w)
 clear hL hx hB hw hfs hR hn hws hlt
 have hu94 := Tryz.underlying102
 go_enter Tryz.func67, Tryz.ntmps67
 go_wp2_with ((with_reducible refine gate_dst (N := 4) rfl ?_); refine box_event (by rfl) (N := 4) (by rfl) (cs := #[.int .i64 op, .string wd, .string fs]) (t := 102) ?hr ?_; (case hr => go_simp <;> rfl); intro gf hg w1 hbox hb; have BF := zA hbox; have HGf := zA (show w.heap.size ≤ gf by rw [hg]; exact Nat.le_refl _); replace HX := zA (HX.out.below hb); replace HB := zA (below_step HB.out hb); replace HBw := zA (below_step HBw.out hb); clear hb hbox hg; have z3 := bk3 BF.out)
 have hWI : Below w.heap.size w (World.iter w1 fs 0) := below_alloc HBw.out _
 have hWJ : Below w0.heap.size w0 (World.iter w1 fs 0) := below_alloc HB.out _
 have hIT : (World.iter w1 fs 0).heap[w1.heap.size]? = some (.stringIter fs 0) := World.iter_heap w1 fs 0
 have hBF : (World.iter w1 fs 0).heap[gf]? = some (.cells #[.int .i64 op, .string wd, .string fs] 102 (0, 0)) := blk_alloc BF.out _
 have hFX : FillAt w0.heap.size gx x (World.iter w1 fs 0) := HX.out.below (below_alloc (Below.refl _ _) _)
 generalize World.iter w1 fs 0 = wI at hWI hWJ hIT hBF hFX ⊢
 have HS := zA (show FillSt gx gf w1.heap.size #[.int .i64 op, .string wd, .string fs] fs w0 w 0 x wI from ⟨hB0.out.size, HLt.out, HGf.out, HBw.out.size, hFX, hIT, hBF, hWJ⟩)
 clear hWI hWJ hIT hBF hFX HX HB z3 BF
 go_loopg [7] fs.size (fun kq v7 w' => ∃ (i at_ : Nat) (y : SIns), v7 = .int .i64 (at_ : Int) ∧ Aside0 (kq + i = fs.size) ∧ Aside0 (FillSt gx gf w1.heap.size #[.int .i64 op, .string wd, .string fs] fs w0 w i y w') ∧ Aside0 (R = fillR ws (fs.data.toList.drop i) at_ y) ∧ Aside0 (at_ + wants (fs.data.toList.drop i) ≤ ws.length) ∧ Aside0 (y.f5.length + kq * ws.length ≤ 10000000))
 case atStart => exact ⟨0, 0, x, by first | rfl | simp, ⟨by omega⟩, HS, ⟨by rw [List.drop_zero]; exact HR.out⟩, ⟨by rw [List.drop_zero]; have := HN.out; omega⟩, ⟨by have h9 : fs.size * ws.length ≤ 10 * ws.length := Nat.mul_le_mul_right _ hf; omega⟩⟩
 case round =>
  clear HS HR HN
  obtain ⟨i, at_, y, rfl, HK, HS, HR, HN, H5⟩ := hrel
  cases gk with
  | zero =>
   have hif : i = fs.size := by have := HK.out; omega
   have hnx : ∀ ty, (Instr.next (.pointer (some ⟨w1.heap.size, 0, none⟩)) true ty).run Tryz.prog wr = .ok (.tuple #[.bool false]) wr := fun ty => Lib.run_next_end_at wr _ fs i ty HS.out.it (by omega)
   have hd : fs.data.toList.drop i = [] := List.drop_eq_nil_of_le (by have : fs.data.toList.length = fs.size := (by simp); omega)
   rw [hd] at HR
   have HR2 := zA (show R = (0, y) from HR.out)
   go_wp2_with fail
   go_ret
   exact ⟨by rw [HR2.out]; rfl, fun _ => by rw [HR2.out]; exact HS.out.fx, HS.out.bl⟩
  | succ k1 =>
   have hi : i < fs.size := by have := HK.out; omega
   obtain ⟨c, hc⟩ : ∃ c, c = fs[i]'hi := ⟨_, rfl⟩
   have hgl : fs.data.toList[i]? = some c := by rw [hc]; simp [ByteArray.getElem_eq_getElem_data]
   have hdr : fs.data.toList.drop i = c :: fs.data.toList.drop (i + 1) := by
    obtain ⟨h1, h2⟩ := List.getElem?_eq_some_iff.1 hgl
    rw [List.drop_eq_getElem_cons h1, h2]
   have hm : c ∈ fs.data.toList := List.mem_of_getElem? hgl
   obtain ⟨wi, hwi⟩ : ∃ wi, wi = wr.iterAt w1.heap.size fs (i + 1) := ⟨_, rfl⟩
   have HS1 := zA (HS.out.next (i + 1))
   rw [← hwi] at HS1
   have hgen : ∀ n : Nat, c.toNat = n → n < 128 → ∀ ty, (Instr.next (.pointer (some ⟨w1.heap.size, 0, none⟩)) true ty).run Tryz.prog wr = .ok (.tuple #[.bool true, .int .i64 i, .int .i32 (n : Int)]) wi := fun n hn h8 ty => by
    rw [Lib.run_next_ascii_at wr _ fs i ty HS.out.it hi (by rw [← hc, hn]; exact h8), ← hc, hn, hwi]
   rw [hdr] at HR HN
   have hcc := HF.out c hm
   clear hc hgl hm hwi hdr
   rcases hcc with rfl | rfl | rfl | rfl | rfl
   ·have hnx := hgen 68 rfl (by decide)
    clear hgen
    have hat : at_ < ws.length := by have h9 : wants (68 :: fs.data.toList.drop (i + 1)) = 1 + wants (fs.data.toList.drop (i + 1)) := rfl; have := HN.out; omega
    have hatI : (at_ : Int) < (ws.length : Int) := by omega
    obtain ⟨t, ht⟩ : ∃ t, ws[at_]? = some t := ⟨_, List.getElem?_eq_getElem hat⟩
    have hts := HWs.out t (List.mem_of_getElem? ht)
    have hx1 := WordsAt.cell (WordsAt.low HW.out (by obtain ⟨_, hk, _⟩ := HW.out; exact blk_lt hk) HS1.out.bl) ht
    have HR1 : Aside0 (R = match numOf t with | some n => fillR ws (fs.data.toList.drop (i + 1)) (at_ + 1) (setF 68 n y) | none => (81, y)) := ⟨HR.out.trans (fillR_num (by decide) (by decide) ht)⟩
    have HLr := zA (HLd.out.below HS1.out.bl)
    clear ht
    cases hnm : numOf t with
    | none =>
     rw [hnm] at HR1
     have HNm := zA hnm
     clear hnm
     go_wp2_with (go_at_call 64; refine (textnumber_calls t wi HLr.out (by omega)).mono ?_; rintro e w5 ⟨n, rfl, _, hb⟩; rw [HNm.out]; have HS5 := zA (HS1.out.later hb); clear hb hx1)
     go_ret
     exact ⟨by rw [HR1.out]; rfl, fun h => by rw [HR1.out] at h; exact absurd (show (81 : Int) = 0 from h) (by decide), HS5.out.bl⟩
    | some v =>
     rw [hnm] at HR1
     have HNm := zA hnm
     clear hnm
     go_wp2_with (go_at_call 64; refine (textnumber_calls t wi HLr.out (by omega)).mono ?_; rintro e w5 ⟨n, rfl, hv, hb⟩; obtain rfl := hv v HNm.out; rw [HNm.out]; have HS5 := zA (HS1.out.later hb); obtain ⟨_, v5, hk5, _⟩ := HS5.out.fx; have z5 := bk6 hk5; clear hb hx1 hk5 hv)
     go_roundg k1
     case measure => have := HK.out; omega
     case rel => exact ⟨i + 1, at_ + 1, setF 68 n y, by go_num, ⟨by have := HK.out; omega⟩, ⟨HS5.out.set 1 (.int .i64 n) rfl (fun v5 => rfl)⟩, ⟨HR1.out⟩, ⟨by have h9 : wants (68 :: fs.data.toList.drop (i + 1)) = 1 + wants (fs.data.toList.drop (i + 1)) := rfl; have := HN.out; omega⟩, ⟨by have h9 : (k1 + 1) * ws.length = k1 * ws.length + ws.length := Nat.succ_mul _ _; have := H5.out; show y.f5.length + _ ≤ _; omega⟩⟩
   ·have hnx := hgen 65 rfl (by decide)
    clear hgen
    have hat : at_ < ws.length := by have h9 : wants (65 :: fs.data.toList.drop (i + 1)) = 1 + wants (fs.data.toList.drop (i + 1)) := rfl; have := HN.out; omega
    have hatI : (at_ : Int) < (ws.length : Int) := by omega
    obtain ⟨t, ht⟩ : ∃ t, ws[at_]? = some t := ⟨_, List.getElem?_eq_getElem hat⟩
    have hts := HWs.out t (List.mem_of_getElem? ht)
    have hx1 := WordsAt.cell (WordsAt.low HW.out (by obtain ⟨_, hk, _⟩ := HW.out; exact blk_lt hk) HS1.out.bl) ht
    have HR1 : Aside0 (R = match numOf t with | some n => fillR ws (fs.data.toList.drop (i + 1)) (at_ + 1) (setF 65 n y) | none => (81, y)) := ⟨HR.out.trans (fillR_num (by decide) (by decide) ht)⟩
    have HLr := zA (HLd.out.below HS1.out.bl)
    clear ht
    cases hnm : numOf t with
    | none =>
     rw [hnm] at HR1
     have HNm := zA hnm
     clear hnm
     go_wp2_with (go_at_call 64; refine (textnumber_calls t wi HLr.out (by omega)).mono ?_; rintro e w5 ⟨n, rfl, _, hb⟩; rw [HNm.out]; have HS5 := zA (HS1.out.later hb); clear hb hx1)
     go_ret
     exact ⟨by rw [HR1.out]; rfl, fun h => by rw [HR1.out] at h; exact absurd (show (81 : Int) = 0 from h) (by decide), HS5.out.bl⟩
    | some v =>
     rw [hnm] at HR1
     have HNm := zA hnm
     clear hnm
     go_wp2_with (go_at_call 64; refine (textnumber_calls t wi HLr.out (by omega)).mono ?_; rintro e w5 ⟨n, rfl, hv, hb⟩; obtain rfl := hv v HNm.out; rw [HNm.out]; have HS5 := zA (HS1.out.later hb); obtain ⟨_, v5, hk5, _⟩ := HS5.out.fx; have z5 := bk6 hk5; clear hb hx1 hk5 hv)
     go_roundg k1
     case measure => have := HK.out; omega
     case rel => exact ⟨i + 1, at_ + 1, setF 65 n y, by go_num, ⟨by have := HK.out; omega⟩, ⟨HS5.out.set 2 (.int .i64 n) rfl (fun v5 => rfl)⟩, ⟨HR1.out⟩, ⟨by have h9 : wants (65 :: fs.data.toList.drop (i + 1)) = 1 + wants (fs.data.toList.drop (i + 1)) := rfl; have := HN.out; omega⟩, ⟨by have h9 : (k1 + 1) * ws.length = k1 * ws.length + ws.length := Nat.succ_mul _ _; have := H5.out; show y.f5.length + _ ≤ _; omega⟩⟩
   ·have hnx := hgen 66 rfl (by decide)
    clear hgen
    have hat : at_ < ws.length := by have h9 : wants (66 :: fs.data.toList.drop (i + 1)) = 1 + wants (fs.data.toList.drop (i + 1)) := rfl; have := HN.out; omega
    have hatI : (at_ : Int) < (ws.length : Int) := by omega
    obtain ⟨t, ht⟩ : ∃ t, ws[at_]? = some t := ⟨_, List.getElem?_eq_getElem hat⟩
    have hts := HWs.out t (List.mem_of_getElem? ht)
    have hx1 := WordsAt.cell (WordsAt.low HW.out (by obtain ⟨_, hk, _⟩ := HW.out; exact blk_lt hk) HS1.out.bl) ht
    have HR1 : Aside0 (R = match numOf t with | some n => fillR ws (fs.data.toList.drop (i + 1)) (at_ + 1) (setF 66 n y) | none => (81, y)) := ⟨HR.out.trans (fillR_num (by decide) (by decide) ht)⟩
    have HLr := zA (HLd.out.below HS1.out.bl)
    clear ht
    cases hnm : numOf t with
    | none =>
     rw [hnm] at HR1
     have HNm := zA hnm
     clear hnm
     go_wp2_with (go_at_call 64; refine (textnumber_calls t wi HLr.out (by omega)).mono ?_; rintro e w5 ⟨n, rfl, _, hb⟩; rw [HNm.out]; have HS5 := zA (HS1.out.later hb); clear hb hx1)
     go_ret
     exact ⟨by rw [HR1.out]; rfl, fun h => by rw [HR1.out] at h; exact absurd (show (81 : Int) = 0 from h) (by decide), HS5.out.bl⟩
    | some v =>
     rw [hnm] at HR1
     have HNm := zA hnm
     clear hnm
     go_wp2_with (go_at_call 64; refine (textnumber_calls t wi HLr.out (by omega)).mono ?_; rintro e w5 ⟨n, rfl, hv, hb⟩; obtain rfl := hv v HNm.out; rw [HNm.out]; have HS5 := zA (HS1.out.later hb); obtain ⟨_, v5, hk5, _⟩ := HS5.out.fx; have z5 := bk6 hk5; clear hb hx1 hk5 hv)
     go_roundg k1
     case measure => have := HK.out; omega
     case rel => exact ⟨i + 1, at_ + 1, setF 66 n y, by go_num, ⟨by have := HK.out; omega⟩, ⟨HS5.out.set 3 (.int .i64 n) rfl (fun v5 => rfl)⟩, ⟨HR1.out⟩, ⟨by have h9 : wants (66 :: fs.data.toList.drop (i + 1)) = 1 + wants (fs.data.toList.drop (i + 1)) := rfl; have := HN.out; omega⟩, ⟨by have h9 : (k1 + 1) * ws.length = k1 * ws.length + ws.length := Nat.succ_mul _ _; have := H5.out; show y.f5.length + _ ≤ _; omega⟩⟩
   ·have hnx := hgen 78 rfl (by decide)
    clear hgen
    have hat : at_ < ws.length := by have h9 : wants (78 :: fs.data.toList.drop (i + 1)) = 1 + wants (fs.data.toList.drop (i + 1)) := rfl; have := HN.out; omega
    have hatI : (at_ : Int) < (ws.length : Int) := by omega
    obtain ⟨t, ht⟩ : ∃ t, ws[at_]? = some t := ⟨_, List.getElem?_eq_getElem hat⟩
    have hx1 := WordsAt.cell (WordsAt.low HW.out (by obtain ⟨_, hk, _⟩ := HW.out; exact blk_lt hk) HS1.out.bl) ht
    have HR1 := zA (HR.out.trans (fillR_name ht))
    have HT := zA ht
    clear ht
    by_cases hn : nameOk t = true
    ·rw [zC hn] at HR1
     have HNm := zA (show ir_Name.f t = some true by rw [name_eq, hn])
     clear hn
     go_wp2_with (go_at_call 30; refine (ir_Name.calls t true _ HNm.out).mono ?_; rintro e w5 ⟨rfl, hb⟩; have HS5 := zA (HS1.out.later hb); obtain ⟨_, v5, hk5, _⟩ := HS5.out.fx; have z5 := bk6 hk5; have hx2 := WordsAt.cell (WordsAt.low HW.out (by obtain ⟨_, hk, _⟩ := HW.out; exact blk_lt hk) HS5.out.bl) HT.out; clear hb hx1 hk5)
     go_roundg k1
     case measure => have := HK.out; omega
     case rel => exact ⟨i + 1, at_ + 1, { y with f4 := t }, by go_num, ⟨by have := HK.out; omega⟩, ⟨HS5.out.set 4 (.string t) rfl (fun v5 => rfl)⟩, ⟨HR1.out⟩, ⟨by have h9 : wants (78 :: fs.data.toList.drop (i + 1)) = 1 + wants (fs.data.toList.drop (i + 1)) := rfl; have := HN.out; omega⟩, ⟨by have h9 : (k1 + 1) * ws.length = k1 * ws.length + ws.length := Nat.succ_mul _ _; have := H5.out; show y.f5.length + _ ≤ _; omega⟩⟩
    ·rw [zD hn] at HR1
     have HNm := zA (show ir_Name.f t = some false by rw [name_eq]; cases h : nameOk t with | true => exact absurd h hn | false => rfl)
     clear hn
     go_wp2_with (go_at_call 30; refine (ir_Name.calls t false _ HNm.out).mono ?_; rintro e w5 ⟨rfl, hb⟩; have HS5 := zA (HS1.out.later hb); clear hb hx1)
     go_ret
     exact ⟨by rw [HR1.out]; rfl, fun h => by rw [HR1.out] at h; exact absurd (show (80 : Int) = 0 from h) (by decide), HS5.out.bl⟩
   ·have hnx := hgen 76 rfl (by decide)
    clear hgen
    have hat : at_ ≤ ws.length := by have := HN.out; omega
    have hatI : (at_ : Int) ≤ (ws.length : Int) := by omega
    have hatc : (ws.length : Int) ≤ (c : Int) := by omega
    by_cases hca : c = at_
    ·have hwe : ws.length = at_ := by omega
     have hRR : R = fillR ws (fs.data.toList.drop (i + 1)) at_ y := by
      rw [HR.out, fillR_rest, List.drop_eq_nil_of_le (by omega)]
      show fillR ws _ at_ { y with f5 := y.f5 ++ [] } = _
      rw [List.append_nil]
     have HRR := zA hRR
     have hz1 : ws.length - at_ = 0 := by omega
     have hz2 : c - at_ = 0 := by omega
     have hz3 : (c = at_) = True := eq_true hca
     clear hRR hwe hca
     go_wp2_with fail
     go_loopg [46] 0 (fun kq2 v46 w' => v46 = .int .i64 0 ∧ Aside0 (kq2 = 0) ∧ Aside0 (FillSt gx gf w1.heap.size #[.int .i64 op, .string wd, .string fs] fs w0 w (i + 1) y w'))
     case atStart => exact ⟨rfl, ⟨rfl⟩, HS1⟩
     case round =>
      clear HS1 HS
      obtain ⟨rfl, HJ, HS2⟩ := hrel
      cases gk with
      | succ k2 => exact absurd HJ.out (by omega)
      | zero =>
       go_wp2_with fail
       go_roundg k1
       case measure => have := HK.out; omega
       case rel => exact ⟨i + 1, at_, y, rfl, ⟨by have := HK.out; omega⟩, HS2, HRR, ⟨by have h9 : wants (76 :: fs.data.toList.drop (i + 1)) = 0 + wants (fs.data.toList.drop (i + 1)) := rfl; have := HN.out; omega⟩, ⟨by have h9 : (k1 + 1) * ws.length = k1 * ws.length + ws.length := Nat.succ_mul _ _; have := H5.out; omega⟩⟩
    have hac : ¬ at_ = c := fun e => hca e.symm
    go_wp2_with fail
    go_loopg [46] (ws.length - at_) (fun kq2 v46 w' => ∃ (j : Nat) (l : List Int), v46 = .int .i64 (j : Int) ∧ Aside0 (kq2 + j = ws.length - at_) ∧ Aside0 (FillSt gx gf w1.heap.size #[.int .i64 op, .string wd, .string fs] fs w0 w (i + 1) { y with f5 := y.f5 ++ l } w') ∧ Aside0 ((ws.drop at_).mapM numOf = ((ws.drop (at_ + j)).mapM numOf).map (l ++ ·)) ∧ Aside0 (l.length = j))
    case atStart => exact ⟨0, [], by first | rfl | simp, ⟨by omega⟩, ⟨by simpa using HS1.out⟩, ⟨by simp⟩, ⟨rfl⟩⟩
    case round =>
     clear HS1 HS
     obtain ⟨j, l, rfl, HJ, HS2, HM, HL⟩ := hrel
     cases gk with
     | zero =>
      have hj : at_ + j = ws.length := by have := HJ.out; omega
      have d1b := zG (show ¬ ((j : Int) < ((ws.length - at_ : Nat) : Int)) by omega)
      have d1c := zG (show ¬ (j < ws.length - at_) by omega)
      have HRR : Aside0 (R = fillR ws (fs.data.toList.drop (i + 1)) at_ { y with f5 := y.f5 ++ l }) := ⟨by
       rw [HR.out, fillR_rest, HM.out, hj, List.drop_length]
       show fillR ws _ at_ { y with f5 := y.f5 ++ (l ++ []) } = _
       rw [List.append_nil]⟩
      go_wp2_with fail
      go_roundg k1
      case measure => have := HK.out; omega
      case rel => exact ⟨i + 1, at_, _, rfl, ⟨by have := HK.out; omega⟩, HS2, HRR, ⟨by have h9 : wants (76 :: fs.data.toList.drop (i + 1)) = 0 + wants (fs.data.toList.drop (i + 1)) := rfl; have := HN.out; omega⟩, ⟨by have h9 : (k1 + 1) * ws.length = k1 * ws.length + ws.length := Nat.succ_mul _ _; have := H5.out; have := HL.out; show (y.f5 ++ l).length + _ ≤ _; rw [List.length_append]; omega⟩⟩
     | succ k2 =>
      have hj : at_ + j < ws.length := by have := HJ.out; omega
      have hj2 : j < ws.length - at_ := by omega
      have hj3 : (j : Int) < ((ws.length - at_ : Nat) : Int) := by omega
      have d1b := zF hj3
      have d1c := zF hj2
      obtain ⟨t, ht⟩ : ∃ t, ws[at_ + j]? = some t := ⟨_, List.getElem?_eq_getElem hj⟩
      have hts := HWs.out t (List.mem_of_getElem? ht)
      have hx1 := WordsAt.cell (WordsAt.low HW.out (by obtain ⟨_, hk, _⟩ := HW.out; exact blk_lt hk) HS2.out.bl) ht
      rw [← Nat.add_assoc] at hx1
      have HMM := zA (HM.out.trans (congrArg (Option.map (l ++ ·)) (mapM_at ht)))
      have HLr := zA (HLd.out.below HS2.out.bl)
      clear ht
      cases hnm : numOf t with
      | none =>
       have HNm := zA hnm
       have HR1 : Aside0 (R = (81, y)) := ⟨by rw [HR.out, fillR_rest, HMM.out, hnm]; rfl⟩
       clear hnm
       go_wp2_with (go_at_call 64; refine (textnumber_calls t wr HLr.out (by omega)).mono ?_; rintro e w5 ⟨n, rfl, _, hb⟩; rw [HNm.out]; have HS5 := zA (HS2.out.later hb); clear hb hx1)
       go_ret
       exact ⟨by rw [HR1.out]; rfl, fun h => by rw [HR1.out] at h; exact absurd (show (81 : Int) = 0 from h) (by decide), HS5.out.bl⟩
      | some v =>
       have HNm := zA hnm
       have HM2 : Aside0 ((ws.drop at_).mapM numOf = ((ws.drop (at_ + (j + 1))).mapM numOf).map ((l ++ [v]) ++ ·)) := ⟨by
        rw [HMM.out, hnm, Nat.add_assoc]
        cases (ws.drop (at_ + (j + 1))).mapM numOf <;> simp⟩
       clear hnm
       have hyl : (y.f5 ++ l).length ≤ 10000000 := by
        have h9 : (k1 + 1) * ws.length = k1 * ws.length + ws.length := Nat.succ_mul _ _
        have := H5.out
        have := HL.out
        rw [List.length_append]; omega
       go_wp2_with (first
        | (go_at_call 64; refine (textnumber_calls t wr HLr.out (by omega)).mono ?_; rintro e w5 ⟨n, rfl, hv, hb⟩; obtain rfl := hv v HNm.out; rw [HNm.out]; have HS5 := zA (HS2.out.later hb); obtain ⟨_, v5, hk5, hr5⟩ := HS5.out.fx; have z5 := bk6 hk5; have HK5 := zA hk5; have HR5 := zA hr5; clear hb hx1 hk5 hv hr5)
        | ((with_reducible refine gate_builtin (b := .append) (xs := #[.tmp 61, .tmp 63]) rfl ?_); at_builtin; (refine Kd.R_append (Kd.int .i64) (w0 := w5) w0.heap.size rfl (.tmp 61) (.tmp 63) 42 3 (.int .i64 0) 8 rfl Tryz.underlying42 info3 rfl (by decide) (by omega) v5 (y.f5 ++ l) n [.int .i64 n] (fun _ => True) (fun _ => False) rfl rfl ?aP (fun _ hk => hk.elim) ?aF ?aO ?aB ?aS ?aL ?_; (case aP => exact rfl); (case aF => exact fun _ _ => trivial); (case aO => exact HR5.out); (case aB => exact Below.refl _ _); (case aS => exact HS5.out.bl.size); (case aL => omega); intro v1 w6 ho3 hb3 hg3 _; obtain ⟨A1, c1, rfl⟩ := Kd.R_slice ho3; have HS6 := zA (HS5.out.app HK5.out HR5.out ho3 hb3 hg3); have hk6 : w6.heap[gx]? = some (.cells #[.int .i64 y.f0, .int .i64 y.f1, .int .i64 y.f2, .int .i64 y.f3, .string y.f4, v5] 44 (0, 0)) := (hg3.block gx (blk_lt HK5.out) (fun e => by obtain ⟨cs, h2⟩ := Kd.R_typed HR5.out gx e.symm; have := HK5.out.symm.trans h2; simp at this)).trans HK5.out; have z6 := bk6 hk6; clear ho3 hb3 hg3 z5 hk6)))
       go_roundg k2
       case measure => have := HJ.out; omega
       case rel => exact ⟨j + 1, l ++ [n], by go_num, ⟨by have := HJ.out; omega⟩, ⟨by have h9 := HS6.out; simpa using h9⟩, HM2, ⟨by rw [List.length_append, HL.out]; rfl⟩⟩
structure PS where
 code : Bool
 first : ByteArray
 heads : Int
 name : ByteArray
 head : List Int
 blocks : List (List SIns)
def insOp (op : Int) : SIns := ⟨op, 0, 0, 0, ⟨#[]⟩, []⟩
def openF (fs : ByteArray) : Bool := Lib.hasSuffix fs.data.toList [76]
def lineP (s : PS) (ws : List ByteArray) : Int × PS :=
 match ws with
 | [] => (80, s)
 | w0 :: rest =>
  if w0.toList = [98, 108, 111, 99, 107] ∧ rest = [] then (0, { s with blocks := s.blocks ++ [[]] })
  else match byOf w0 s.code with
   | none => (80, s)
   | some (op, wd, fs) =>
    if s.blocks = [] then (80, s)
    else if openF fs = false ∧ rest.length ≠ fs.size ∨ openF fs = true ∧ rest.length + 1 < fs.size then (80, s)
    else if (fillR rest fs.data.toList 0 (insOp op)).1 = 0 then (0, { s with blocks := s.blocks.set (s.blocks.length - 1) (s.blocks.getD (s.blocks.length - 1) [] ++ [(fillR rest fs.data.toList 0 (insOp op)).2]) })
    else ((fillR rest fs.data.toList 0 (insOp op)).1, s)
structure PsAt (D gp : Nat) (s : PS) (w : World) : Prop where
 lt : gp < D
 at_ : ∃ vh vb, w.heap[gp]? = some (.cells #[.bool s.code, .string s.first, .int .i64 s.heads, .string s.name, vh, vb] 63 (0, 0)) ∧ Kd.R (Kd.int .i64) 3 w D (fun _ => True) vh s.head ∧ Kd.S (Kd.slice 44 kIns) 41 w D (fun _ => True) vb s.blocks
def KeptD (gp D : Nat) (w w' : World) : Prop := w.heap.size ≤ w'.heap.size ∧ ∀ k, k < D → k ≠ gp → k < w.heap.size → w'.heap[k]? = w.heap[k]?
theorem KeptD.refl (gp D : Nat) (w : World) : KeptD gp D w w := ⟨Nat.le_refl _, fun _ _ _ _ => rfl⟩
theorem KeptD.trans {gp D : Nat} {w w1 w2 : World} (h : KeptD gp D w w1) (h2 : KeptD gp D w1 w2) : KeptD gp D w w2 := ⟨Nat.le_trans h.1 h2.1, fun k hk hg hs => (h2.2 k hk hg (Nat.lt_of_lt_of_le hs h.1)).trans (h.2 k hk hg hs)⟩
theorem KeptD.of_below {gp D B : Nat} {w w1 : World} (hb : Below B w w1) (hD : D ≤ B) : KeptD gp D w w1 := ⟨hb.size, fun k hk _ _ => hb.block k (Nat.lt_of_lt_of_le hk hD)⟩
theorem KeptD.set {gp D : Nat} {w w1 : World} (h : KeptD gp D w w1) (j : Nat) (v : Value) : KeptD gp D w (w1.setCell ⟨gp, j, none⟩ v) := by
 refine h.trans ⟨by simp [World.setCell], fun k _ hg _ => heap_setCell_other _ _ _ _ hg⟩
theorem PsAt.below {D gp : Nat} {s : PS} {w w1 : World} (h : PsAt D gp s w) (hb : Below w.heap.size w w1) : PsAt D gp s w1 := by
 obtain ⟨lt, vh, vb, hk, hr, hs⟩ := h
 exact ⟨lt, vh, vb, blk_below hk hb, Kd.R_below hr hb, Kd.S_below hs hb⟩
theorem byVal_form (r : Option (Int × ByteArray × ByteArray)) : ∃ o wd fs is, byVal r = .tuple #[.agg #[.int .i64 o, .string wd, .string fs], .bool is] ∧ r = if is = true then some (o, wd, fs) else none := by
 cases r with
 | none => exact ⟨0, ⟨#[]⟩, ⟨#[]⟩, false, rfl, rfl⟩
 | some r => obtain ⟨o, wd, fs⟩ := r; exact ⟨o, wd, fs, true, rfl, rfl⟩
def parser_line.T4 : Bool × List (List Nat × List Nat) := (true, [([], []), ([0], [0]), ([1], [1]), ([], []), ([3], [3]), ([4], [4]), ([5], [5]), ([2, 6], [2, 6]), ([7], [7]), ([8], [8]), ([8], [8]), ([], []), ([11, 9, 7, 0, 1, 2, 3, 4, 5, 6, 7, 8, 9, 11], [9, 11]), ([10, 12, 0, 1, 2, 3, 4, 5, 6, 7, 8, 9, 10, 11, 12], [10])])
def parser_line.B4 : List Nat := [0, 1, 3, 0, 8, 24, 56, 127, 255, 511, 511, 0, 3071, 8191]
theorem parser_line.tab4 : rtab .any (opsOf Tryz.f50 4) = parser_line.T4 := by kernel_rfl
theorem parser_line.bits4 : waitsOk parser_line.T4.2 parser_line.B4 = true := by kernel_rfl
def FsOk (is : Bool) (fs : ByteArray) : Prop := fs.size ≤ 3 ∧ (∀ b ∈ fs.data.toList, b = 68 ∨ b = 65 ∨ b = 66 ∨ b = 78 ∨ b = 76) ∧ (is = true → 1 ≤ wants fs.data.toList)
theorem wants_le : ∀ l : List UInt8, wants l ≤ l.length
 | [] => Nat.le_refl _
 | c :: l => by have := wants_le l; unfold wants; split <;> simp <;> omega
theorem wants_mem : ∀ {l : List UInt8}, (76 : UInt8) ∈ l → wants l + 1 ≤ l.length
 | c :: l, h => by
  unfold wants
  rcases List.mem_cons.1 h with rfl | h
  ·have := wants_le l; simp; omega
  ·have := wants_mem h; split <;> simp <;> omega
theorem wants_open {fs : ByteArray} {n : Nat} (h : ¬ (openF fs = false ∧ n ≠ fs.size ∨ openF fs = true ∧ n + 1 < fs.size)) : wants fs.data.toList ≤ n := by
 have hl : fs.data.toList.length = fs.size := by simp
 have h1 := wants_le fs.data.toList
 cases ho : openF fs with
 | false =>
  have : n = fs.size := Classical.byContradiction fun e => h (.inl ⟨ho, e⟩)
  omega
 | true =>
  have h2 : ¬ n + 1 < fs.size := fun e => h (.inr ⟨ho, e⟩)
  have h3 : (76 : UInt8) ∈ fs.data.toList := by
   unfold openF Lib.hasSuffix at ho
   obtain ⟨t, ht⟩ := List.isSuffixOf_iff_suffix.1 ho
   rw [← ht]; simp
  have := wants_mem h3
  omega
theorem of_fs {op o : Int} {code is : Bool} {wd fs : ByteArray} (h : text_of.f op code = some (o, wd, fs, is)) : FsOk is fs := by
 have go : ∀ (r : Option (Int × ByteArray × ByteArray × Bool)), (∀ o wd fs is, r = some (o, wd, fs, is) → FsOk is fs) → r = text_of.f op code → FsOk is fs := fun r hr e => hr o wd fs is (e.trans h)
 have st : ∀ {c : Prop} [Decidable c] {a b : Option (Int × ByteArray × ByteArray × Bool)}, (∀ o wd fs is, a = some (o, wd, fs, is) → FsOk is fs) → (∀ o wd fs is, b = some (o, wd, fs, is) → FsOk is fs) → (∀ o wd fs is, (if c then a else b) = some (o, wd, fs, is) → FsOk is fs) := fun ha hb o wd fs is e => by
  split at e
  ·exact ha _ _ _ _ e
  ·exact hb _ _ _ _ e
 refine go _ ?_ rfl
 unfold text_of.f
 repeat' first
  | refine st ?_ ?_
  | (intro o wd fs is e
     simp only [Option.some.injEq, Prod.mk.injEq] at e
     obtain ⟨-, -, rfl, rfl⟩ := e
     exact ⟨by decide, by decide, fun h_ => by first | decide | cases h_⟩)
theorem byOf_fs {wd0 : ByteArray} {code : Bool} {o : Int} {wd fs : ByteArray} (h : byOf wd0 code = some (o, wd, fs)) : FsOk true fs := by
 have key : ∀ (k : Nat) (i : Int), byFrom wd0 code k i = some (o, wd, fs) → FsOk true fs := by
  intro k
  induction k with
  | zero => intro i h; cases h
  | succ k ih =>
   intro i h
   unfold byFrom at h
   split at h
   ·next r hr =>
    obtain ⟨⟨o1, w1, f1, is⟩, hof⟩ := text_of_total i code
    unfold isBy at hr
    rw [hof] at hr
    cases is with
    | false => cases hr
    | true =>
     dsimp only at hr
     split at hr
     ·injection hr with hr
      rw [← hr] at h
      injection h with h
      simp only [Prod.mk.injEq] at h
      rw [← h.2.2]
      exact of_fs hof
     ·cases hr
   ·exact ih _ h
 exact key _ _ h
def parser_line.T13 : Bool × List (List Nat × List Nat) := (true, [([], []), ([], []), ([1], [1]), ([0, 2], [0, 2]), ([3, 3, 0, 1, 2, 3], [3])])
def parser_line.B13 : List Nat := [0, 0, 2, 7, 15]
theorem parser_line.tab13 : rtab .any (opsOf Tryz.f50 13) = parser_line.T13 := by kernel_rfl
theorem parser_line.bits13 : waitsOk parser_line.T13.2 parser_line.B13 = true := by kernel_rfl
def parser_line.T16 : Bool × List (List Nat × List Nat) := (true, [([], []), ([0], [0]), ([1], [1]), ([2], [2]), ([], []), ([], []), ([5], [5]), ([6], [6]), ([7], [7]), ([], []), ([8, 9], [8, 9]), ([10], [10]), ([], []), ([12], [12]), ([11, 13], [11, 13]), ([3, 4, 0, 1, 2, 3, 4, 5, 6, 7, 8, 9, 10, 11, 12, 13, 14], [3, 4]), ([15, 14, 14, 0, 1, 2, 3, 4, 5, 6, 7, 8, 9, 10, 11, 12, 13, 14], [14, 15])])
def parser_line.B16 : List Nat := [0, 1, 3, 7, 0, 0, 32, 96, 224, 0, 992, 2016, 0, 4096, 16352, 32767, 65535]
theorem parser_line.tab16 : rtab .any (opsOf Tryz.f50 16) = parser_line.T16 := by kernel_rfl
theorem parser_line.bits16 : waitsOk parser_line.T16.2 parser_line.B16 = true := by kernel_rfl
theorem infoLIns : (Tryz.prog.info? 41).map (fun i => (i.zero, i.size, i.bytes)) = some (some (.slice none 0 0), 1, 24) := by kernel_rfl
theorem infoIns : (Tryz.prog.info? 44).map (fun i => (i.zero, i.size, i.bytes)) = some (some (.agg #[.int .i64 0, .int .i64 0, .int .i64 0, .int .i64 0, .string ⟨#[]⟩, .slice none 0 0]), 6, 72) := by kernel_rfl
set_option maxHeartbeats 8000000 in
set_option maxRecDepth 100000 in
theorem line_calls2 {w0 w : World} (hL : LaidW w0) (hB : Below w0.heap.size w0 w) (gp gw D : Nat) (hD : w0.heap.size ≤ gp) (s : PS) (hs : PsAt D gp s w) (hDw : D ≤ w.heap.size) (ws : List ByteArray) (hw : WordsAt gw 0 ws w) (h0 : ws ≠ []) (hwl : ws.length ≤ 95000) (hws : ∀ t ∈ ws, t.size ≤ 95000) (hb : s.blocks.length ≤ 100000) (hbb : ∀ b ∈ s.blocks, b.length ≤ 100000) :
 Calls Tryz.prog 50 #[.pointer (some ⟨gp, 0, none⟩), .slice (some ⟨gw, 0, none⟩) ws.length ws.length] w fun e w' => e = .returned (.int .i64 (lineP s ws).1) ∧ ((lineP s ws).1 = 0 → PsAt D gp (lineP s ws).2 w') ∧ KeptD gp D w w' ∧ Below w0.heap.size w0 w' := by
 obtain ⟨w0d, rest, rfl⟩ : ∃ a l, ws = a :: l := by
  cases ws with
  | nil => exact absurd rfl h0
  | cons a l => exact ⟨a, l, rfl⟩
 obtain ⟨R, hR⟩ : ∃ R, R = lineP s (w0d :: rest) := ⟨_, rfl⟩
 rw [← hR]
 have hx0 := WordsAt.cell hw (i := 0) (t := w0d) rfl
 have HLd := zA hL
 have HB := zA hB
 have HS := zA hs
 have HW := zA hw
 have HR := zA hR
 have HWs := zA hws
 have HBB := zA hbb
 have hlen : (w0d :: rest).length = rest.length + 1 := rfl
 rw [hlen] at hwl ⊢
 clear hL hB hs hw hR hws hlen h0 hbb
 by_cases c0 : w0d.toList = [98, 108, 111, 99, 107] ∧ rest = []
 ·obtain ⟨c1, c2⟩ := c0
  subst c2
  have HR2 := zA (show R = (0, { s with blocks := s.blocks ++ [[]] }) from by rw [HR.out]; unfold lineP; simp only [c1, and_self, if_true])
  obtain ⟨c1a, c1b⟩ := qe c1
  obtain ⟨lt, vh, vb, hk, hr, hsb⟩ := HS.out
  obtain ⟨Ab, cb, rfl⟩ := Kd.S_slice hsb
  have HE := zA (show (s.blocks ++ [([] : List SIns)]).length = s.blocks.length + 1 from by simp)
  have z6 := bk6 hk
  have HK := zA hk
  have HRh := zA hr
  have HSb := zA hsb
  clear hk hr hsb c1
  go_enter Tryz.func50, Tryz.ntmps50
  go_wp2_with (first
   | ((with_reducible refine gate_dst (N := 26) rfl ?_); refine Kd.R_lit kIns (w0 := w) w.heap.size 44 (by rfl) (N := 26) (by rfl) (xs := ([] : List SIns)) (inner := []) (ok := fun _ => True) (okp := fun _ => True) ?hr ?hp (fun _ hk => hk) trivial (Below.refl _ _) (Nat.le_refl _) (by simp) ?_; (case hr => go_simp <;> rfl); (case hp => exact Reps.none _ _); intro v26 w1 ho_ hb_ hg_ hnew_; obtain ⟨A26, c26, rfl⟩ := Kd.R_slice ho_; have HO := zA ho_; have HB1 := zA hb_; have z7 := bk6 (blk_below HK.out hb_); clear ho_ hb_ hg_ hnew_ z6)
   | ((with_reducible refine gate_builtin (b := .append) (xs := #[.tmp 25, .tmp 27]) rfl ?_); at_builtin; (refine Kd.S_append (Kd.slice 44 kIns) (w0 := w1) D rfl (.tmp 25) (.tmp 27) 22 41 (.slice none 0 0) 24 rfl Tryz.underlying22 infoLIns rfl (by decide) (by omega) (.slice Ab s.blocks.length cb) s.blocks [] [.slice A26 0 c26] (fun _ => True) (fun q => w.heap.size ≤ q) rfl rfl ⟨_, rfl, Kd.R_lower (Kd.R_mono (Kd.R_bound HO.out) (fun q hq => hq.2.1)) hDw⟩ (fun q hq => ⟨trivial, fun e => by have := Kd.S_lt HSb.out q e.symm; omega⟩) (fun _ _ => trivial) (Kd.S_mono (Kd.S_old HSb.out HB1.out) (fun q hq => ⟨trivial, by omega⟩)) (Below.refl _ _) (Nat.le_trans hDw HB1.out.size) ?aL ?_; (case aL => omega)); intro v28 w2 ho_ hb_ hg_ hat_; obtain ⟨A28, c28, rfl⟩ := Kd.S_slice ho_; rw [HE.out] at ho_; have HO2 := zA ho_; have HB2 := zA hb_; have hk2 := (hb_.block gp lt).trans (blk_below HK.out HB1.out); have HK2 := zA hk2; have z8 := bk6 hk2; have HH2 := zA (show Kd.R (Kd.int .i64) 3 w2 D (fun _ => True) vh s.head from Kd.R_over' (Kd.R_below HRh.out HB1.out) (fun k hk => by obtain ⟨cs, h⟩ := Kd.S_typed HSb.out k hk; exact ⟨cs, blk_below h HB1.out⟩) (by decide) hg_); clear ho_ hb_ hg_ hat_ z7 hk2))
  go_ret
  have HKp := ((KeptD.of_below (gp := gp) HB1.out hDw).trans (KeptD.of_below HB2.out (Nat.le_refl D))).set 5 (.slice A28 (s.blocks.length + 1) c28)
  refine ⟨by rw [HR2.out]; rfl, fun _ => ?_, HKp, ?_⟩
  ·rw [HR2.out]
   exact ⟨lt, vh, _, blk_put HK2.out 5 _ rfl, Kd.R_set HH2.out HK2.out (by decide) 5 _, Kd.S_set HO2.out HK2.out (by decide) 5 _⟩
  ·exact ((below_step HB.out HB1.out).trans (HB2.out.mono (Nat.le_trans hD (Nat.le_of_lt lt)))).setCell (p := ⟨gp, 5, none⟩) hD _
 have HR2 : Aside0 (R = match byOf w0d s.code with
  | none => (80, s)
  | some (op, wd, fs) => if s.blocks = [] then (80, s) else if openF fs = false ∧ rest.length ≠ fs.size ∨ openF fs = true ∧ rest.length + 1 < fs.size then (80, s) else if (fillR rest fs.data.toList 0 (insOp op)).1 = 0 then (0, { s with blocks := s.blocks.set (s.blocks.length - 1) (s.blocks.getD (s.blocks.length - 1) [] ++ [(fillR rest fs.data.toList 0 (insOp op)).2]) }) else ((fillR rest fs.data.toList 0 (insOp op)).1, s)) := ⟨by rw [HR.out]; unfold lineP; simp only [zD c0]⟩
 clear HR
 go_enter Tryz.func50, Tryz.ntmps50
 go_upto_region 1 with fail
 go_cut [20] (fun v20 wc => v20 = .bool false ∧ w = wc)
 case first =>
  by_cases c1 : w0d.toList = [98, 108, 111, 99, 107]
  ·obtain ⟨c1a, c1b⟩ := qe c1
   have c2 : ¬ rest.length + 1 = 1 := fun e => c0 ⟨c1, List.length_eq_zero_iff.1 (by omega)⟩
   have c2i : ¬ (rest.length : Int) + 1 = 1 := by omega
   obtain ⟨c2a, c2b⟩ := qn c2
   obtain ⟨c2c, c2d⟩ := qn c2i
   clear c1 c0
   go_wp2_with fail
   go_meet
   case rel => exact ⟨rfl, rfl⟩
  ·obtain ⟨c1a, c1b⟩ := qn c1
   clear c1 c0
   go_wp2_with fail
   go_meet
   case rel => exact ⟨rfl, rfl⟩
 case rest =>
  obtain ⟨rfl, rfl⟩ := hcut
  obtain ⟨lt, vh, vb, hk, hr, hsb⟩ := HS.out
  obtain ⟨Ab, cb, rfl⟩ := Kd.S_slice hsb
  have z6 := bk6 hk
  have HK := zA hk
  have HRh := zA hr
  have HSb := zA hsb
  clear hk hr hsb c0
  go_upto_region 4 with fail
  obtain ⟨o, wd, fs, is, hbv, hby⟩ := byVal_form (byOf w0d s.code)
  have HBv := zA hbv
  have HBy := zA hby
  clear hbv hby
  have hz0 : w.cell? ⟨gp, 0, none⟩ = some (.bool s.code) := z6.1
  have hx00 : w.cell? ⟨gw, 0, none⟩ = some (.string w0d) := hx0
  have hu94 := Tryz.underlying102
  clear z6 hx0
  go_cut [5, 6] (fun v5 v6 wc => ∃ gf, v5 = .pointer (some ⟨gf, 0, none⟩) ∧ v6 = .bool is ∧ Aside0 (wc.heap[gf]? = some (.cells #[.int .i64 o, .string wd, .string fs] 102 (0, 0))) ∧ Aside0 (Below w.heap.size w wc) ∧ Aside0 (w.heap.size ≤ gf))
  case first =>
   refine start_ (n := 14) (S := fun w' => w'.cell? ⟨gw, 0, none⟩ = some (.string w0d) ∧ w'.cell? ⟨gp, 0, none⟩ = some (.bool s.code)) (ds := [12]) (bA 14 0) (by kernel_rfl) rfl rfl ⟨hx00, hz0⟩ (fun hHeld => ?_); refine with_tabW parser_line.tab4 parser_line.bits4 (fun HT_ HW_ => ?_)
   have HBd := zA (below_drew (Below.refl w.heap.size w))
   generalize w.drew = wd_ at HBd hHeld ⊢
   refine pu_ (i := 0) (N := some 32) (bA 14 1) ?_
   refine pu_ (i := 1) (N := some 33) (bA 14 3) ?_
   refine pu_ (i := 3) (N := some 35) (bA 14 11) ?_
   refine pu_ (i := 4) (N := some 36) (bA 14 27) ?_
   refine pu_ (i := 5) (N := some 37) (bA 14 59) ?_
   refine tk_ (i := 2) (N := some 34) (bA 14 63) ?_
   refine tk_ (i := 6) (N := some 38) (bA 14 127) ?_
   refine two_ (i := 7) (j := 11) (Ni := some 39) (Nj := some 5) (bA 14 255) (bA 14 2175) rfl rfl rfl rfl (two_of HT_.out (by kernel_rfl)) (by decide) (by decide) (fun K hK => ?_) (fun K hK => ?_)
   ·refine goes_ Tryz.func65 (by kernel_rfl) rfl #[.string w0d, .bool s.code] (by rfl) rfl rfl qL ?_
    refine (by_calls w0d s.code _).mono ?_
    rintro e w2 ⟨rfl, hb⟩
    refine ⟨_, rfl, ?_⟩
    rw [HBv.out]
    have HB2 := zA (below_step HBd.out hb)
    have hh2 : w2.cell? ⟨gw, 0, none⟩ = some (.string w0d) ∧ w2.cell? ⟨gp, 0, none⟩ = some (.bool s.code) := ⟨(hb.cell (zE _ _ hHeld.1)).trans hHeld.1, (hb.cell (zE _ _ hHeld.2)).trans hHeld.2⟩
    clear hb hHeld
    refine hK.out _ _ hh2 (fun hHeld => ?_)
    clear hK K hh2
    refine norm_ (a' := ?_) ?_ ?_
    rotate_left
    ·show Act.put _ (some 39) _ = _
     simp only [Act.put, List.setIfInBounds_toArray, List.set_cons_zero, List.set_cons_succ, i64_w, i32_w]
     rfl
    refine pu_ (i := 8) (N := some 31) (bA 14 511) ?_
    refine pu_ (i := 9) (N := some 40) (bA 14 1023) ?_
    refine pu_ (i := 10) (N := some 41) (bA 14 2047) ?_
    refine one_ (i := 11) (N := some 5) (bA 14 4095) rfl rfl (one_of HT_.out (by kernel_rfl)) (by decide) (fun K hK => ?_)
    refine box_step (by rfl) (N := 5) (by rfl) (cs := #[.int .i64 0, .string (⟨#[]⟩ : ByteArray), .string (⟨#[]⟩ : ByteArray)]) (t := 102) ?hr ?_
    case hr => first | (go_simp; done) | (go_simp; rfl)
    intro gf hg w3 hbox hb
    have HGf := zA (show w.heap.size ≤ gf by rw [hg]; exact HB2.out.size)
    have HB3 := zA (below_step HB2.out hb)
    have BF := zA hbox
    have z3 := bk3 hbox
    have hh2 : w3.cell? ⟨gw, 0, none⟩ = some (.string w0d) ∧ w3.cell? ⟨gp, 0, none⟩ = some (.bool s.code) := ⟨(hb.cell (zE _ _ hHeld.1)).trans hHeld.1, (hb.cell (zE _ _ hHeld.2)).trans hHeld.2⟩
    clear hb hHeld hbox hg
    refine hK.out _ _ hh2 (fun hHeld => ?_)
    clear hK K hh2
    refine norm_ (a' := ?_) ?_ ?_
    rotate_left
    ·show Act.put _ (some 5) _ = _
     simp only [Act.put, List.setIfInBounds_toArray, List.set_cons_zero, List.set_cons_succ, i64_w, i32_w]
     rfl
    refine last_ (i := 12) (N := none) (bA 14 8191) rfl rfl (one_of HT_.out (by kernel_rfl)) (by decide) (fun K hK => ?_)
    refine skip_ (w1 := ?_) (by rfl) rfl ?_ ?_
    rotate_left
    ·first | (go_simp; done) | (go_simp; rfl)
    refine hK.out _ _ ?_
    clear hK K
    refine pu_ (i := 13) (N := some 6) (bA 14 16383) ?_
    refine done_ (done_of HT_.out (by kernel_rfl)) ?_
    go_wp2_with fail
    go_meet
    case rel => exact ⟨gf, rfl, rfl, ⟨blk_put (blk_put (blk_put BF.out 0 _ rfl) 1 _ rfl) 2 _ rfl⟩, ⟨((HB3.out.setCell (p := ⟨gf, 0, none⟩) HGf.out _).setCell (p := ⟨gf, 1, none⟩) HGf.out _).setCell (p := ⟨gf, 2, none⟩) HGf.out _⟩, HGf⟩
   ·refine box_step (by rfl) (N := 5) (by rfl) (cs := #[.int .i64 0, .string (⟨#[]⟩ : ByteArray), .string (⟨#[]⟩ : ByteArray)]) (t := 102) ?hr ?_
    case hr => first | (go_simp; done) | (go_simp; rfl)
    intro gf hg w2 hbox hb
    have HGf := zA (show w.heap.size ≤ gf by rw [hg]; exact HBd.out.size)
    have HB2 := zA (below_step HBd.out hb)
    have BF2 := zA hbox
    have hh2 : w2.cell? ⟨gw, 0, none⟩ = some (.string w0d) ∧ w2.cell? ⟨gp, 0, none⟩ = some (.bool s.code) := ⟨(hb.cell (zE _ _ hHeld.1)).trans hHeld.1, (hb.cell (zE _ _ hHeld.2)).trans hHeld.2⟩
    clear hb hHeld hbox hg
    refine hK.out _ _ hh2 (fun hHeld => ?_)
    clear hK K hh2
    refine norm_ (a' := ?_) ?_ ?_
    rotate_left
    ·show Act.put _ (some 5) _ = _
     simp only [Act.put, List.setIfInBounds_toArray, List.set_cons_zero, List.set_cons_succ, i64_w, i32_w]
     rfl
    refine one_ (i := 7) (N := some 39) (bA 14 2303) rfl rfl (one_of HT_.out (by kernel_rfl)) (by decide) (fun K hK => ?_)
    refine goes_ Tryz.func65 (by kernel_rfl) rfl #[.string w0d, .bool s.code] (by rfl) rfl rfl qL ?_
    refine (by_calls w0d s.code _).mono ?_
    rintro e w3 ⟨rfl, hb⟩
    refine ⟨_, rfl, ?_⟩
    rw [HBv.out]
    have HB3 := zA (below_step HB2.out hb)
    have BF := zA (blk_below BF2.out hb)
    have z3 := bk3 BF.out
    have hh2 : w3.cell? ⟨gw, 0, none⟩ = some (.string w0d) ∧ w3.cell? ⟨gp, 0, none⟩ = some (.bool s.code) := ⟨(hb.cell (zE _ _ hHeld.1)).trans hHeld.1, (hb.cell (zE _ _ hHeld.2)).trans hHeld.2⟩
    clear hb hHeld
    refine hK.out _ _ hh2 (fun hHeld => ?_)
    clear hK K hh2
    refine norm_ (a' := ?_) ?_ ?_
    rotate_left
    ·show Act.put _ (some 39) _ = _
     simp only [Act.put, List.setIfInBounds_toArray, List.set_cons_zero, List.set_cons_succ, i64_w, i32_w]
     rfl
    refine pu_ (i := 8) (N := some 31) (bA 14 2559) ?_
    refine pu_ (i := 9) (N := some 40) (bA 14 3071) ?_
    refine pu_ (i := 10) (N := some 41) (bA 14 4095) ?_
    refine last_ (i := 12) (N := none) (bA 14 8191) rfl rfl (one_of HT_.out (by kernel_rfl)) (by decide) (fun K hK => ?_)
    refine skip_ (w1 := ?_) (by rfl) rfl ?_ ?_
    rotate_left
    ·first | (go_simp; done) | (go_simp; rfl)
    refine hK.out _ _ ?_
    clear hK K
    refine pu_ (i := 13) (N := some 6) (bA 14 16383) ?_
    refine done_ (done_of HT_.out (by kernel_rfl)) ?_
    go_wp2_with fail
    go_meet
    case rel => exact ⟨gf, rfl, rfl, ⟨blk_put (blk_put (blk_put BF.out 0 _ rfl) 1 _ rfl) 2 _ rfl⟩, ⟨((HB3.out.setCell (p := ⟨gf, 0, none⟩) HGf.out _).setCell (p := ⟨gf, 1, none⟩) HGf.out _).setCell (p := ⟨gf, 2, none⟩) HGf.out _⟩, HGf⟩
  case rest =>
   obtain ⟨gf, rfl, rfl, BF, HBc, HGf⟩ := hcut
   have z3 := bk3 BF.out
   have hkc := blk_below HK.out HBc.out
   have z6 := bk6 hkc
   clear hx00 hz0
   cases is with
   | false =>
    have HR3 := zA (show R = (80, s) from by rw [HR2.out, HBy.out]; rfl)
    go_wp2_with fail
    go_ret
    exact ⟨by rw [HR3.out]; rfl, fun h => by rw [HR3.out] at h; exact absurd (show (80 : Int) = 0 from h) (by decide), KeptD.of_below HBc.out hDw, below_step HB.out HBc.out⟩
   | true =>
   have HR3 : Aside0 (R = if s.blocks = [] then (80, s) else if openF fs = false ∧ rest.length ≠ fs.size ∨ openF fs = true ∧ rest.length + 1 < fs.size then (80, s) else if (fillR rest fs.data.toList 0 (insOp o)).1 = 0 then (0, { s with blocks := s.blocks.set (s.blocks.length - 1) (s.blocks.getD (s.blocks.length - 1) [] ++ [(fillR rest fs.data.toList 0 (insOp o)).2]) }) else ((fillR rest fs.data.toList 0 (insOp o)).1, s)) := ⟨by rw [HR2.out, HBy.out]; rfl⟩
   clear HR2 HBv
   by_cases c3 : s.blocks = []
   ·have HR4 := zA (show R = (80, s) from by rw [HR3.out, zC c3])
    have hl0 : (s.blocks.length : Int) - 1 < 0 := by rw [c3]; decide
    have hl1 := zF hl0
    clear c3
    go_wp2_with fail
    go_ret
    exact ⟨by rw [HR4.out]; rfl, fun h => by rw [HR4.out] at h; exact absurd (show (80 : Int) = 0 from h) (by decide), KeptD.of_below HBc.out hDw, below_step HB.out HBc.out⟩
   obtain ⟨hfs3, hfsl, hfsw⟩ := byOf_fs (HBy.out.trans (zC rfl))
   have HFw := zA (hfsw rfl)
   clear hfsw
   have hfsz : fs.size ≤ 9223372036854775807 := by omega
   have hlp : 0 < s.blocks.length := List.length_pos_iff.2 c3
   rw [zD c3] at HR3
   have hl0 : ¬ (s.blocks.length : Int) - 1 < 0 := by omega
   have hl1 := zG hl0
   clear c3
   obtain ⟨b, hbo⟩ : ∃ b, b = openF fs := ⟨_, rfl⟩
   have HBo := zA hbo
   clear hbo
   go_upto_region 10 with (go_at_call 66; refine (Any.strings_HasSuffix Tryz.lays100 fs (⟨#[76]⟩ : ByteArray) _ ?hsz).mono ?_; (case hsz => exact hfsz); rintro e w' ⟨rfl, rfl⟩; rw [show Lib.hasSuffix fs.data.toList (⟨#[76]⟩ : ByteArray).data.toList = b from HBo.out.symm])
   go_cut [79] (fun v79 wq => v79 = .bool (decide (b = false ∧ rest.length ≠ fs.size ∨ b = true ∧ rest.length + 1 < fs.size)) ∧ w' = wq)
   case first =>
    clear z6
    cases b with
    | false =>
     by_cases e1 : rest.length = fs.size
     ·obtain ⟨e2, e3⟩ := qe e1
      obtain ⟨e4, e5⟩ := qe (show (rest.length : Int) = (fs.size : Int) by omega)
      have hd := zG (show ¬ (false = false ∧ rest.length ≠ fs.size ∨ false = true ∧ rest.length + 1 < fs.size) from fun h => by rcases h with h | h; exact h.2 e1; cases h.1)
      have HD := zA hd
      clear hd e1
      go_wp2_with fail
      go_meet
      case rel => exact ⟨by rw [HD.out], rfl⟩
     ·obtain ⟨e2, e3⟩ := qn e1
      obtain ⟨e4, e5⟩ := qn (show ¬ (rest.length : Int) = (fs.size : Int) by omega)
      have hd := zF (show (false = false ∧ rest.length ≠ fs.size ∨ false = true ∧ rest.length + 1 < fs.size) from .inl ⟨rfl, e1⟩)
      have HD := zA hd
      clear hd e1
      go_wp2_with fail
      go_meet
      case rel => exact ⟨by rw [HD.out], rfl⟩
    | true =>
     by_cases e1 : rest.length + 1 < fs.size
     ·have e2 := zF (show (rest.length : Int) < (fs.size : Int) - 1 by omega)
      have e3 := zF e1
      have e4 := zF (show (rest.length : Int) + 1 < (fs.size : Int) by omega)
      have hd := zF (show (true = false ∧ rest.length ≠ fs.size ∨ true = true ∧ rest.length + 1 < fs.size) from .inr ⟨rfl, e1⟩)
      have HD := zA hd
      clear hd e1
      go_wp2_with fail
      go_meet
      case rel => exact ⟨by rw [HD.out], rfl⟩
     ·have e2 := zG (show ¬ (rest.length : Int) < (fs.size : Int) - 1 by omega)
      have e3 := zG e1
      have e4 := zG (show ¬ (rest.length : Int) + 1 < (fs.size : Int) by omega)
      have hd := zG (show ¬ (true = false ∧ rest.length ≠ fs.size ∨ true = true ∧ rest.length + 1 < fs.size) from fun h => by rcases h with h | h; cases h.1; exact e1 h.2)
      have HD := zA hd
      clear hd e1
      go_wp2_with fail
      go_meet
      case rel => exact ⟨by rw [HD.out], rfl⟩
   case rest =>
   obtain ⟨rfl, hwq⟩ := hcut
   subst hwq
   rw [← HBo.out] at HR3
   by_cases c4 : b = false ∧ rest.length ≠ fs.size ∨ b = true ∧ rest.length + 1 < fs.size
   ·have HR4 := zA (show R = (80, s) from by rw [HR3.out, zC c4])
    rw [zF c4]
    clear c4
    go_wp2_with fail
    go_ret
    exact ⟨by rw [HR4.out]; rfl, fun h => by rw [HR4.out] at h; exact absurd (show (80 : Int) = 0 from h) (by decide), KeptD.of_below HBc.out hDw, below_step HB.out HBc.out⟩
   rw [zD c4] at HR3
   rw [zG c4]
   have HC4 := zA c4
   clear c4
   have hu43 := Tryz.underlying44
   go_upto_region 13 with ((with_reducible refine gate_dst (N := 10) rfl ?_); refine box_event (by rfl) (N := 10) (by rfl) (cs := #[.int .i64 0, .int .i64 0, .int .i64 0, .int .i64 0, .string (⟨#[]⟩ : ByteArray), .slice none 0 0]) (t := 44) ?hr ?_; (case hr => go_simp <;> rfl); intro gx hg w4 hbox hb4; have BX := zA hbox; have HGx := zA hg; have HB4 := zA hb4; have z7 := bk6 hbox; have BF4 := zA (blk_below BF.out hb4); clear hg hbox hb4)
   have hwn : wants fs.data.toList ≤ rest.length := wants_open (by rw [← HBo.out]; exact HC4.out)
   have hr1 : 1 ≤ rest.length := Nat.le_trans HFw.out hwn
   have BX5 := zA (blk_put (blk_put (blk_put (blk_put (blk_put (blk_put BX.out 0 (.int .i64 o) rfl) 1 (.int .i64 0) rfl) 2 (.int .i64 0) rfl) 3 (.int .i64 0) rfl) 4 (.string (⟨#[]⟩ : ByteArray)) rfl) 5 (.slice none 0 0) rfl)
   have hgx : w'.heap.size ≤ gx := by rw [HGx.out]; exact Nat.le_refl _
   have HB5 := zA (((((((HB4.out.setCell (p := ⟨gx, 0, none⟩) hgx (.int .i64 o)).setCell (p := ⟨gx, 1, none⟩) hgx (.int .i64 0)).setCell (p := ⟨gx, 2, none⟩) hgx (.int .i64 0)).setCell (p := ⟨gx, 3, none⟩) hgx (.int .i64 0)).setCell (p := ⟨gx, 4, none⟩) hgx (.string (⟨#[]⟩ : ByteArray))).setCell (p := ⟨gx, 5, none⟩) hgx (.slice none 0 0)))
   clear z7 BX z3 HB4 BF4
   generalize ((((((w4.setCell ⟨gx, 0, none⟩ (.int .i64 o)).setCell ⟨gx, 1, none⟩ (.int .i64 0)).setCell ⟨gx, 2, none⟩ (.int .i64 0)).setCell ⟨gx, 3, none⟩ (.int .i64 0)).setCell ⟨gx, 4, none⟩ (.string (⟨#[]⟩ : ByteArray))).setCell ⟨gx, 5, none⟩ (.slice none 0 0)) = w5 at BX5 HB5 ⊢
   have BF5 := zA (blk_below BF.out HB5.out)
   have HB6 := zA (below_drew HB5.out)
   have BX6 := zA (blk_drew BX5.out)
   have hrz : (rest.length = 0) = False := eq_false (by omega)
   have hr1i := eq_true (show (1 : Int) ≤ (rest.length : Int) + 1 by omega)
   refine start_ (n := 5) (S := fun w' => w'.cell? ⟨gf, 0, none⟩ = some (.int .i64 o) ∧ w'.cell? ⟨gf, 1, none⟩ = some (.string wd) ∧ w'.cell? ⟨gf, 2, none⟩ = some (.string fs)) (ds := []) (bA 5 0) (by kernel_rfl) rfl rfl ⟨(blk_cell BF5.out 0).trans rfl, (blk_cell BF5.out 1).trans rfl, (blk_cell BF5.out 2).trans rfl⟩ (fun hHeld => ?_); refine with_tabW parser_line.tab13 parser_line.bits13 (fun HT_ HW_ => ?_)
   generalize w5.drew = w6 at HB6 BX6 hHeld ⊢
   refine pu_ (i := 1) (N := some 84) (bA 5 2) ?_
   refine pu_ (i := 2) (N := some 85) (bA 5 6) ?_
   refine tk_ (i := 0) (N := some 83) (bA 5 7) ?_
   refine one_ (i := 3) (N := some 86) (bA 5 15) rfl rfl (one_of HT_.out (by kernel_rfl)) (by decide) (fun K hK => ?_)
   obtain ⟨F, hF⟩ : ∃ F, F = fillR rest fs.data.toList 0 (insOp o) := ⟨_, rfl⟩
   rw [← hF] at HR3
   have hsmall : (0 : Nat) + 10 * rest.length ≤ 10000000 := by omega
   have HLw := zA (HLd.out.below (below_step HB.out HBc.out))
   have hw1 := WordsAt.tail HW.out
   have hfc := fill_calls HLw.out HB6.out gx gw (insOp o) ⟨hgx, .slice none 0 0, BX6.out, Kd.R_nil _ _ _ _ _⟩ (blk_lt BX6.out) o wd fs rest rest.length (WordsAt.low hw1 (by obtain ⟨_, hk, _⟩ := hw1; exact blk_lt hk) HBc.out) hfsl hwn (by omega) (fun t ht => by have := HWs.out t (List.mem_cons_of_mem _ ht); omega) (by omega) hsmall (Nat.le_refl _)
   rw [← hF] at hfc
   clear hF
   refine goes_ Tryz.func67 (by kernel_rfl) rfl #[.pointer (some ⟨gx, 0, none⟩), .agg #[.int .i64 o, .string wd, .string fs], .slice (some ⟨gw, 1, none⟩) rest.length rest.length] (by rfl) rfl rfl qL ?_
   refine hfc.mono ?_
   clear hfc hw1
   rintro e w7 ⟨rfl, hfx, hb7⟩
   refine ⟨_, rfl, ?_⟩
   have HFx := zA hfx
   have HB7 := zA hb7
   have BF7 := zA (blk_below BF.out hb7)
   clear hb7 hfx hHeld BF5 HB6 BX6 HB5 BX5
   refine hK.out _ _ ⟨(blk_cell BF7.out 0).trans rfl, (blk_cell BF7.out 1).trans rfl, (blk_cell BF7.out 2).trans rfl⟩ (fun hHeld => ?_)
   clear hK K
   refine norm_ (a' := ?_) ?_ ?_
   rotate_left
   ·show Act.put _ (some 86) _ = _
    simp only [Act.put, List.setIfInBounds_toArray, List.set_cons_zero, List.set_cons_succ, i64_w, i32_w]
    rfl
   refine pu_ (i := 4) (N := some 11) (bA 5 31) ?_
   refine done_ (done_of HT_.out (by kernel_rfl)) ?_
   clear HT_ HW_ hHeld hrz hr1i hr1 hwn hsmall
   by_cases c5 : F.1 = 0
   case neg =>
    have HR4 := zA (show R = (F.1, s) from by rw [HR3.out, zD c5])
    obtain ⟨c6, c7⟩ := qn c5
    have HC5 := zA c5
    clear c5
    go_wp2_with fail
    go_ret
    exact ⟨by rw [HR4.out]; rfl, fun h => by rw [HR4.out] at h; exact absurd (show F.1 = 0 from h) HC5.out, (KeptD.of_below HBc.out hDw).trans (KeptD.of_below HB7.out (Nat.le_trans hDw HBc.out.size)), below_step (below_step HB.out HBc.out) HB7.out⟩
   have HR4 := zA (show R = (0, { s with blocks := s.blocks.set (s.blocks.length - 1) (s.blocks.getD (s.blocks.length - 1) [] ++ [F.2]) }) from by rw [HR3.out, zC c5])
   have HX := zA (HFx.out c5)
   obtain ⟨c6, c7⟩ := qe c5
   clear c5
   go_upto_region 16 with fail
   -- the last block takes the instruction in
   obtain ⟨gb, cb2, eb, hgb, -, -⟩ := Kd.S_form HSb.out hlp
   injection eb with e1 e2 e3
   subst e1
   subst e3
   have HSc := Kd.S_below HSb.out HBc.out
   have HSo := zA (Kd.S_old HSc HB7.out)
   have HK7 := zA (blk_below (blk_below HK.out HBc.out) HB7.out)
   have HR7 := zA (Kd.R_below (Kd.R_below HRh.out HBc.out) HB7.out)
   clear HSc
   have hi0 : (0 : Int) ≤ (s.blocks.length : Int) - 1 := by omega
   have hi1 : (s.blocks.length : Int) - 1 < (s.blocks.length : Int) := by omega
   obtain ⟨oki, cv, hcl, hM, hcc, hfz, hoki, hH⟩ := Kd.S_elem HSo.out [] ((s.blocks.length : Int) - 1) hi0 hi1
   obtain ⟨vk, rfl, hrk⟩ := hM
   have hto : ((s.blocks.length : Int) - 1).toNat = s.blocks.length - 1 := by omega
   have hvk : w7.cell? ⟨gb, ((s.blocks.length : Int) - 1).toNat * 1 + 0, none⟩ = some vk := hcc 0 vk rfl
   have hfk : w7.frozen? ⟨gb, ((s.blocks.length : Int) - 1).toNat * 1 + 0, none⟩ = false := hfz 0
   rw [Nat.mul_one, Nat.add_zero, hto] at hvk hfk
   rw [hto] at hrk
   obtain ⟨hgx2, v5, hkx, hr5⟩ := HX.out
   obtain ⟨xk, hxk⟩ : ∃ xk, xk = s.blocks.getD (s.blocks.length - 1) [] := ⟨_, rfl⟩
   rw [← hxk] at hrk
   have hxl : xk.length ≤ 100000 := by
    rw [hxk, List.getD_eq_getElem?_getD, List.getElem?_eq_getElem (by omega)]
    exact HBB.out _ (List.getElem_mem _)
   obtain ⟨Ak, ck, ek⟩ := Kd.R_slice hrk
   subst ek
   obtain ⟨A5, c5, e5⟩ := Kd.R_slice hr5
   subst e5
   have HH := zA (Kd.H_drew hH)
   have HRk := zA (Kd.R_drew hrk)
   have HR5 := zA (Kd.R_drew hr5)
   have HOk := zA hoki
   have HXk := zA hxk
   have HKx := zA (blk_drew hkx)
   have HTo := zA hto
   have HK8 := zA (blk_drew HK7.out)
   have HR8 := zA (Kd.R_drew HR7.out)
   have HB8 := zA (below_drew HB7.out)
   have hl2 := eq_true (show (1 : Int) ≤ (s.blocks.length : Int) by omega)
   have hvk8 : w7.drew.cell? ⟨gb, s.blocks.length - 1, none⟩ = some (.slice Ak xk.length ck) := hvk
   have hfk8 : w7.drew.frozen? ⟨gb, s.blocks.length - 1, none⟩ = false := hfk
   clear hcl hcc hfz hoki hH hrk hr5 hkx hvk hfk hto hxk HK7 HR7
   refine start_ (n := 17) (S := fun w' => w'.cell? ⟨gp, 5, none⟩ = some (.slice (some ⟨gb, 0, none⟩) s.blocks.length cb) ∧ w'.cell? ⟨gb, s.blocks.length - 1, none⟩ = some (.slice Ak xk.length ck) ∧ w'.cell? ⟨gx, 0, none⟩ = some (.int .i64 F.2.f0) ∧ w'.cell? ⟨gx, 1, none⟩ = some (.int .i64 F.2.f1) ∧ w'.cell? ⟨gx, 2, none⟩ = some (.int .i64 F.2.f2) ∧ w'.cell? ⟨gx, 3, none⟩ = some (.int .i64 F.2.f3) ∧ w'.cell? ⟨gx, 4, none⟩ = some (.string F.2.f4) ∧ w'.cell? ⟨gx, 5, none⟩ = some (.slice A5 F.2.f5.length c5)) (ds := [16]) (bA 17 0) (by kernel_rfl) rfl rfl ⟨(blk_cell HK8.out 5).trans rfl, hvk8, (blk_cell HKx.out 0).trans rfl, (blk_cell HKx.out 1).trans rfl, (blk_cell HKx.out 2).trans rfl, (blk_cell HKx.out 3).trans rfl, (blk_cell HKx.out 4).trans rfl, (blk_cell HKx.out 5).trans rfl⟩ (fun hHeld => ?_); refine with_tabW parser_line.tab16 parser_line.bits16 (fun HT_ HW_ => ?_)
   have HFk := zA hfk8
   have HVk := zA hvk8
   clear hfk8 hvk8
   generalize w7.drew = w8 at HH HRk HR5 HKx HK8 HR8 HB8 HFk HVk hHeld ⊢
   refine pu_ (i := 0) (N := some 90) (bA 17 1) ?_
   refine pu_ (i := 1) (N := some 91) (bA 17 3) ?_
   refine pu_ (i := 2) (N := some 92) (bA 17 7) ?_
   refine pu_ (i := 4) (N := some 94) (bA 17 23) ?_
   refine pu_ (i := 5) (N := some 95) (bA 17 55) ?_
   refine pu_ (i := 6) (N := some 96) (bA 17 119) ?_
   refine pu_ (i := 7) (N := some 97) (bA 17 247) ?_
   refine pu_ (i := 9) (N := some 99) (bA 17 759) ?_
   refine tk_ (i := 3) (N := some 93) (bA 17 767) ?_
   refine tk_ (i := 8) (N := some 98) (bA 17 1023) ?_
   refine pu_ (i := 10) (N := some 100) (bA 17 2047) ?_
   refine tk_ (i := 11) (N := some 101) (bA 17 4095) ?_
   refine tk_ (i := 12) (N := some 102) (bA 17 8191) ?_
   refine one_ (i := 13) (N := some 103) (bA 17 16383) rfl rfl (one_of HT_.out (by kernel_rfl)) (by decide) (fun K hK => ?_)
   refine value_ (v := .slice (some ⟨w8.heap.size, 0, none⟩) 1 1) (w1 := w8.alloc (.cells #[.int .i64 F.2.f0, .int .i64 F.2.f1, .int .i64 F.2.f2, .int .i64 F.2.f3, .string F.2.f4, .slice A5 F.2.f5.length c5] 44)) rfl rfl (by first | (go_simp; done) | (go_simp; with_reducible rfl)) ?_
   have hba := below_alloc (Below.refl w8.heap.size w8) (.cells #[.int .i64 F.2.f0, .int .i64 F.2.f1, .int .i64 F.2.f2, .int .i64 F.2.f3, .string F.2.f4, .slice A5 F.2.f5.length c5] 44)
   refine hK.out _ _ ⟨(hba.cell (zE _ _ hHeld.1)).trans hHeld.1, (hba.cell (zE _ _ hHeld.2.1)).trans hHeld.2.1, (hba.cell (zE _ _ hHeld.2.2.1)).trans hHeld.2.2.1, (hba.cell (zE _ _ hHeld.2.2.2.1)).trans hHeld.2.2.2.1, (hba.cell (zE _ _ hHeld.2.2.2.2.1)).trans hHeld.2.2.2.2.1, (hba.cell (zE _ _ hHeld.2.2.2.2.2.1)).trans hHeld.2.2.2.2.2.1, (hba.cell (zE _ _ hHeld.2.2.2.2.2.2.1)).trans hHeld.2.2.2.2.2.2.1, (hba.cell (zE _ _ hHeld.2.2.2.2.2.2.2)).trans hHeld.2.2.2.2.2.2.2⟩ (fun hHeld2 => ?_)
   clear hK K hHeld hba
   refine norm_ (a' := ?_) ?_ ?_
   rotate_left
   ·show Act.put _ (some 103) _ = _
    simp only [Act.put, List.setIfInBounds_toArray, List.set_cons_zero, List.set_cons_succ, i64_w, i32_w]
    rfl
   have hDw8 : D ≤ w8.heap.size := Nat.le_trans hDw (Nat.le_trans HBc.out.size HB8.out.size)
   refine one_ (i := 14) (N := some 104) (bA 17 32767) rfl rfl (one_of HT_.out (by kernel_rfl)) (by decide) (fun K hK => ?_)
   refine Kd.R_append_step kIns (w0 := w8) D (by rfl) (.tmp 101) (.tmp 103) 41 44 (.agg #[(.int .i64 0), (.int .i64 0), (.int .i64 0), (.int .i64 0), (.string ⟨#[]⟩), (.slice none 0 0)]) 72 rfl Tryz.underlying41 infoIns rfl (by decide) (by omega) (.slice Ak xk.length ck) xk F.2 [.int .i64 F.2.f0, .int .i64 F.2.f1, .int .i64 F.2.f2, .int .i64 F.2.f3, .string F.2.f4, .slice A5 F.2.f5.length c5] (fun q => oki q ∨ w'.heap.size ≤ q) (fun q => w'.heap.size ≤ q) rfl rfl ?hp ?hokp ?hfresh ?HO (Below.refl _ _) hDw8 (by omega) ?_
   case hp => exact kIns_mkM w8 D _ F.2 (Kd.R_lower (Kd.R_mono (Kd.R_bound HR5.out) (fun q hq => hq.2.1)) (Nat.le_trans hDw HBc.out.size))
   case hokp => exact fun q hq => ⟨.inr hq, fun e => by have := (HOk.out q (HRk.out.1 q e.symm)).1.2; omega⟩
   case hfresh => exact fun q hq => .inr (Nat.le_trans HB8.out.size hq)
   case HO => exact Kd.R_mono HRk.out (fun q hq => .inl hq)
   intro v104 w9 ho hb9 hg9 _
   obtain ⟨A9, c9, e9⟩ := Kd.R_slice ho
   subst e9
   rw [show (xk ++ [F.2]).length = xk.length + 1 by simp] at ho ⊢
   have hkb : w9.heap[gb]? = w8.heap[gb]? := hg9.block gb (zE _ _ HVk.out) (fun e => (HOk.out gb (HRk.out.1 gb e.symm)).2 rfl)
   have hkg : w9.heap[gx]? = w8.heap[gx]? := hg9.block gx (blk_lt HKx.out) (fun e => by have := (HOk.out gx (HRk.out.1 gx e.symm)).1.2; omega)
   obtain ⟨csb, hcsb⟩ := Kd.S_typed HSb.out gb (by simp [Value.ownBlock])
   have HCb := zA (hkb.trans (blk_below (blk_below hcsb HBc.out) HB8.out))
   clear hcsb
   have hv9 : w9.cell? ⟨gb, s.blocks.length - 1, none⟩ = some (.slice Ak xk.length ck) := (World.cell?_of_block (w := w8) hkb).trans HVk.out
   have hf9 : w9.frozen? ⟨gb, s.blocks.length - 1, none⟩ = false := (World.frozen?_of_block (w := w8) hkb).trans HFk.out
   have hkp9 := (hb9.block gp lt).trans HK8.out
   have hkx9 := hkg.trans HKx.out
   have HK9 := zA hkp9
   have HR9 := zA (show Kd.R (Kd.int .i64) 3 w9 D (fun _ => True) vh s.head from Kd.R_over' HR8.out (fun k hk => Kd.R_typed HRk.out k hk) (by decide) hg9)
   have HB9 := zA hb9
   have HRn := zA ho
   have HH9 := zA (Kd.H_grown HH.out hg9 (fun k hk => HRk.out.1 k hk))
   clear ho hb9 hkb hkg hg9 hHeld2
   refine hK.out _ _ ⟨(blk_cell hkp9 5).trans rfl, hv9, (blk_cell hkx9 0).trans rfl, (blk_cell hkx9 1).trans rfl, (blk_cell hkx9 2).trans rfl, (blk_cell hkx9 3).trans rfl, (blk_cell hkx9 4).trans rfl, (blk_cell hkx9 5).trans rfl⟩ (fun hHeld => ?_)
   clear hK K hkp9 hkx9
   refine norm_ (a' := ?_) ?_ ?_
   rotate_left
   ·show Act.put _ (some 104) _ = _
    simp only [Act.put, List.setIfInBounds_toArray, List.set_cons_zero, List.set_cons_succ, i64_w, i32_w]
    rfl
   refine pu_ (i := 15) (N := some 105) (bA 17 65535) ?_
   refine last_ (i := 16) (N := none) (bA 17 131071) rfl rfl (one_of HT_.out (by kernel_rfl)) (by decide) (fun K hK => ?_)
   refine skip_ (w1 := ?_) (by rfl) rfl ?_ ?_
   rotate_left
   ·first | (go_simp; done) | (go_simp; rfl)
   refine hK.out _ _ ?_
   clear hK K hv9 hf9 hHeld
   refine done_ (done_of HT_.out (by kernel_rfl)) ?_
   go_wp2_with fail
   go_ret
   have hgbD : D ≤ gb := hgb
   have hgb' : gb < w'.heap.size := by
    have := Kd.S_lt HSb.out gb (by simp [Value.ownBlock])
    exact Nat.lt_of_lt_of_le this HBc.out.size
   obtain ⟨hS9, hg10⟩ := Kd.S_seg (d := Kd.slice 44 kIns) (ok := fun _ => True) (okg := fun q => w'.heap.size ≤ q) (okp := fun q => oki q ∨ w'.heap.size ≤ q) (Kd.H_mono HH9.out (fun k hk => ⟨trivial, by omega⟩)) hi0 hi1 (seg := [.slice A9 (xk.length + 1) c9]) (j := 0) (Nat.le_refl 1) (x' := xk ++ [F.2]) ⟨_, rfl, HRn.out⟩ (fun k hk => hk) (fun k hk => ⟨trivial, by omega⟩)
   have hsz : (Kd.slice 44 kIns).sz = 1 := rfl
   rw [hsz, Nat.mul_one, Nat.add_zero, HTo.out] at hS9
   have hS10 : Kd.S (Kd.slice 44 kIns) 41 (w9.setCell ⟨gb, s.blocks.length - 1, none⟩ (.slice A9 (xk.length + 1) c9)) D (fun _ => True) (.slice (some ⟨gb, 0, none⟩) s.blocks.length cb) (s.blocks.set (s.blocks.length - 1) (xk ++ [F.2])) := by simpa only [World.setCells] using hS9
   have hgpb : gb ≠ gp := by omega
   have HKp : KeptD gp D w (w9.setCell ⟨gb, s.blocks.length - 1, none⟩ (.slice A9 (xk.length + 1) c9)) := ((((KeptD.of_below HBc.out hDw).trans (KeptD.of_below HB8.out (Nat.le_trans hDw HBc.out.size))).trans (KeptD.of_below HB9.out (Nat.le_refl D)))).trans (KeptD.of_below ((Below.refl D w9).setCell (p := ⟨gb, s.blocks.length - 1, none⟩) hgbD _) (Nat.le_refl D))
   refine ⟨by rw [HR4.out]; rfl, fun _ => ?_, HKp, ?_⟩
   ·rw [HR4.out]
    refine ⟨lt, vh, .slice (some ⟨gb, 0, none⟩) s.blocks.length cb, blk_far HK9.out (p := ⟨gb, s.blocks.length - 1, none⟩) (Ne.symm hgpb) _, ?_, ?_⟩
    ·exact Kd.R_set HR9.out HCb.out (by decide) _ _
    ·show Kd.S _ _ _ _ _ _ (s.blocks.set (s.blocks.length - 1) (s.blocks.getD (s.blocks.length - 1) [] ++ [F.2]))
     rw [← HXk.out]
     exact hS10
   ·exact ((below_step (below_step HB.out HBc.out) HB8.out).trans (HB9.out.mono (Nat.le_trans hD (Nat.le_of_lt lt)))).setCell (p := ⟨gb, s.blocks.length - 1, none⟩) (by show _ ≤ gb; omega) _
def topP (s : PS) (ws : List ByteArray) : Int × PS :=
 match ws with
 | w0 :: w1 :: rest => if w0.toList = s.first.toList ∧ ((rest.length + 2 : Nat) : Int) = s.heads + 2 ∧ nameOk w1 = true then (match rest.mapM numOf with | some l => (0, { s with name := w1, head := l }) | none => (81, s)) else (80, s)
 | _ => (80, s)
def parser_top.T1 : Bool × List (List Nat × List Nat) := (true, [([], []), ([0], [0]), ([1], [1]), ([], []), ([3], [3]), ([4], [4]), ([5], [5]), ([2, 6], [2, 6]), ([7], [7]), ([8], [8]), ([9, 8], [8, 9]), ([8], [8]), ([11, 8], [8, 11]), ([12, 8], [8, 12]), ([13, 8], [8, 13]), ([14, 8], [8, 14]), ([10, 15, 8], [8, 10, 15]), ([8, 16], [8, 16]), ([17, 8], [17]), ([18], [18]), ([19, 18], [18, 19]), ([20, 18], [18, 20]), ([21, 18, 18], [18, 21]), ([22, 18], [18, 22]), ([18, 23], [18, 23])])
def parser_top.B1 : List Nat := [0, 1, 3, 0, 8, 24, 56, 127, 255, 511, 1023, 511, 2559, 6655, 14847, 31231, 65535, 131071, 262143, 524287, 1048575, 2097151, 4194303, 8388607, 16777215]
theorem parser_top.tab1 : rtab .any (opsOf Tryz.f49 1) = parser_top.T1 := by kernel_rfl
theorem parser_top.bits1 : waitsOk parser_top.T1.2 parser_top.B1 = true := by kernel_rfl
def badTop (s : PS) (w0 : ByteArray) (rest : List ByteArray) : Bool := !(w0.toList == s.first.toList && decide ((rest.length : Int) + 1 = s.heads + 2) && (match rest with | w1 :: _ => nameOk w1 | [] => false))
set_option maxHeartbeats 8000000 in
set_option maxRecDepth 100000 in
theorem top_calls {w0 w : World} (hL : LaidW w0) (hB : Below w0.heap.size w0 w) (gp gw D : Nat) (hD : w0.heap.size ≤ gp) (s : PS) (lt : gp < D) (hs : w.heap[gp]? = some (.cells #[.bool s.code, .string s.first, .int .i64 s.heads, .string s.name, .slice none 0 0, .slice none 0 0] 63 (0, 0))) (hh : s.head = []) (hbk : s.blocks = []) (hhd : 1 ≤ s.heads ∧ s.heads ≤ 100) (hDw : D ≤ w.heap.size) (ws : List ByteArray) (hw : WordsAt gw 0 ws w) (h0 : ws ≠ []) (hwl : ws.length ≤ 95000) (hws : ∀ t ∈ ws, t.size ≤ 95000) :
 Calls Tryz.prog 49 #[.pointer (some ⟨gp, 0, none⟩), .slice (some ⟨gw, 0, none⟩) ws.length ws.length] w fun e w' => e = .returned (.int .i64 (topP s ws).1) ∧ ((topP s ws).1 = 0 → PsAt D gp (topP s ws).2 w') ∧ KeptD gp D w w' ∧ Below w0.heap.size w0 w' := by
 obtain ⟨w0d, rest, rfl⟩ : ∃ a l, ws = a :: l := by
  cases ws with
  | nil => exact absurd rfl h0
  | cons a l => exact ⟨a, l, rfl⟩
 have hx0 : w.cell? ⟨gw, 0, none⟩ = some (.string w0d) := WordsAt.cell hw (i := 0) (t := w0d) rfl
 have HLd := zA hL
 have HB := zA hB
 have HK := zA hs
 have HW := zA hw
 have HWs := zA hws
 have hlen : (w0d :: rest).length = rest.length + 1 := rfl
 rw [hlen] at hwl ⊢
 have z6 := bk6 hs
 clear hL hB hs hw hws hlen h0
 go_enter Tryz.func49, Tryz.ntmps49
 go_upto_region 1 with fail
 go_cut [33] (fun v33 wc => v33 = .bool (badTop s w0d rest) ∧ Aside0 (Below w.heap.size w wc))
 case first =>
  by_cases c1 : w0d.toList = s.first.toList
  case neg =>
   obtain ⟨c1a, c1b⟩ := qn c1
   have HD := zA (show badTop s w0d rest = true by unfold badTop; rw [c1a]; rfl)
   clear c1
   refine start_ (n := 25) (S := fun w' => w'.cell? ⟨gw, 0, none⟩ = some (.string w0d) ∧ w'.cell? ⟨gp, 1, none⟩ = some (.string s.first) ∧ w'.cell? ⟨gp, 2, none⟩ = some (.int .i64 s.heads)) (ds := []) (bA 25 0) (by kernel_rfl) rfl rfl ⟨hx0, z6.2.1, z6.2.2.1⟩ (fun hHeld => ?_); refine with_tabW parser_top.tab1 parser_top.bits1 (fun HT_ HW_ => ?_)
   have HBd := zA (below_drew (Below.refl w.heap.size w))
   generalize w.drew = w1 at HBd hHeld ⊢
   refine pu_ (i := 0) (N := some 9) (bA 25 1) ?_
   refine pu_ (i := 1) (N := some 10) (bA 25 3) ?_
   refine pu_ (i := 3) (N := some 12) (bA 25 11) ?_
   refine pu_ (i := 4) (N := some 13) (bA 25 27) ?_
   refine pu_ (i := 5) (N := some 14) (bA 25 59) ?_
   refine tk_ (i := 2) (N := some 11) (bA 25 63) ?_
   refine tk_ (i := 6) (N := some 15) (bA 25 127) ?_
   refine pu_ (i := 7) (N := some 16) (bA 25 255) ?_
   refine pu_ (i := 8) (N := some 17) (bA 25 511) ?_
   refine pu_ (i := 9) (N := some 18) (v := undef) (bA 25 1023) ?_ (hy := Or.inr ⟨by rfl, rfl⟩)
   refine pu_ (i := 10) (N := some 19) (v := undef) (bA 25 2047) ?_ (hy := Or.inr ⟨by rfl, rfl⟩)
   refine pu_ (i := 11) (N := some 20) (v := undef) (bA 25 4095) ?_ (hy := Or.inr ⟨by rfl, rfl⟩)
   refine pu_ (i := 12) (N := some 21) (v := undef) (bA 25 8191) ?_ (hy := Or.inr ⟨by rfl, rfl⟩)
   refine pu_ (i := 13) (N := some 22) (v := undef) (bA 25 16383) ?_ (hy := Or.inr ⟨by rfl, rfl⟩)
   refine pu_ (i := 14) (N := some 23) (v := undef) (bA 25 32767) ?_ (hy := Or.inr ⟨by rfl, rfl⟩)
   refine pu_ (i := 15) (N := some 24) (v := undef) (bA 25 65535) ?_ (hy := Or.inr ⟨by rfl, rfl⟩)
   refine pu_ (i := 16) (N := some 25) (v := undef) (bA 25 131071) ?_ (hy := Or.inr ⟨by rfl, rfl⟩)
   refine pu_ (i := 17) (N := some 26) (bA 25 262143) ?_
   refine pu_ (i := 18) (N := some 27) (bA 25 524287) ?_
   refine pu_ (i := 19) (N := some 28) (v := undef) (bA 25 1048575) ?_ (hy := Or.inr ⟨by rfl, rfl⟩)
   refine pu_ (i := 20) (N := some 29) (v := undef) (bA 25 2097151) ?_ (hy := Or.inr ⟨by rfl, rfl⟩)
   refine pu_ (i := 21) (N := some 30) (v := undef) (bA 25 4194303) ?_ (hy := Or.inr ⟨by rfl, rfl⟩)
   refine pu_ (i := 22) (N := some 31) (v := undef) (bA 25 8388607) ?_ (hy := Or.inr ⟨by rfl, rfl⟩)
   refine pu_ (i := 23) (N := some 32) (v := undef) (bA 25 16777215) ?_ (hy := Or.inr ⟨by rfl, rfl⟩)
   refine pu_ (i := 24) (N := some 33) (bA 25 33554431) ?_
   refine done_ (done_of HT_.out (by kernel_rfl)) ?_
   go_wp2_with fail
   go_meet
   case rel => exact ⟨by rw [HD.out], HBd⟩
  obtain ⟨c1a, c1b⟩ := qe c1
  by_cases c2 : (rest.length : Int) + 1 = s.heads + 2
  case neg =>
   obtain ⟨c2a, c2b⟩ := qn c2
   have HD := zA (show badTop s w0d rest = true by unfold badTop; rw [c1a, zG c2]; rfl)
   have hh3 : wrap64 (s.heads + 2) = s.heads + 2 := by unfold wrap64; omega
   clear c1 c2
   refine start_ (n := 25) (S := fun w' => w'.cell? ⟨gw, 0, none⟩ = some (.string w0d) ∧ w'.cell? ⟨gp, 1, none⟩ = some (.string s.first) ∧ w'.cell? ⟨gp, 2, none⟩ = some (.int .i64 s.heads)) (ds := []) (bA 25 0) (by kernel_rfl) rfl rfl ⟨hx0, z6.2.1, z6.2.2.1⟩ (fun hHeld => ?_); refine with_tabW parser_top.tab1 parser_top.bits1 (fun HT_ HW_ => ?_)
   have HBd := zA (below_drew (Below.refl w.heap.size w))
   generalize w.drew = w1 at HBd hHeld ⊢
   refine pu_ (i := 0) (N := some 9) (bA 25 1) ?_
   refine pu_ (i := 1) (N := some 10) (bA 25 3) ?_
   refine pu_ (i := 3) (N := some 12) (bA 25 11) ?_
   refine pu_ (i := 4) (N := some 13) (bA 25 27) ?_
   refine pu_ (i := 5) (N := some 14) (bA 25 59) ?_
   refine tk_ (i := 2) (N := some 11) (bA 25 63) ?_
   refine tk_ (i := 6) (N := some 15) (bA 25 127) ?_
   refine pu_ (i := 7) (N := some 16) (bA 25 255) ?_
   refine pu_ (i := 8) (N := some 17) (bA 25 511) ?_
   refine pu_ (i := 9) (N := some 18) (bA 25 1023) ?_
   refine pu_ (i := 10) (N := some 19) (bA 25 2047) ?_
   refine pu_ (i := 11) (N := some 20) (bA 25 4095) ?_
   refine pu_ (i := 12) (N := some 21) (bA 25 8191) ?_
   refine pu_ (i := 13) (N := some 22) (bA 25 16383) ?_
   refine tk_ (i := 14) (N := some 23) (bA 25 32767) ?_
   refine pu_ (i := 15) (N := some 24) (bA 25 65535) ?_
   refine pu_ (i := 16) (N := some 25) (bA 25 131071) ?_
   refine pu_ (i := 17) (N := some 26) (bA 25 262143) ?_
   refine pu_ (i := 18) (N := some 27) (bA 25 524287) ?_
   refine pu_ (i := 19) (N := some 28) (v := undef) (bA 25 1048575) ?_ (hy := Or.inr ⟨by rfl, rfl⟩)
   refine pu_ (i := 20) (N := some 29) (v := undef) (bA 25 2097151) ?_ (hy := Or.inr ⟨by rfl, rfl⟩)
   refine pu_ (i := 21) (N := some 30) (v := undef) (bA 25 4194303) ?_ (hy := Or.inr ⟨by rfl, rfl⟩)
   refine pu_ (i := 22) (N := some 31) (v := undef) (bA 25 8388607) ?_ (hy := Or.inr ⟨by rfl, rfl⟩)
   refine pu_ (i := 23) (N := some 32) (v := undef) (bA 25 16777215) ?_ (hy := Or.inr ⟨by rfl, rfl⟩)
   refine pu_ (i := 24) (N := some 33) (bA 25 33554431) ?_
   refine done_ (done_of HT_.out (by kernel_rfl)) ?_
   go_wp2_with fail
   go_meet
   case rel => exact ⟨by rw [HD.out], HBd⟩
  obtain ⟨w1d, r, rfl⟩ : ∃ w1d r, rest = w1d :: r := by
   cases rest with
   | nil => exact absurd c2 (by simp; omega)
   | cons a l => exact ⟨a, l, rfl⟩
  have hx1 : w.cell? ⟨gw, 1, none⟩ = some (.string w1d) := WordsAt.cell HW.out (i := 1) (t := w1d) rfl
  rw [List.length_cons] at *
  obtain ⟨b, hb⟩ : ∃ b, b = nameOk w1d := ⟨_, rfl⟩
  have HNm := zA (show ir_Name.f w1d = some b by rw [name_eq, hb])
  have HD := zA (show badTop s w0d (w1d :: r) = !b by unfold badTop; rw [c1a, zF (by rw [List.length_cons]; omega), hb]; rfl)
  clear hb
  obtain ⟨c2a, c2b⟩ := qe (show (r.length : Int) + 1 + 1 = s.heads + 2 by simpa using c2)
  have hh3 : wrap64 (s.heads + 2) = s.heads + 2 := by unfold wrap64; omega
  have hr1 := eq_true (show (1 : Int) < (r.length : Int) + 1 + 1 by omega)
  have hr0 := eq_true (show (0 : Int) < (r.length : Int) + 1 + 1 by omega)
  clear c1 c2
  refine start_ (n := 25) (S := fun w' => w'.cell? ⟨gw, 0, none⟩ = some (.string w0d) ∧ w'.cell? ⟨gp, 1, none⟩ = some (.string s.first) ∧ w'.cell? ⟨gp, 2, none⟩ = some (.int .i64 s.heads) ∧ w'.cell? ⟨gw, 1, none⟩ = some (.string w1d)) (ds := []) (bA 25 0) (by kernel_rfl) rfl rfl ⟨hx0, z6.2.1, z6.2.2.1, hx1⟩ (fun hHeld => ?_); refine with_tabW parser_top.tab1 parser_top.bits1 (fun HT_ HW_ => ?_)
  have HBd := zA (below_drew (Below.refl w.heap.size w))
  generalize w.drew = w1 at HBd hHeld ⊢
  refine pu_ (i := 0) (N := some 9) (bA 25 1) ?_
  refine pu_ (i := 1) (N := some 10) (bA 25 3) ?_
  refine pu_ (i := 3) (N := some 12) (bA 25 11) ?_
  refine pu_ (i := 4) (N := some 13) (bA 25 27) ?_
  refine pu_ (i := 5) (N := some 14) (bA 25 59) ?_
  refine tk_ (i := 2) (N := some 11) (bA 25 63) ?_
  refine tk_ (i := 6) (N := some 15) (bA 25 127) ?_
  refine pu_ (i := 7) (N := some 16) (bA 25 255) ?_
  refine pu_ (i := 8) (N := some 17) (bA 25 511) ?_
  refine pu_ (i := 9) (N := some 18) (bA 25 1023) ?_
  refine pu_ (i := 10) (N := some 19) (bA 25 2047) ?_
  refine pu_ (i := 11) (N := some 20) (bA 25 4095) ?_
  refine pu_ (i := 12) (N := some 21) (bA 25 8191) ?_
  refine pu_ (i := 13) (N := some 22) (bA 25 16383) ?_
  refine tk_ (i := 14) (N := some 23) (bA 25 32767) ?_
  refine pu_ (i := 15) (N := some 24) (bA 25 65535) ?_
  refine pu_ (i := 16) (N := some 25) (bA 25 131071) ?_
  refine pu_ (i := 17) (N := some 26) (bA 25 262143) ?_
  refine pu_ (i := 18) (N := some 27) (bA 25 524287) ?_
  refine pu_ (i := 19) (N := some 28) (bA 25 1048575) ?_
  refine pu_ (i := 20) (N := some 29) (bA 25 2097151) ?_
  refine tk_ (i := 21) (N := some 30) (bA 25 4194303) ?_
  refine one_ (i := 22) (N := some 31) (bA 25 8388607) rfl rfl (one_of HT_.out (by kernel_rfl)) (by decide) (fun K hK => ?_)
  refine goes_ Tryz.func30 (by kernel_rfl) rfl #[.string w1d] (by rfl) rfl rfl qL ?_
  refine (ir_Name.calls w1d b _ HNm.out).mono ?_
  rintro e w2 ⟨rfl, hb⟩
  refine ⟨_, rfl, ?_⟩
  have HB2 := zA (below_step HBd.out hb)
  have hh2 : w2.cell? ⟨gw, 0, none⟩ = some (.string w0d) ∧ w2.cell? ⟨gp, 1, none⟩ = some (.string s.first) ∧ w2.cell? ⟨gp, 2, none⟩ = some (.int .i64 s.heads) ∧ w2.cell? ⟨gw, 1, none⟩ = some (.string w1d) := ⟨(hb.cell (zE _ _ hHeld.1)).trans hHeld.1, (hb.cell (zE _ _ hHeld.2.1)).trans hHeld.2.1, (hb.cell (zE _ _ hHeld.2.2.1)).trans hHeld.2.2.1, (hb.cell (zE _ _ hHeld.2.2.2)).trans hHeld.2.2.2⟩
  clear hb hHeld
  refine hK.out _ _ hh2 (fun hHeld => ?_)
  clear hK K hh2
  refine norm_ (a' := ?_) ?_ ?_
  rotate_left
  ·show Act.put _ (some 31) _ = _
   simp only [Act.put, List.setIfInBounds_toArray, List.set_cons_zero, List.set_cons_succ, i64_w, i32_w]
   rfl
  refine pu_ (i := 23) (N := some 32) (bA 25 16777215) ?_
  refine pu_ (i := 24) (N := some 33) (bA 25 33554431) ?_
  refine done_ (done_of HT_.out (by kernel_rfl)) ?_
  go_wp2_with fail
  go_meet
  case rel => exact ⟨by rw [HD.out], HB2⟩
 case rest =>
  obtain ⟨rfl, HBc⟩ := hcut
  have HKc := zA (blk_below HK.out HBc.out)
  have HWc := zA (WordsAt.low HW.out (by obtain ⟨_, hk, _⟩ := HW.out; exact blk_lt hk) HBc.out)
  clear z6 hx0
  by_cases c1 : badTop s w0d rest = true
  ·have hR : topP s (w0d :: rest) = (80, s) := by
    unfold badTop at c1
    cases rest with
    | nil => rfl
    | cons w1d r =>
     unfold topP
     dsimp only
     rw [zD]
     rintro ⟨h1, h2, h3⟩
     have e2 : decide ((((w1d :: r).length : Nat) : Int) + 1 = s.heads + 2) = true := zF (by rw [List.length_cons]; omega)
     dsimp only at c1
     rw [h1, e2, h3] at c1
     simp at c1
   have HR := zA hR
   clear hR
   rw [c1]
   clear c1
   go_wp2_with fail
   go_ret
   exact ⟨by rw [HR.out]; rfl, fun h => by rw [HR.out] at h; exact absurd (show (80 : Int) = 0 from h) (by decide), KeptD.of_below HBc.out hDw, below_step HB.out HBc.out⟩
  have c2 : badTop s w0d rest = false := by simpa using c1
  rw [c2]
  have hc : w0d.toList = s.first.toList ∧ (rest.length : Int) + 1 = s.heads + 2 ∧ ∃ w1d r, rest = w1d :: r ∧ nameOk w1d = true := by
   unfold badTop at c2
   simp only [Bool.not_eq_false', Bool.and_eq_true, beq_iff_eq, decide_eq_true_eq] at c2
   obtain ⟨⟨h1, h2⟩, h3⟩ := c2
   refine ⟨h1, h2, ?_⟩
   cases rest with
   | nil => cases h3
   | cons a l => exact ⟨a, l, rfl, h3⟩
  obtain ⟨h1, h2, w1d, r, rfl, h3⟩ := hc
  have HR : Aside0 (topP s (w0d :: w1d :: r) = match r.mapM numOf with | some l => (0, { s with name := w1d, head := l }) | none => (81, s)) := ⟨by
   unfold topP
   dsimp only
   rw [zC ⟨h1, by rw [List.length_cons] at h2; omega, h3⟩]⟩
  have hr1 : 1 ≤ r.length := by rw [List.length_cons] at h2; omega
  clear h1 h2 h3 c1 c2
  rw [List.length_cons] at *
  have hx1 : wc.cell? ⟨gw, 1, none⟩ = some (.string w1d) := WordsAt.cell HWc.out (i := 1) (t := w1d) rfl
  have HW2 := zA (WordsAt.tail (WordsAt.tail HWc.out))
  have z6 := bk6 HKc.out
  have hrz : (r.length = 0) = False := eq_false (by omega)
  have hr2 := eq_true (show (2 : Int) ≤ (r.length : Int) + 1 + 1 by omega)
  have hr3 := eq_true (show (1 : Int) < (r.length : Int) + 1 + 1 by omega)
  go_wp2_with fail
  have HK1 := zA (show (wc.setCell ⟨gp, 3, none⟩ (.string w1d)).heap[gp]? = some (.cells #[.bool s.code, .string s.first, .int .i64 s.heads, .string w1d, .slice none 0 0, .slice none 0 0] 63 (0, 0)) from blk_put HKc.out 3 _ rfl)
  have HKp := zA ((KeptD.of_below (gp := gp) HBc.out hDw).set 3 (.string w1d))
  have HB1 := zA ((below_step HB.out HBc.out).setCell (p := ⟨gp, 3, none⟩) hD (.string w1d))
  have HWr := zA (show WordsAt gw 2 r (wc.setCell ⟨gp, 3, none⟩ (.string w1d)) by
   obtain ⟨cs, hk, hcs⟩ := HW2.out
   refine ⟨cs, (heap_setCell_other _ _ _ _ (fun e => ?_)).trans hk, hcs⟩
   subst e
   have := HKc.out.symm.trans hk
   simp at this)
  have hDc : D ≤ (wc.setCell ⟨gp, 3, none⟩ (.string w1d)).heap.size := Nat.le_trans hDw HKp.out.1
  generalize wc.setCell ⟨gp, 3, none⟩ (.string w1d) = w4 at HK1 HKp HB1 HWr hDc ⊢
  have HGw := zA (show ∃ cs : Array Value, w4.heap[gw]? = some (.cells cs 9 (0, 0)) ∧ ∀ (i : Nat) t, r[i]? = some t → cs[2 + i]? = some (.string t) from HWr.out)
  clear z6 hx1 hrz hr2 hr3 HKc HWc HW2 HBc
  go_loopg [43] r.length (fun kq v43 w' => ∃ (j : Nat) (l : List Int) (vh : Value), v43 = .int .i64 (j : Int) ∧ Aside0 (kq + j = r.length) ∧ Aside0 (w'.heap[gp]? = some (.cells #[.bool s.code, .string s.first, .int .i64 s.heads, .string w1d, vh, .slice none 0 0] 63 (0, 0))) ∧ Aside0 (Kd.R (Kd.int .i64) 3 w' D (fun _ => True) vh l) ∧ Aside0 (WordsAt gw 2 r w') ∧ Aside0 (KeptD gp D w w') ∧ Aside0 (Below w0.heap.size w0 w') ∧ Aside0 (r.mapM numOf = ((r.drop j).mapM numOf).map (l ++ ·)) ∧ Aside0 (l.length = j))
  case atStart => exact ⟨0, [], .slice none 0 0, by first | rfl | simp, ⟨by omega⟩, HK1, ⟨Kd.R_nil _ _ _ _ _⟩, HWr, HKp, HB1, ⟨by simp⟩, ⟨rfl⟩⟩
  case round =>
   clear HK1 HKp HB1 HWr HGw
   obtain ⟨j, l, vh, rfl, HJ, HK1, HRw, HWr, HKp, HB1, HM, HL⟩ := hrel
   have hDr : D ≤ wr.heap.size := Nat.le_trans hDw HKp.out.1
   cases gk with
   | zero =>
    have hj : j = r.length := by have := HJ.out; omega
    have d1b := zG (show ¬ ((j : Int) < (r.length : Int)) by omega)
    have d1c := zG (show ¬ (j < r.length) by omega)
    have HR2 := zA (show topP s (w0d :: w1d :: r) = (0, { s with name := w1d, head := l }) from by
     rw [HR.out, HM.out, hj, List.drop_length]
     simp)
    go_wp2_with fail
    go_ret
    refine ⟨by rw [HR2.out]; rfl, fun _ => ?_, HKp.out, HB1.out⟩
    rw [HR2.out]
    exact ⟨lt, vh, .slice none 0 0, HK1.out, HRw.out, by show Kd.S _ _ _ _ _ _ s.blocks; rw [hbk]; exact Kd.S_nil _ _ _ _ _⟩
   | succ k2 =>
    have hj : j < r.length := by have := HJ.out; omega
    have d1b := zF (show ((j : Int) < (r.length : Int)) by omega)
    have d1c := zF hj
    obtain ⟨t, ht⟩ : ∃ t, r[j]? = some t := ⟨_, List.getElem?_eq_getElem hj⟩
    have hts := HWs.out t (List.mem_cons_of_mem _ (List.mem_cons_of_mem _ (List.mem_of_getElem? ht)))
    have hx1 := WordsAt.cell HWr.out ht
    have HMM := zA (HM.out.trans (congrArg (Option.map (l ++ ·)) (mapM_at ht)))
    have HLr := zA (HLd.out.below HB1.out)
    clear ht
    cases hnm : numOf t with
    | none =>
     have HNm := zA hnm
     have HR1 := zA (show topP s (w0d :: w1d :: r) = (81, s) by rw [HR.out, HMM.out, hnm]; rfl)
     clear hnm
     go_wp2_with (go_at_call 64; refine (textnumber_calls t wr HLr.out (by omega)).mono ?_; rintro e w5 ⟨n, rfl, _, hb⟩; rw [HNm.out]; have HB5 := zA hb; clear hb hx1)
     go_ret
     exact ⟨by rw [HR1.out]; rfl, fun h => by rw [HR1.out] at h; exact absurd (show (81 : Int) = 0 from h) (by decide), HKp.out.trans (KeptD.of_below HB5.out hDr), below_step HB1.out HB5.out⟩
    | some v =>
     have HNm := zA hnm
     have HM2 : Aside0 (r.mapM numOf = ((r.drop (j + 1)).mapM numOf).map ((l ++ [v]) ++ ·)) := ⟨by
      rw [HMM.out, hnm]
      cases (r.drop (j + 1)).mapM numOf <;> simp⟩
     clear hnm
     have hll : l.length ≤ 95000 := by have := HL.out; omega
     have HE := zA (show (l ++ [v]).length = l.length + 1 from by simp)
     go_wp2_with (first
      | (go_at_call 64; refine (textnumber_calls t wr HLr.out (by omega)).mono ?_; rintro e w5 ⟨n, rfl, hv, hb⟩; obtain rfl := hv v HNm.out; rw [HNm.out]; have HB5 := zA hb; have hk5 := blk_below HK1.out hb; have z5 := bk6 hk5; have HK5 := zA hk5; have HR5 := zA (Kd.R_below HRw.out hb); clear hb hx1 hk5 hv)
      | ((with_reducible refine gate_builtin (b := .append) (xs := #[.tmp 58, .tmp 60]) rfl ?_); at_builtin; (refine Kd.R_append (Kd.int .i64) (w0 := w5) D rfl (.tmp 58) (.tmp 60) 42 3 (.int .i64 0) 8 rfl Tryz.underlying42 info3 rfl (by decide) (by omega) vh l n [.int .i64 n] (fun _ => True) (fun _ => False) rfl rfl ?aP (fun _ hk => hk.elim) ?aF ?aO ?aB ?aS ?aL ?_; (case aP => exact rfl); (case aF => exact fun _ _ => trivial); (case aO => exact HR5.out); (case aB => exact Below.refl _ _); (case aS => exact Nat.le_trans hDr HB5.out.size); (case aL => omega); intro v1 w6 ho3 hb3 hg3 _; obtain ⟨A1, c1, rfl⟩ := Kd.R_slice ho3; rw [HE.out] at ho3; have hk6 := (hb3.block gp lt).trans HK5.out; have z6 := bk6 hk6; have HK6 := zA hk6; have HR6 := zA ho3; have HB6 := zA hb3; have HW6 := zA (show WordsAt gw 2 r w6 by obtain ⟨cs, hk, hcs⟩ := HWr.out; exact ⟨cs, (hg3.block gw (blk_lt (blk_below hk HB5.out)) (fun e => by obtain ⟨c2, h2⟩ := Kd.R_typed HR5.out gw e.symm; have := (blk_below hk HB5.out).symm.trans h2; simp at this)).trans (blk_below hk HB5.out), hcs⟩); clear ho3 hb3 hg3 z5 hk6)))
     have HNe := zA (show gw ≠ gp by intro e; subst e; obtain ⟨cs, hk, _⟩ := HW6.out; have := HK6.out.symm.trans hk; simp at this)
     go_roundg k2
     case measure => have := HJ.out; omega
     case rel => exact ⟨j + 1, l ++ [n], _, by go_num, ⟨by have := HJ.out; omega⟩, ⟨blk_put HK6.out 4 _ rfl⟩, ⟨Kd.R_set HR6.out HK6.out (by decide) 4 _⟩, ⟨by obtain ⟨cs, hk, hcs⟩ := HW6.out; exact ⟨cs, (heap_setCell_other _ _ _ _ HNe.out).trans hk, hcs⟩⟩, ⟨((HKp.out.trans (KeptD.of_below HB5.out hDr)).trans (KeptD.of_below HB6.out (Nat.le_refl D))).set 4 _⟩, ⟨((below_step HB1.out HB5.out).trans (HB6.out.mono (Nat.le_trans hD (Nat.le_of_lt lt)))).setCell (p := ⟨gp, 4, none⟩) hD _⟩, HM2, ⟨by rw [List.length_append, HL.out]; rfl⟩⟩
end Go.Proofs.YtniknpjeknmpjaaGreatDoor.Q
namespace Go.Proofs.YtniknpjeknmpjaaGreatDoor.Q
open Go.RowKit Go.Shelf Go.Proofs.YtniknpjeknmpjaaGreatDoor.Plain Go.Proofs.YtniknpjeknmpjaaGreatDoor.PlainName Go.Proofs.YtniknpjeknmpjaaGreatDoorW.PrintWords Go.Proofs.YtniknpjeknmpjaaGreatDoorW.PrintLast Go.Proofs.YtniknpjeknmpjaaGreatDoorW.PrintMore
set_option linter.unusedVariables false
set_option linter.unusedSimpArgs false
attribute [local go_sem] Oper.semAt_some
def wholeB (l : ByteArray) : Bool := Lib.hasSuffix l.data.toList [10]
def trimB (l : ByteArray) : ByteArray := ⟨(Lib.trimSuffix l.data.toList [10]).toArray⟩
def stepP (n : Nat) (st : PS) (l : ByteArray) : Int × PS := if wholeB l = false then (80, st) else if n = 0 then topP st (wordsOf (trimB l)) else lineP st (wordsOf (trimB l))
def parseR : Nat → Nat → PS → ByteArray → Int × Int × PS
 | 0, _, st, _ => (0, 0, st)
 | k + 1, n, st, s => if s.size = 0 then (0, 0, st) else
  if (stepP n st (cutB s).1).1 = 0 then parseR k (n + 1) (stepP n st (cutB s).1).2 (cutB s).2 else ((n + 1 : Nat), (stepP n st (cutB s).1).1, st)
def TakenAt (D gp n : Nat) (st : PS) (W : World) : Prop :=
 if n = 0 then gp < D ∧ W.heap[gp]? = some (.cells #[.bool st.code, .string st.first, .int .i64 st.heads, .string st.name, .slice none 0 0, .slice none 0 0] 63 (0, 0)) ∧ st.head = [] ∧ st.blocks = [] else PsAt D gp st W
structure PB (gp g2 g4 g5 g6 B D : Nat) (w0 : World) (c n : Nat) (st : PS) (sB : ByteArray) (W : World) : Prop where
 b2 : W.heap[g2]? = some (.cells #[.pointer (some ⟨gp, 0, none⟩)] 61 (0, 0))
 b4 : W.heap[g4]? = some (.cells #[.int .i64 0] 3 (0, 0))
 b5 : W.heap[g5]? = some (.cells #[.int .i64 0] 26 (0, 0))
 b6 : W.heap[g6]? = some (.cells #[.int .i64 (c : Int)] 3 (0, 0))
 bB : W.heap[B]? = some (.cells #[.string sB] 9 (0, 0))
 tk : TakenAt D gp n st W
 hD : D ≤ W.heap.size
 bl : Below w0.heap.size w0 W
 hh : 1 ≤ st.heads ∧ st.heads ≤ 100
 hb : st.blocks.length ≤ n
 hbb : ∀ b ∈ st.blocks, b.length ≤ n
structure Ord (gp g2 g4 g5 g6 B D : Nat) (w0 : World) : Prop where
 o0 : w0.heap.size ≤ gp
 o1 : gp < g2
 o2 : g2 < g4
 o3 : g4 < g5
 o4 : g5 < g6
 o5 : g6 < B
 o6 : B + 1 < D
theorem TakenAt.move {D gp n : Nat} {st : PS} {W W' : World} (h : TakenAt D gp n st W) (hsz : W.heap.size ≤ W'.heap.size) (hm : ∀ k, k = gp ∨ D ≤ k → k < W.heap.size → W'.heap[k]? = W.heap[k]?) : TakenAt D gp n st W' := by
 unfold TakenAt at *
 split at h
 ·next h0 => rw [zC h0]; exact ⟨h.1, (hm gp (.inl rfl) (blk_lt h.2.1)).trans h.2.1, h.2.2⟩
 ·next h0 =>
  rw [zD h0]
  obtain ⟨lt, vh, vb, hk, hr, hs⟩ := h
  exact ⟨lt, vh, vb, (hm gp (.inl rfl) (blk_lt hk)).trans hk, Kd.R_mono (Kd.R_step (Kd.R_bound hr) (fun k hk hl => hm k (.inr hk.2.1) hl)) (fun k hk => hk.1), Kd.S_mono (Kd.S_step (Kd.S_bound hs) (fun k hk hl => hm k (.inr hk.2.1) hl)) (fun k hk => hk.1)⟩
section
variable {gp g2 g4 g5 g6 B D c n : Nat} {w0 W W' : World} {st : PS} {sB : ByteArray}
theorem PB.put (h : PB gp g2 g4 g5 g6 B D w0 c n st sB W) (ho : Ord gp g2 g4 g5 g6 B D w0) {j : Nat} {o : Obj} (h1 : B < j) (h2 : j < D) : PB gp g2 g4 g5 g6 B D w0 c n st sB (W.putObj j o) := by
 have hne : ∀ k, k ≠ j → (W.putObj j o).heap[k]? = W.heap[k]? := fun k hk => World.putObj_heap_other hk
 have := ho.o1; have := ho.o2; have := ho.o3; have := ho.o4; have := ho.o5; have := ho.o0
 have hsz : (W.putObj j o).heap.size = W.heap.size := by simp [World.putObj]
 exact ⟨(hne _ (by omega)).trans h.b2, (hne _ (by omega)).trans h.b4, (hne _ (by omega)).trans h.b5, (hne _ (by omega)).trans h.b6, (hne _ (by omega)).trans h.bB, h.tk.move (Nat.le_of_eq hsz.symm) (fun k hk _ => hne k (by omega)), by rw [hsz]; exact h.hD,
  h.bl.trans ((Below.refl _ W).grown (grownBy_putObj' W j o) h.bl.size (fun k e => by cases e; omega)), h.hh, h.hb, h.hbb⟩
theorem PB.drew (h : PB gp g2 g4 g5 g6 B D w0 c n st sB W) : PB gp g2 g4 g5 g6 B D w0 c n st sB W.drew :=
 ⟨h.b2, h.b4, h.b5, h.b6, h.bB, h.tk.move (Nat.le_refl _) (fun _ _ _ => rfl), h.hD, below_drew h.bl, h.hh, h.hb, h.hbb⟩
theorem PB.setB (h : PB gp g2 g4 g5 g6 B D w0 c n st sB W) (ho : Ord gp g2 g4 g5 g6 B D w0) (s' : ByteArray) : PB gp g2 g4 g5 g6 B D w0 c n st s' (W.setCell ⟨B, 0, none⟩ (.string s')) := by
 have hne : ∀ k, k ≠ B → (W.setCell ⟨B, 0, none⟩ (.string s')).heap[k]? = W.heap[k]? := fun k hk => heap_setCell_other _ _ _ _ hk
 have := ho.o1; have := ho.o2; have := ho.o3; have := ho.o4; have := ho.o5; have := ho.o0; have := ho.o6
 have hsz : (W.setCell ⟨B, 0, none⟩ (.string s')).heap.size = W.heap.size := by simp [World.setCell]
 exact ⟨(hne _ (by omega)).trans h.b2, (hne _ (by omega)).trans h.b4, (hne _ (by omega)).trans h.b5, (hne _ (by omega)).trans h.b6, blk_put h.bB 0 _ rfl, h.tk.move (Nat.le_of_eq hsz.symm) (fun k hk _ => hne k (by omega)), by rw [hsz]; exact h.hD, h.bl.setCell (p := ⟨B, 0, none⟩) (by show _ ≤ B; omega) _, h.hh, h.hb, h.hbb⟩
theorem PB.below (h : PB gp g2 g4 g5 g6 B D w0 c n st sB W) (hb : Below W.heap.size W W') : PB gp g2 g4 g5 g6 B D w0 c n st sB W' :=
 ⟨blk_below h.b2 hb, blk_below h.b4 hb, blk_below h.b5 hb, blk_below h.b6 hb, blk_below h.bB hb, h.tk.move hb.size (fun k _ hl => hb.block k hl), Nat.le_trans h.hD hb.size, below_step h.bl hb, h.hh, h.hb, h.hbb⟩
theorem PB.inc (h : PB gp g2 g4 g5 g6 B D w0 c n st sB W) (ho : Ord gp g2 g4 g5 g6 B D w0) (c' : Nat) (x : Int) (hx : x = (c' : Int)) : PB gp g2 g4 g5 g6 B D w0 c' n st sB (W.setCell ⟨g6, 0, none⟩ (.int .i64 x)) := by
 subst hx
 have hne : ∀ k, k ≠ g6 → (W.setCell ⟨g6, 0, none⟩ (.int .i64 (c' : Int))).heap[k]? = W.heap[k]? := fun k hk => heap_setCell_other _ _ _ _ hk
 have := ho.o1; have := ho.o2; have := ho.o3; have := ho.o4; have := ho.o5; have := ho.o0; have := ho.o6
 have hsz : (W.setCell ⟨g6, 0, none⟩ (.int .i64 (c' : Int))).heap.size = W.heap.size := by simp [World.setCell]
 exact ⟨(hne _ (by omega)).trans h.b2, (hne _ (by omega)).trans h.b4, (hne _ (by omega)).trans h.b5, blk_put h.b6 0 _ rfl, (hne _ (by omega)).trans h.bB, h.tk.move (Nat.le_of_eq hsz.symm) (fun k hk _ => hne k (by omega)), by rw [hsz]; exact h.hD, h.bl.setCell (p := ⟨g6, 0, none⟩) (by show _ ≤ g6; omega) _, h.hh, h.hb, h.hbb⟩
theorem PB.took (h : PB gp g2 g4 g5 g6 B D w0 c n st sB W) (ho : Ord gp g2 g4 g5 g6 B D w0) {st2 : PS} (hk : KeptD gp D W W') (hbl : Below w0.heap.size w0 W') (hp : PsAt D gp st2 W') (k1 : st2.heads = st.heads) (k2 : st2.blocks.length ≤ n + 1) (k3 : ∀ b ∈ st2.blocks, b.length ≤ n + 1) : PB gp g2 g4 g5 g6 B D w0 c (n + 1) st2 sB W' := by
 have := ho.o1; have := ho.o2; have := ho.o3; have := ho.o4; have := ho.o5; have := ho.o0; have := ho.o6
 have mv : ∀ {k : Nat} {o : Obj}, k < D → k ≠ gp → W.heap[k]? = some o → W'.heap[k]? = some o := fun h1 h2 h3 => (hk.2 _ h1 h2 (blk_lt h3)).trans h3
 exact ⟨mv (by omega) (by omega) h.b2, mv (by omega) (by omega) h.b4, mv (by omega) (by omega) h.b5, mv (by omega) (by omega) h.b6, mv (by omega) (by omega) h.bB, by unfold TakenAt; rw [zD (Nat.succ_ne_zero n)]; exact hp, Nat.le_trans h.hD hk.1, hbl, by rw [k1]; exact h.hh, k2, k3⟩
theorem PB.stop (b4 : W.heap[g4]? = some (.cells #[.int .i64 0] 3 (0, 0))) (b5 : W.heap[g5]? = some (.cells #[.int .i64 0] 26 (0, 0))) (hbl : Below w0.heap.size w0 W) (ho : Ord gp g2 g4 g5 g6 B D w0) (x y : Int) :
 ((W.setCell ⟨g4, 0, none⟩ (.int .i64 x)).setCell ⟨g5, 0, none⟩ (.int .i64 y)).heap[g4]? = some (.cells #[.int .i64 x] 3 (0, 0)) ∧ ((W.setCell ⟨g4, 0, none⟩ (.int .i64 x)).setCell ⟨g5, 0, none⟩ (.int .i64 y)).heap[g5]? = some (.cells #[.int .i64 y] 26 (0, 0)) ∧ Below w0.heap.size w0 ((W.setCell ⟨g4, 0, none⟩ (.int .i64 x)).setCell ⟨g5, 0, none⟩ (.int .i64 y)) ∧ ∀ k, k ≠ g4 → k ≠ g5 → ((W.setCell ⟨g4, 0, none⟩ (.int .i64 x)).setCell ⟨g5, 0, none⟩ (.int .i64 y)).heap[k]? = W.heap[k]? := by
 have := ho.o1; have := ho.o2; have := ho.o3; have := ho.o0
 refine ⟨(heap_setCell_other _ _ _ _ (by show g4 ≠ g5; omega)).trans (blk_put b4 0 _ rfl), ?_, ?_, fun k h1 h2 => (heap_setCell_other _ _ _ _ h2).trans (heap_setCell_other _ _ _ _ h1)⟩
 ·exact blk_put (cs := #[.int .i64 0]) ((heap_setCell_other W ⟨g4, 0, none⟩ _ _ (by show g5 ≠ g4; omega)).trans b5) 0 _ rfl
 ·exact (hbl.setCell (p := ⟨g4, 0, none⟩) (by show _ ≤ g4; omega) _).setCell (p := ⟨g5, 0, none⟩) (by show _ ≤ g5; omega) _
theorem PB.ps (h : PB gp g2 g4 g5 g6 B D w0 c n st sB W) (hn : n ≠ 0) : PsAt D gp st W := by have := h.tk; unfold TakenAt at this; rwa [zD hn] at this
theorem PB.fresh (h : PB gp g2 g4 g5 g6 B D w0 c n st sB W) (hn : n = 0) : gp < D ∧ W.heap[gp]? = some (.cells #[.bool st.code, .string st.first, .int .i64 st.heads, .string st.name, .slice none 0 0, .slice none 0 0] 63 (0, 0)) ∧ st.head = [] ∧ st.blocks = [] := by have := h.tk; unfold TakenAt at this; rwa [zC hn] at this
end
theorem PsAt.move {D gp : Nat} {st : PS} {W W' : World} (h : PsAt D gp st W) (hm : ∀ k, k = gp ∨ D ≤ k → k < W.heap.size → W'.heap[k]? = W.heap[k]?) : PsAt D gp st W' := by
 obtain ⟨lt, vh, vb, hk, hr, hs⟩ := h
 exact ⟨lt, vh, vb, (hm gp (.inl rfl) (blk_lt hk)).trans hk, Kd.R_mono (Kd.R_step (Kd.R_bound hr) (fun k hk hl => hm k (.inr hk.2.1) hl)) (fun k hk => hk.1), Kd.S_mono (Kd.S_step (Kd.S_bound hs) (fun k hk hl => hm k (.inr hk.2.1) hl)) (fun k hk => hk.1)⟩
theorem cut_at (l : ByteArray) (w : World) (h : l.size ≤ 90000) : Calls Tryz.prog 47 #[.string l, .string ⟨#[10]⟩] w fun e w' => e = .returned (.tuple #[.string (trimB l), .bool (wholeB l)]) ∧ w' = w := Any.strings_CutSuffix Tryz.lays104 l ⟨#[10]⟩ w (by omega)
theorem trimB_le (l : ByteArray) : (trimB l).size ≤ l.size := by
 have h : (trimB l).data.toList.length ≤ l.data.toList.length := by
  show (Lib.trimSuffix l.data.toList [10]).toArray.toList.length ≤ _
  unfold Lib.trimSuffix
  split
  ·simp
  ·simp
 simpa using h
theorem cutB_le (s : ByteArray) : (cutB s).1.size ≤ s.size := by
 unfold cutB
 split
 ·simp only [ByteArray.size_extract]; omega
 ·exact Nat.le_refl _
theorem wordsOf_ne (s : ByteArray) : wordsOf s ≠ [] := fun h => by have := wordsOf_len s; rw [h] at this; cases this
theorem splitB_lenle (s : ByteArray) : (wordsOf s).length ≤ s.size + 1 := by
 rw [wordsOf_len]
 exact Nat.succ_le_succ (Lib.countB_le blank1 (by decide) s.size s (Nat.le_refl _))
def parseAll (st : PS) (s : ByteArray) : Int × Int × PS := if s.size = 0 then (1, 80, st) else parseR (s.size + 1) 0 st s
set_option maxHeartbeats 1000000 in
theorem lines_calls (s : ByteArray) (w : World) : Calls Tryz.prog 46 #[.string s] w fun e w' => e = .returned (.func (.func 60) #[] #[.pointer (some ⟨w.heap.size, 0, none⟩)]) ∧ w' = w.alloc (.cells #[.string s] 9 (0, 0)) := by
 have hmf : ∀ (fn : Fn) (first cap : Array Value) (w : World), (Instr.makeFunc fn first cap).run Tryz.prog w = .ok (.func fn first cap) w := fun _ _ _ _ => rfl
 go_enter Tryz.func46, Tryz.ntmps46
 go_wp2
 go_ret
 exact ⟨rfl, rfl⟩
theorem parse_results {tmps : Array Value} {g4 g5 : Nat} {x y : Int} {W : World} (h4 : tmps[4]? = some (.pointer (some ⟨g4, 0, none⟩))) (h5 : tmps[5]? = some (.pointer (some ⟨g5, 0, none⟩))) (c4 : W.heap[g4]? = some (.cells #[.int .i64 x] 3 (0, 0))) (c5 : W.heap[g5]? = some (.cells #[.int .i64 y] 26 (0, 0))) :
 (results Tryz.f25 tmps).run Tryz.prog W = .ok (.tuple #[.int .i64 x, .int .i64 y]) W := by
 have l4 : W.cell? ⟨g4, 0, none⟩ = some (.int .i64 x) := blk_cell c4 0
 have l5 : W.cell? ⟨g5, 0, none⟩ = some (.int .i64 y) := blk_cell c5 0
 simp [results, Tryz.f25, go_sem, h4, h5, l4, l5]
theorem topP_keep (s : PS) (ws : List ByteArray) : (topP s ws).2.heads = s.heads ∧ (topP s ws).2.blocks = s.blocks := by
 unfold topP
 repeat' split
 all_goals exact ⟨rfl, rfl⟩
theorem lineP_keep (s : PS) (ws : List ByteArray) {n : Nat} (hb : s.blocks.length ≤ n) (hbb : ∀ b ∈ s.blocks, b.length ≤ n) : (lineP s ws).2.heads = s.heads ∧ (lineP s ws).2.blocks.length ≤ n + 1 ∧ ∀ b ∈ (lineP s ws).2.blocks, b.length ≤ n + 1 := by
 have same : s.heads = s.heads ∧ s.blocks.length ≤ n + 1 ∧ ∀ b ∈ s.blocks, b.length ≤ n + 1 := ⟨rfl, by omega, fun b h => by have := hbb b h; omega⟩
 unfold lineP
 split
 ·exact same
 ·split
  ·refine ⟨rfl, by simp; omega, fun b h => ?_⟩
   rcases List.mem_append.1 h with h | h
   ·exact same.2.2 b h
   ·rw [List.mem_singleton.1 h]; simp
  ·split
   ·exact same
   ·split
    ·exact same
    ·split
     ·exact same
     ·split
      ·refine ⟨rfl, by simp; omega, fun b h => ?_⟩
       rcases List.mem_or_eq_of_mem_set h with h | h
       ·exact same.2.2 b h
       ·rw [h, List.length_append]
        have : (s.blocks.getD (s.blocks.length - 1) []).length ≤ n := by
         by_cases hl : s.blocks.length - 1 < s.blocks.length
         ·rw [List.getD_eq_getElem?_getD, List.getElem?_eq_getElem hl]; exact hbb _ (List.getElem_mem hl)
         ·rw [List.getD_eq_getElem?_getD, List.getElem?_eq_none (by omega)]; simp
        simp only [List.length_cons, List.length_nil]; omega
      ·exact same
theorem stepP_keep (n : Nat) (s : PS) (l : ByteArray) (hb : s.blocks.length ≤ n) (hbb : ∀ b ∈ s.blocks, b.length ≤ n) : (stepP n s l).2.heads = s.heads ∧ (stepP n s l).2.blocks.length ≤ n + 1 ∧ ∀ b ∈ (stepP n s l).2.blocks, b.length ≤ n + 1 := by
 unfold stepP
 split
 ·exact ⟨rfl, Nat.le_succ_of_le hb, fun b h => by have := hbb b h; omega⟩
 ·split
  ·obtain ⟨h1, h2⟩ := topP_keep s (wordsOf (trimB l)); rw [h2]; exact ⟨h1, Nat.le_succ_of_le hb, fun b h => by have := hbb b h; omega⟩
  ·exact lineP_keep s _ hb hbb
theorem zip1 (t : Array Value) (p : Tmp) (v : Value) : ((#[p] : Array Tmp).zip #[v]).foldl (fun t (p, v) => t.setIfInBounds p v) t = t.setIfInBounds p v := by simp
theorem eqne (E : Int) : (E = 0 ∧ True) ∨ (¬ E = 0 ∧ (E == 0) = false ∧ (E != 0) = true ∧ decide (E = 0) = false) := by
 by_cases h : E = 0
 ·exact .inl ⟨h, trivial⟩
 ·exact .inr ⟨h, by simpa using h, by simpa using h, zG h⟩
theorem new_at {w : World} {o : Obj} {k : Nat} (h : k = w.heap.size) : (w.alloc o).heap[k]? = some o := by rw [h]; exact World.alloc_heap_new w o
theorem old_at {w : World} {o : Obj} {k : Nat} {x : Obj} (h : w.heap[k]? = some x) : (w.alloc o).heap[k]? = some x := (Below.heap_alloc _ _ _ (blk_lt h)).trans h
theorem leaves_ret {tmps : Array Value} {R : Ending → World → Prop} {g4 g5 : Nat} {x y : Int} {W : World} (h4 : tmps[4]? = some (.pointer (some ⟨g4, 0, none⟩))) (h5 : tmps[5]? = some (.pointer (some ⟨g5, 0, none⟩))) (c4 : W.heap[g4]? = some (.cells #[.int .i64 x] 3 (0, 0))) (c5 : W.heap[g5]? = some (.cells #[.int .i64 y] 26 (0, 0))) (hR : R (.returned (.tuple #[.int .i64 x, .int .i64 y])) W) :
 bodyPostM Fence.wide 5 Tryz.prog Tryz.f25 R .ret { tmps := tmps, defers := [] } W := ⟨_, parse_results h4 h5 c4 c5, hR⟩
theorem leaves_mark {e : Exit} (he : e = .ret ∨ e = .normal) {tmps : Array Value} {R : Ending → World → Prop} {g4 g5 r : Nat} {x y : Int} {W : World} (hr : W.heap[r]? = some (.deferred (some []))) (h4 : tmps[4]? = some (.pointer (some ⟨g4, 0, none⟩))) (h5 : tmps[5]? = some (.pointer (some ⟨g5, 0, none⟩))) (c4 : W.heap[g4]? = some (.cells #[.int .i64 x] 3 (0, 0))) (c5 : W.heap[g5]? = some (.cells #[.int .i64 y] 26 (0, 0))) (hR : R (.returned (.tuple #[.int .i64 x, .int .i64 y])) (W.putObj r (.deferred none))) :
 bodyPostM Fence.wide 5 Tryz.prog Tryz.f25 R e { tmps := tmps, defers := [{ target := .collected r, args := #[] }] } W := by
 have h1 : g4 ≠ r := fun e => by rw [e, hr] at c4; cases c4
 have h2 : g5 ≠ r := fun e => by rw [e, hr] at c5; cases c5
 have := parse_results (W := W.putObj r (.deferred none)) h4 h5 ((World.putObj_heap_other h1).trans c4) ((World.putObj_heap_other h2).trans c5)
 rcases he with rfl | rfl
 ·exact ⟨by simp, .inl ⟨r, _, rfl, run_takeDeferred hr, _, this, hR⟩⟩
 ·exact ⟨by simp, .inl ⟨r, _, rfl, run_takeDeferred hr, _, this, hR⟩⟩
set_option maxHeartbeats 8000000 in
set_option maxRecDepth 100000 in
theorem parse_calls {w0 w : World} (hL : LaidW w0) (hB : Below w0.heap.size w0 w) (gp : Nat) (hgp : w0.heap.size ≤ gp) (st : PS) (hs : w.heap[gp]? = some (.cells #[.bool st.code, .string st.first, .int .i64 st.heads, .string st.name, .slice none 0 0, .slice none 0 0] 63 (0, 0))) (hh : st.head = []) (hbk : st.blocks = []) (hhd : 1 ≤ st.heads ∧ st.heads ≤ 100) (s : ByteArray) (hsz : s.size ≤ 90000) :
 Calls Tryz.prog 25 #[.pointer (some ⟨gp, 0, none⟩), .string s] w fun e w' => e = .returned (.tuple #[.int .i64 (parseAll st s).1, .int .i64 (parseAll st s).2.1]) ∧ ((parseAll st s).2.1 = 0 → ∃ D, w.heap.size ≤ D ∧ PsAt D gp (parseAll st s).2.2 w') ∧ Below w0.heap.size w0 w' := by
 have HLd := zA hL
 have HB := zA hB
 have HK := zA hs
 clear hL hB hs
 obtain ⟨R, hR⟩ : ∃ R, R = parseAll st s := ⟨_, rfl⟩
 rw [← hR]
 have HR := zA hR
 clear hR
 refine (callsIn_wide (n := 5)).1 ?_
 refine callsIn_of_wp_marks Tryz.func25 rfl trivial ?_ rfl
 simp only [Tryz.ntmps25, List.size_toArray, List.length_cons, List.length_nil, Nat.reduceAdd, Nat.reduceSub, Array.replicate_succ, Array.replicate_zero, List.push_toArray, List.append_toArray, List.nil_append, List.cons_append]
 by_cases c1 : s.toList = []
 ·obtain ⟨c1a, c1b⟩ := qe c1
  gi_wp2
  have hR : R = (1, 80, st) := by
   have h1 := toList_data s
   rw [c1] at h1
   have h2 : s.data.toList.length = s.size := by simp
   have hz : s.size = 0 := by rw [← h2, ← h1]; rfl
   rw [HR.out]; unfold parseAll
   rw [zC hz]
  rw [hR]
  refine leaves_ret rfl rfl (x := 1) (y := 80) (old_at (new_at (by simp))) (new_at (by simp)) ⟨rfl, fun h => absurd (show (80 : Int) = 0 from h) (by decide), below_alloc (below_alloc (below_alloc HB.out _) _) _⟩
 ·obtain ⟨c1a, c1b⟩ := qn c1
  have hz0 : s.size ≠ 0 := fun h => c1 (by rw [toList_data]; exact List.eq_nil_of_length_eq_zero (by simpa using h))
  gi_wp2_with (refine ⟨trivial, ?_⟩; gi_at_call 46; refine (callsIn_wide.2 (lines_calls s _)).mono ?_; rintro e w' ⟨rfl, rfl⟩)
  obtain ⟨gA, hgA⟩ : ∃ x, x = w.heap.size := ⟨_, rfl⟩
  obtain ⟨W5, hW5⟩ : ∃ W5, W5 = (((((w.alloc (Obj.cells #[Value.pointer (some { block := gp, off := 0 })] 61)).alloc (Obj.cells #[Value.int IntKind.i64 0] 3)).alloc (Obj.cells #[Value.int IntKind.i64 0] 26)).alloc (Obj.cells #[Value.int IntKind.i64 0] 3)).alloc (Obj.cells #[Value.string s] 9)) := ⟨_, rfl⟩
  rw [← hW5, ← hgA]
  have hsz5 : W5.heap.size = gA + 5 := by rw [hW5, hgA]; simp
  have hPB : ∀ o1 o2, PB gp gA (gA + 1) (gA + 2) (gA + 3) (gA + 4) (gA + 7) w0 0 0 st s ((W5.alloc o1).alloc o2) := by
   intro o1 o2
   rw [hW5]
   subst hgA
   refine ⟨old_at (old_at (old_at (old_at (old_at (old_at (new_at rfl)))))), old_at (old_at (old_at (old_at (old_at (new_at (by simp)))))), old_at (old_at (old_at (old_at (new_at (by simp))))), old_at (old_at (old_at (new_at (by simp)))), old_at (old_at (new_at (by simp))), ?_, by simp, ?_, hhd, by rw [hbk]; exact Nat.le_refl _, by rw [hbk]; intro b hb; cases hb⟩
   ·unfold TakenAt
    rw [zC rfl]
    exact ⟨by have := blk_lt HK.out; omega, old_at (old_at (old_at (old_at (old_at (old_at (old_at HK.out)))))), hh, hbk⟩
   ·exact below_alloc (below_alloc (below_alloc (below_alloc (below_alloc (below_alloc (below_alloc HB.out _) _) _) _) _) _) _
  have hord : Ord gp gA (gA + 1) (gA + 2) (gA + 3) (gA + 4) (gA + 7) w0 := ⟨hgp, by rw [hgA]; exact blk_lt HK.out, by omega, by omega, by omega, by omega, by omega⟩
  have HPB := zA hPB
  have HgA := zA hgA
  have HS5 := zA hsz5
  have HO := zA hord
  clear hPB hW5 hgA
  refine wpIn_lines (B := gA + 4) (by omega) rfl rfl
   (fun s' W => ∃ n st' k, PB gp gA (gA + 1) (gA + 2) (gA + 3) (gA + 4) (gA + 7) w0 n n st' s' W ∧ (n = 0 → s'.size ≠ 0) ∧ R = parseR (k + 1) n st' s' ∧ s'.size ≤ k ∧ n + s'.size ≤ 90000)
   (fun s' W => s'.size ≠ 0 ∧ ∃ n st' k, PB gp gA (gA + 1) (gA + 2) (gA + 3) (gA + 4) (gA + 7) w0 n n st' (cutB s').2 W ∧ R = parseR (k + 1) n st' s' ∧ s'.size ≤ k ∧ n + s'.size ≤ 90000)
   (fun c W => c = .ret ∧ R.2.1 ≠ 0 ∧ W.heap[gA + 1]? = some (.cells #[.int .i64 R.1] 3 (0, 0)) ∧ W.heap[gA + 2]? = some (.cells #[.int .i64 R.2.1] 26 (0, 0)) ∧ Below w0.heap.size w0 W)
   ?_ (by rw [hsz5]; omega) ?_ ?_ ?_ ?_ ?_ s ?_ (fun x => { tmps := #[Value.pointer (some { block := gp, off := 0 }), Value.string s, Value.pointer (some { block := gA, off := 0 }), undef, Value.pointer (some { block := gA + 1, off := 0 }), Value.pointer (some { block := gA + 2, off := 0 }), Value.pointer (some { block := gA + 3, off := 0 }), Value.string x, undef, undef, undef, undef, Value.string s, Value.bool false, Value.string s, Value.func (Fn.func 60) #[] #[Value.pointer (some { block := gA + 4, off := 0 })], Value.string x, undef, undef, undef, undef, undef, undef, undef, undef, undef, undef, undef, undef, undef, undef, undef, undef, undef, undef, undef, undef, undef, undef, undef, undef], defers := [] }) ?_ ?_ ?_ ?_
  ·rintro s' W ⟨n, st', k, h, hn, hr, h1, h2⟩
   exact ⟨blk_cell h.bB 0, blk_frozen h.bB 0, by omega⟩
  ·rintro s' W ⟨n, st', k, h, hn, hr, h1, h2⟩
   exact ⟨n, st', k, h.drew, hn, hr, h1, h2⟩
  ·rintro s' W ⟨n, st', k, h, hn, hr, h1, h2⟩ hz
   exact ⟨hz, n, st', k, h.setB hord _, hr, h1, h2⟩
  ·rintro s' W j o hj1 hj2 ⟨n, st', k, h, hn, hr, h1, h2⟩
   exact ⟨n, st', k, h.put hord (by omega) (by omega), hn, hr, h1, h2⟩
  ·rintro s' W j o hj1 hj2 ⟨hz, n, st', k, h, hr, h1, h2⟩
   exact ⟨hz, n, st', k, h.put hord (by omega) (by omega), hr, h1, h2⟩
  ·rintro c W j o hj1 hj2 ⟨rfl, h1, h2, h3, h4⟩
   refine ⟨rfl, h1, (World.putObj_heap_other (by omega)).trans h2, (World.putObj_heap_other (by omega)).trans h3, ?_⟩
   have := hord.o0; have := hord.o1
   exact h4.trans ((Below.refl _ W).grown (grownBy_putObj' W j o) h4.size (fun k e => by cases e; omega))
  ·intro o1 o2
   refine ⟨0, st, s.size, HPB.out o1 o2, fun _ => hz0, ?_, Nat.le_refl _, by omega⟩
   rw [HR.out]; unfold parseAll; rw [zD hz0]
  ·clear hsz5 hord
   intro l x W K hk
   rw [zip1]
   simp only [List.setIfInBounds_toArray, List.set_cons_succ, List.set_cons_zero]
   gi_wp2
   exact hk
  ·clear hsz5 hord
   rintro l s' W ⟨hz, n, st', k, h, hr, h1, h2⟩
   obtain ⟨L, hL⟩ : ∃ L, L = (cutB s').1 := ⟨_, rfl⟩
   have hLs : L.size ≤ 90000 := by rw [hL]; have := cutB_le s'; omega
   have htl := Nat.le_trans (trimB_le L) hLs
   have hws := splitB_lenle (trimB L)
   have HWS := zA (wordsOf_small (trimB L))
   obtain ⟨k', rfl⟩ : ∃ k', k = k' + 1 := ⟨k - 1, by omega⟩
   have hcl := cutB_less hz
   have hrr : R = if (stepP n st' L).1 = 0 then parseR (k' + 1) (n + 1) (stepP n st' L).2 (cutB s').2 else (((n + 1 : Nat) : Int), (stepP n st' L).1, st') := by rw [hr, hL]; conv => lhs; unfold parseR; rw [zD hz]
   obtain ⟨sk1, sk2, sk3⟩ := stepP_keep n st' L h.hb h.hbb
   have HR2 := zA hrr
   have HSK := zA (And.intro sk1 (And.intro sk2 sk3))
   have hstn : n + 1 ≤ 90000 := by omega
   clear hr hrr sk1 sk2 sk3
   rw [← hL]
   have HL := zA hL
   clear hL
   have HI := zA (h.inc HO.out (n + 1) ((n : Int) + 1) (by omega))
   have HS1 := zA (show ∀ k, k ≠ gA + 3 → (W.setCell ⟨gA + 3, 0, none⟩ (.int .i64 ((n : Int) + 1))).heap[k]? = W.heap[k]? from fun k hk => heap_setCell_other _ _ _ _ hk)
   have z2 := bk1 h.b2
   have z4 := bk1 h.b4
   have z5 := bk1 h.b5
   have z6 := bk1 h.b6
   have HPBn := zA h
   clear h hcl
   cases cw : wholeB L with
   | false =>
    gi_wp2_with (refine ⟨trivial, ?_⟩; gi_at_call 47; refine (CallsIn.inRound l (callsIn_wide.2 (cut_at L _ hLs))).mono ?_; rintro e w' ⟨rfl, rfl⟩; rw [cw])
    have hst : stepP n st' L = (80, st') := by unfold stepP; rw [zC cw]
    have hRR : R = (((n + 1 : Nat) : Int), 80, st') := by rw [HR2.out, hst]; exact zD (show ¬ (80 : Int) = 0 by decide)
    have HX := zA (And.intro HI.out.b4 (And.intro HI.out.b5 HI.out.bl))
    have HXS := zA (fun k (h1 : gA + 5 ≤ k) (h2 : k ≤ gA + 6) => HS1.out k (by omega))
    have hs5 := HS5.out
    obtain ⟨s1, s2, s3, s4⟩ := PB.stop HX.out.1 HX.out.2.1 HX.out.2.2 HO.out ((n : Int) + 1) 80
    refine ⟨⟨?_, ?_⟩, rfl, by rw [hRR]; exact (by decide : ¬ (80 : Int) = 0), by rw [hRR]; exact s1, by rw [hRR]; exact s2, s3⟩
    ·exact (s4 _ (by omega) (by omega)).trans (HXS.out _ (by omega) (by omega))
    ·exact (s4 _ (by omega) (by omega)).trans (HXS.out _ (by omega) (by omega))
   | true =>
    have cwn : wholeB L ≠ false := by rw [cw]; decide
    by_cases cn : n = 0
    ·have hS : stepP n st' L = topP st' (wordsOf (trimB L)) := by unfold stepP; rw [zD cwn, zC cn]
     have HST := zA hS
     clear hS
     have CN := zA cn
     have n1a := zF (show (n : Int) + 1 = 1 by omega)
     have n1b := (show ((n : Int) + 1 == 1) = true by rw [cn]; rfl)
     clear cn
     gi_wp2_with (first
      | (refine ⟨trivial, ?_⟩; gi_at_call 47; refine (CallsIn.inRound l (callsIn_wide.2 (cut_at L _ hLs))).mono ?_; rintro e w' ⟨rfl, rfl⟩; rw [cw])
      | (refine ⟨trivial, ?_⟩; gi_at_call 48; refine (CallsIn.inRound l (callsIn_wide.2 (split_at (trimB L) _ (by omega)))).mono ?_; rintro e w1 ⟨gw, rfl, hk, hb, hgw⟩
         have HIb := zA (HI.out.below hb)
         have HXb := zA (show ∀ k, gA + 5 ≤ k → k ≤ gA + 6 → w1.heap[k]? = W.heap[k]? from fun k h1 h2 => (hb.block k (by have := HPBn.out.hD; simp [World.setCell]; omega)).trans (HS1.out k (by omega)))
         have HW := zA (show WordsAt gw 0 (wordsOf (trimB L)) w1 from ⟨_, hk, fun i t ht => by simp [ht]⟩)
         have y2 := bk1 HIb.out.b2
         have y4 := bk1 HIb.out.b4
         have y5 := bk1 HIb.out.b5
         have y6 := bk1 HIb.out.b6
         clear hk hb hgw)
      | (refine ⟨trivial, ?_⟩; gi_at_call 49; refine (CallsIn.inRound l (callsIn_wide.2 (top_calls HLd.out HIb.out.bl gp gw (gA + 7) hgp st' (HIb.out.fresh CN.out).1 (HIb.out.fresh CN.out).2.1 (HIb.out.fresh CN.out).2.2.1 (HIb.out.fresh CN.out).2.2.2 HIb.out.hh HIb.out.hD _ HW.out (wordsOf_ne _) (by omega) (fun t ht => Nat.le_trans (HWS.out t ht) (by omega))))).mono ?_; rintro e w2 ⟨rfl, hps, hkd, hbl⟩
         obtain ⟨E, hE⟩ : ∃ E, E = (topP st' (wordsOf (trimB L))).1 := ⟨_, rfl⟩
         have hpos := HO.out
         have y4' := bk1 ((hkd.2 _ (by omega) (by have := hpos.o1; omega) (blk_lt HIb.out.b4)).trans HIb.out.b4)
         have y5' := bk1 ((hkd.2 _ (by omega) (by have := hpos.o1; omega) (blk_lt HIb.out.b5)).trans HIb.out.b5)
         have y6' := bk1 ((hkd.2 _ (by omega) (by have := hpos.o1; omega) (blk_lt HIb.out.b6)).trans HIb.out.b6)
         have HX := zA (show _ ∧ _ ∧ _ from ⟨(hkd.2 _ (by omega) (by have := hpos.o1; omega) (blk_lt HIb.out.b4)).trans HIb.out.b4, (hkd.2 _ (by omega) (by have := hpos.o1; omega) (blk_lt HIb.out.b5)).trans HIb.out.b5, hbl⟩)
         have HXS := zA (show ∀ k, gA + 5 ≤ k → k ≤ gA + 6 → w2.heap[k]? = W.heap[k]? from fun k h1 h2 => (hkd.2 k (by omega) (by have := hpos.o1; omega) (by have := HIb.out.hD; omega)).trans (HXb.out k h1 h2))
         have HPS := zA hps
         have HKD := zA hkd
         rw [← hE]
         have HE := zA hE
         clear hE hps hkd hbl hpos
         rcases eqne E with ⟨e0, e0a⟩ | ⟨e0, e0a, e0b, e0c⟩))
     ·obtain ⟨q1, q2, q3⟩ := HSK.out
      rw [HST.out] at q1 q2 q3
      have hRR : R = parseR (k' + 1) (n + 1) (topP st' (wordsOf (trimB L))).2 (cutB s').2 := by rw [HR2.out, HST.out]; exact zC (HE.out.symm.trans e0)
      have hs5 := HS5.out
      refine ⟨⟨HXS.out _ (by omega) (by omega), HXS.out _ (by omega) (by omega)⟩, n + 1, _, k', HIb.out.took HO.out HKD.out HX.out.2.2 (HPS.out (HE.out.symm.trans e0)) q1 q2 q3, fun h => absurd h (Nat.succ_ne_zero n), hRR, ?_, ?_⟩
      ·have := cutB_less hz; omega
      ·have := cutB_less hz; omega
     ·have hRR : R = (((n + 1 : Nat) : Int), E, st') := by rw [HR2.out, HST.out, ← HE.out]; exact zD e0
      have hs5 := HS5.out
      obtain ⟨s1, s2, s3, s4⟩ := PB.stop HX.out.1 HX.out.2.1 HX.out.2.2 HO.out ((n : Int) + 1) E
      refine ⟨⟨?_, ?_⟩, rfl, by rw [hRR]; exact e0, by rw [hRR]; exact s1, by rw [hRR]; exact s2, s3⟩
      ·exact (s4 _ (by omega) (by omega)).trans (HXS.out _ (by omega) (by omega))
      ·exact (s4 _ (by omega) (by omega)).trans (HXS.out _ (by omega) (by omega))
    ·have hS : stepP n st' L = lineP st' (wordsOf (trimB L)) := by unfold stepP; rw [zD cwn, zD cn]
     have HST := zA hS
     clear hS
     have n1a := zG (show ¬ (n : Int) + 1 = 1 by omega)
     have n1b := (show ((n : Int) + 1 == 1) = false by simp; omega)
     gi_wp2_with (first
      | (refine ⟨trivial, ?_⟩; gi_at_call 47; refine (CallsIn.inRound l (callsIn_wide.2 (cut_at L _ hLs))).mono ?_; rintro e w' ⟨rfl, rfl⟩; rw [cw])
      | (refine ⟨trivial, ?_⟩; gi_at_call 48; refine (CallsIn.inRound l (callsIn_wide.2 (split_at (trimB L) _ (by omega)))).mono ?_; rintro e w1 ⟨gw, rfl, hk, hb, hgw⟩
         have HIb := zA (HI.out.below hb)
         have HXb := zA (show ∀ k, gA + 5 ≤ k → k ≤ gA + 6 → w1.heap[k]? = W.heap[k]? from fun k h1 h2 => (hb.block k (by have := HPBn.out.hD; simp [World.setCell]; omega)).trans (HS1.out k (by omega)))
         have HW := zA (show WordsAt gw 0 (wordsOf (trimB L)) w1 from ⟨_, hk, fun i t ht => by simp [ht]⟩)
         have y2 := bk1 HIb.out.b2
         have y4 := bk1 HIb.out.b4
         have y5 := bk1 HIb.out.b5
         have y6 := bk1 HIb.out.b6
         clear hk hb hgw)
      | (refine ⟨trivial, ?_⟩; gi_at_call 50; refine (CallsIn.inRound l (callsIn_wide.2 (line_calls2 HLd.out HIb.out.bl gp gw (gA + 7) hgp st' (HIb.out.ps cn) HIb.out.hD _ HW.out (wordsOf_ne _) (by omega) (fun t ht => Nat.le_trans (HWS.out t ht) (by omega)) (by have := HIb.out.hb; omega) (fun b hb => by have := HIb.out.hbb b hb; omega)))).mono ?_; rintro e w2 ⟨rfl, hps, hkd, hbl⟩
         obtain ⟨E, hE⟩ : ∃ E, E = (lineP st' (wordsOf (trimB L))).1 := ⟨_, rfl⟩
         have hpos := HO.out
         have y4' := bk1 ((hkd.2 _ (by omega) (by have := hpos.o1; omega) (blk_lt HIb.out.b4)).trans HIb.out.b4)
         have y5' := bk1 ((hkd.2 _ (by omega) (by have := hpos.o1; omega) (blk_lt HIb.out.b5)).trans HIb.out.b5)
         have y6' := bk1 ((hkd.2 _ (by omega) (by have := hpos.o1; omega) (blk_lt HIb.out.b6)).trans HIb.out.b6)
         have HX := zA (show _ ∧ _ ∧ _ from ⟨(hkd.2 _ (by omega) (by have := hpos.o1; omega) (blk_lt HIb.out.b4)).trans HIb.out.b4, (hkd.2 _ (by omega) (by have := hpos.o1; omega) (blk_lt HIb.out.b5)).trans HIb.out.b5, hbl⟩)
         have HXS := zA (show ∀ k, gA + 5 ≤ k → k ≤ gA + 6 → w2.heap[k]? = W.heap[k]? from fun k h1 h2 => (hkd.2 k (by omega) (by have := hpos.o1; omega) (by have := HIb.out.hD; omega)).trans (HXb.out k h1 h2))
         have HPS := zA hps
         have HKD := zA hkd
         rw [← hE]
         have HE := zA hE
         clear hE hps hkd hbl hpos
         rcases eqne E with ⟨e0, e0a⟩ | ⟨e0, e0a, e0b, e0c⟩))
     ·obtain ⟨q1, q2, q3⟩ := HSK.out
      rw [HST.out] at q1 q2 q3
      have hRR : R = parseR (k' + 1) (n + 1) (lineP st' (wordsOf (trimB L))).2 (cutB s').2 := by rw [HR2.out, HST.out]; exact zC (HE.out.symm.trans e0)
      have hs5 := HS5.out
      refine ⟨⟨HXS.out _ (by omega) (by omega), HXS.out _ (by omega) (by omega)⟩, n + 1, _, k', HIb.out.took HO.out HKD.out HX.out.2.2 (HPS.out (HE.out.symm.trans e0)) q1 q2 q3, fun h => absurd h (Nat.succ_ne_zero n), hRR, ?_, ?_⟩
      ·have := cutB_less hz; omega
      ·have := cutB_less hz; omega
     ·have hRR : R = (((n + 1 : Nat) : Int), E, st') := by rw [HR2.out, HST.out, ← HE.out]; exact zD e0
      have hs5 := HS5.out
      obtain ⟨s1, s2, s3, s4⟩ := PB.stop HX.out.1 HX.out.2.1 HX.out.2.2 HO.out ((n : Int) + 1) E
      refine ⟨⟨?_, ?_⟩, rfl, by rw [hRR]; exact e0, by rw [hRR]; exact s1, by rw [hRR]; exact s2, s3⟩
      ·exact (s4 _ (by omega) (by omega)).trans (HXS.out _ (by omega) (by omega))
      ·exact (s4 _ (by omega) (by omega)).trans (HXS.out _ (by omega) (by omega))
  ·clear hsz5 hord
   rintro s' W hz ⟨n, st', k, h, hn, hr, h1, h2⟩ hd
   refine ‹∀ (a : Act) (w : World), _ → _› _ _ ?_
   have hn0 : n ≠ 0 := fun e => hn e hz
   have HS := zA (PB.stop h.b4 h.b5 h.bl HO.out 0 0)
   have HPS := zA (h.ps hn0)
   have hRn := zA (show R = (0, 0, st') by rw [hr]; unfold parseR; rw [zC hz])
   have z4 := bk1 h.b4
   have z5 := bk1 h.b5
   have HD := zA hd
   clear h hr hd
   gi_wp2
   obtain ⟨s1, s2, s3, s4⟩ := HS.out
   rw [hRn.out]
   have hs5 := HS5.out
   have := HO.out.o0; have := HO.out.o1
   refine leaves_mark (.inl rfl) ((s4 _ (by omega) (by omega)).trans HD.out) rfl rfl s1 s2 ⟨rfl, fun _ => ⟨gA + 7, by rw [HgA.out]; omega, HPS.out.move ?_⟩, ?_⟩
   ·intro k hk hl
    exact (World.putObj_heap_other (by omega)).trans (s4 k (by omega) (by omega))
   ·exact s3.trans ((Below.refl _ _).grown (grownBy_putObj' _ _ _) s3.size (fun k e => by cases e; omega))
  ·clear hsz5 hord
   rintro c W ⟨rfl, h1, h2, h3, h4⟩ hd
   gi_wp2
   refine leaves_mark (.inl rfl) hd rfl rfl h2 h3 ⟨rfl, fun h => absurd h h1, ?_⟩
   have := HO.out.o0; have := HO.out.o1; have := HS5.out
   exact h4.trans ((Below.refl _ W).grown (grownBy_putObj' W _ _) h4.size (fun k e => by cases e; omega))
def psFunc : PS := ⟨false, ⟨#[102, 117, 110, 99]⟩, 2, ⟨#[]⟩, [], []⟩
def text_Parse.f (a0 : ByteArray) : Option (ByteArray × Int × Int × List (List SIns) × Int × Int) :=
 if a0.size ≤ 90000 then
  if (parseAll psFunc a0).2.1 = 0 then some ((parseAll psFunc a0).2.2.name, (parseAll psFunc a0).2.2.head.getD 0 0, (parseAll psFunc a0).2.2.head.getD 1 0, (parseAll psFunc a0).2.2.blocks, 0, 0)
  else some (⟨#[]⟩, 0, 0, [], (parseAll psFunc a0).1, (parseAll psFunc a0).2.1)
 else none
theorem mapM_len {α β : Type} {g : α → Option β} : ∀ {l : List α} {r : List β}, l.mapM g = some r → r.length = l.length
 | [], r, h => by simp at h; subst h; rfl
 | a :: l, r, h => by
  rw [List.mapM_cons] at h
  simp only [Option.pure_def, Option.bind_eq_bind, Option.bind_eq_some_iff] at h
  obtain ⟨x, hx, y, hy, h⟩ := h
  injection h with h
  subst h
  simp [mapM_len hy]
theorem lineP_head (s : PS) (ws : List ByteArray) : (lineP s ws).2.head = s.head := by
 unfold lineP
 repeat' split
 all_goals rfl
theorem lineP_heads (s : PS) (ws : List ByteArray) : (lineP s ws).2.heads = s.heads := by
 unfold lineP
 repeat' split
 all_goals rfl
theorem topP_head {s : PS} {ws : List ByteArray} (h : (topP s ws).1 = 0) : ((topP s ws).2.head.length : Int) = s.heads := by
 unfold topP at h ⊢
 split at h
 ·next w0 w1 rest =>
  split at h
  ·next hc =>
   rw [zC hc]
   split at h
   ·next l hl =>
    have := mapM_len hl
    dsimp only
    omega
   ·exact absurd (show (81 : Int) = 0 from h) (by decide)
  ·exact absurd (show (80 : Int) = 0 from h) (by decide)
 ·exact absurd (show (80 : Int) = 0 from h) (by decide)
theorem stepP_heads (n : Nat) (s : PS) (l : ByteArray) : (stepP n s l).2.heads = s.heads := by
 unfold stepP
 split
 ·rfl
 ·split
  ·exact (topP_keep s _).1
  ·exact lineP_heads s _
theorem parseR_head : ∀ (k n : Nat) (st : PS) (s : ByteArray), n ≠ 0 → (st.head.length : Int) = st.heads → ((parseR k n st s).2.2.head.length : Int) = st.heads
 | 0, n, st, s, hn, h => h
 | k + 1, n, st, s, hn, h => by
  unfold parseR
  split
  ·exact h
  ·split
   ·have e : (stepP n st (cutB s).1).2.head = st.head := by
     unfold stepP
     split
     ·rfl
     ·exact lineP_head _ _
    rw [← stepP_heads n st (cutB s).1]
    exact parseR_head k (n + 1) _ _ (Nat.succ_ne_zero n) (by rw [e, stepP_heads]; exact h)
   ·exact h
theorem parseAll_head {st : PS} {s : ByteArray} (h : (parseAll st s).2.1 = 0) : ((parseAll st s).2.2.head.length : Int) = st.heads := by
 unfold parseAll at h ⊢
 split at h
 ·exact absurd (show (80 : Int) = 0 from h) (by decide)
 ·next hs =>
  rw [zD hs]
  unfold parseR at h ⊢
  rw [zD hs] at h ⊢
  split at h
  ·next h0 =>
   rw [zC h0]
   have e : stepP 0 st (cutB s).1 = topP st (wordsOf (trimB (cutB s).1)) := by
    unfold stepP at h0 ⊢
    split at h0
    ·exact absurd (show (80 : Int) = 0 from h0) (by decide)
    ·next hw => rw [zD hw, zC rfl]
   rw [← stepP_heads 0 st (cutB s).1]
   refine parseR_head _ 1 _ _ (by decide) ?_
   rw [stepP_heads, e]
   rw [e] at h0
   exact topP_head h0
  ·next h0 => exact absurd h h0
theorem box4 {w : World} {g : Nat} {t : TypeId} {a b c d : Value} (hb : w.heap[g]? = some (.cells #[a, b, c, d] t (0, 0))) (a' b' c' d' : Value) :
 ((((w.setCell ⟨g, 0, none⟩ a').setCell ⟨g, 1, none⟩ b').setCell ⟨g, 2, none⟩ c').setCell ⟨g, 3, none⟩ d').heap[g]? = some (.cells #[a', b', c', d'] t (0, 0)) ∧ (∀ k, k ≠ g → ((((w.setCell ⟨g, 0, none⟩ a').setCell ⟨g, 1, none⟩ b').setCell ⟨g, 2, none⟩ c').setCell ⟨g, 3, none⟩ d').heap[k]? = w.heap[k]?) ∧ ((((w.setCell ⟨g, 0, none⟩ a').setCell ⟨g, 1, none⟩ b').setCell ⟨g, 2, none⟩ c').setCell ⟨g, 3, none⟩ d').heap.size = w.heap.size := by
 refine ⟨blk_put (cs := #[a', b', c', d]) (blk_put (cs := #[a', b', c, d]) (blk_put (cs := #[a', b, c, d]) (blk_put hb 0 _ rfl) 1 _ rfl) 2 _ rfl) 3 _ rfl, fun k hk => ?_, by simp [World.setCell]⟩
 exact (heap_setCell_other _ _ _ _ hk).trans ((heap_setCell_other _ _ _ _ hk).trans ((heap_setCell_other _ _ _ _ hk).trans (heap_setCell_other _ _ _ _ hk)))
theorem box4_below {w0 w : World} {g : Nat} (hb : Below w0.heap.size w0 w) (hg : w0.heap.size ≤ g) (a' b' c' d' : Value) : Below w0.heap.size w0 ((((w.setCell ⟨g, 0, none⟩ a').setCell ⟨g, 1, none⟩ b').setCell ⟨g, 2, none⟩ c').setCell ⟨g, 3, none⟩ d') :=
 (((hb.setCell (p := ⟨g, 0, none⟩) hg a').setCell (p := ⟨g, 1, none⟩) hg b').setCell (p := ⟨g, 2, none⟩) hg c').setCell (p := ⟨g, 3, none⟩) hg d'
def text_Parse.T5 : Bool × List (List Nat × List Nat) := (true, [([], []), ([0], [0]), ([1], [1]), ([2], [2]), ([], []), ([4], [4]), ([5], [5]), ([6], [6]), ([7], [7]), ([8], [8]), ([], []), ([10], [10]), ([11], [11]), ([12], [12]), ([13], [13]), ([14], [14]), ([], []), ([16], [16]), ([17], [17]), ([18], [18]), ([3, 9, 15, 19], [3, 9, 15, 19]), ([20, 0, 1, 2, 3, 4, 5, 6, 7, 8, 9, 10, 11, 12, 13, 14, 15, 16, 17, 18, 19, 20], [20]), ([21, 0, 1, 2, 3, 4, 5, 6, 7, 8, 9, 10, 11, 12, 13, 14, 15, 16, 17, 18, 19, 20, 21], []), ([22, 0, 1, 2, 3, 4, 5, 6, 7, 8, 9, 10, 11, 12, 13, 14, 15, 16, 17, 18, 19, 20, 21, 22], [])])
def text_Parse.B5 : List Nat := [0, 1, 3, 7, 0, 16, 48, 112, 240, 496, 0, 1024, 3072, 7168, 15360, 31744, 0, 65536, 196608, 458752, 1048575, 2097151, 4194303, 8388607]
theorem text_Parse.tab5 : rtab .any (opsOf Tryz.f10 5) = text_Parse.T5 := by kernel_rfl
theorem text_Parse.bits5 : waitsOk text_Parse.T5.2 text_Parse.B5 = true := by kernel_rfl
set_option maxHeartbeats 8000000 in
set_option maxRecDepth 100000 in
theorem text_Parse.calls (a0 : ByteArray) (r1 : ByteArray) (r2 r3 : Int) (r4 : List (List SIns)) (r5 r6 : Int) (w : World) (h : text_Parse.f a0 = some (r1, r2, r3, r4, r5, r6)) (hL : LaidW w) :
 Calls Tryz.prog 10 #[.string a0] w fun e w' => ∃ v : Value, e = .returned (.tuple #[.agg #[.string r1, .int .i64 r2, .int .i64 r3, v], .int .i64 r5, .int .i64 r6]) ∧ Kd.R (Kd.slice 44 kIns) 41 w' w.heap.size (fun _ => True) v r4 ∧ Below w.heap.size w w' := by
 unfold text_Parse.f at h
 by_cases hsz : a0.size ≤ 90000
 case neg => rw [zD hsz] at h; cases h
 rw [zC hsz] at h
 have HLd := zA hL
 have H := zA h
 clear hL h
 go_enter Tryz.func10, Tryz.ntmps10
 go_wp2_with fail
 go_at_call 25
 refine (parse_calls (w0 := w.alloc (.cells #[.string ⟨#[]⟩, .int .i64 0, .int .i64 0, .slice none 0 0] 24 (0, 0))) (LaidW.below HLd.out (below_alloc (Below.refl _ _) _)) (below_alloc (Below.refl _ _) _) (w.heap.size + 1) (by simp) psFunc (new_at (by simp)) rfl rfl ⟨(by show (1:Int) ≤ 2; decide), (by show (2:Int) ≤ 100; decide)⟩ a0 (by omega)).mono ?_
 rintro e w2 ⟨rfl, hps, hbl⟩
 have z2 := bk4 ((hbl.block _ (by simp)).trans (World.alloc_heap_new w _))
 have HPS := zA hps
 have HBL := zA hbl
 clear hps hbl
 obtain ⟨E, hE⟩ : ∃ E, E = (parseAll psFunc a0).2.1 := ⟨_, rfl⟩
 rw [← hE]
 have HE := zA hE
 clear hE
 rcases eqne E with ⟨e0, e0a⟩ | ⟨e0, e0a, e0b, e0c⟩
 ·go_upto_region 5 with fail
  have hE0 := HE.out.symm.trans e0
  obtain ⟨D, hD, lt, vh, vb, hk, hr, hs⟩ := HPS.out hE0
  have hhd : ((parseAll psFunc a0).2.2.head.length : Int) = 2 := parseAll_head hE0
  obtain ⟨st2, hst2⟩ : ∃ st2, st2 = (parseAll psFunc a0).2.2 := ⟨_, rfl⟩
  rw [← hst2] at hk hr hs hhd
  have hH := H.out
  rw [zC hE0, ← hst2] at hH
  have HH := zA hH
  clear hst2 hH
  have HSR := zA (Kd.S_R hs)
  have hl2 : st2.head.length = 2 := by omega
  obtain ⟨ad, ch, rfl⟩ := Kd.R_slice1 hr (by omega)
  obtain ⟨_, hlc, hC⟩ := Kd.R_reads' hr
  obtain ⟨ad0, q0, hx0⟩ := Kd.at_int hC 0 (by decide) (by omega)
  obtain ⟨ad1, q1, hx1⟩ := Kd.at_int hC 1 (by decide) (by omega)
  cases q0
  cases q1
  rw [hl2] at hk hlc
  have hx0 : w2.cell? ad = some (.int .i64 (rd st2.head 0)) := hx0
  have hx1 : w2.cell? { block := ad.block, off := ad.off + 1 } = some (.int .i64 (rd st2.head 1)) := hx1
  obtain ⟨Ab, cb, rfl⟩ := Kd.R_slice (Kd.S_R hs)
  have hbd : D ≤ ad.block := Kd.R_base hr _ rfl
  have HK2 := zA hk
  have z6 := bk6 hk
  obtain ⟨_, _, _, z63, z64, z65, _⟩ := z6
  refine start_ (n := 24) (S := fun w' => w'.cell? ⟨w.heap.size + 1, 3, none⟩ = some (.string st2.name) ∧ w'.cell? ⟨w.heap.size + 1, 4, none⟩ = some (.slice (some ad) 2 ch) ∧ w'.cell? ⟨w.heap.size + 1, 5, none⟩ = some (.slice Ab st2.blocks.length cb) ∧ w'.cell? ad = some (.int .i64 (rd st2.head 0)) ∧ w'.cell? { block := ad.block, off := ad.off + 1 } = some (.int .i64 (rd st2.head 1))) (ds := []) (bA 24 0) (by kernel_rfl) rfl rfl ⟨z63, z64, z65, hx0, hx1⟩ (fun hHeld => ?_); refine with_tabW text_Parse.tab5 text_Parse.bits5 (fun HT_ HW_ => ?_)
  refine pu_ (i := 0) (N := some 21) (bA 24 1) ?_
  refine pu_ (i := 1) (N := some 22) (bA 24 3) ?_
  refine pu_ (i := 2) (N := some 23) (bA 24 7) ?_
  refine pu_ (i := 4) (N := some 25) (bA 24 23) ?_
  refine pu_ (i := 5) (N := some 26) (bA 24 55) ?_
  refine pu_ (i := 6) (N := some 27) (bA 24 119) ?_
  refine pu_ (i := 10) (N := some 31) (bA 24 1143) ?_
  refine pu_ (i := 11) (N := some 32) (bA 24 3191) ?_
  refine pu_ (i := 12) (N := some 33) (bA 24 7287) ?_
  refine pu_ (i := 16) (N := some 37) (bA 24 72823) ?_
  refine pu_ (i := 17) (N := some 38) (bA 24 203895) ?_
  refine pu_ (i := 18) (N := some 39) (bA 24 466039) ?_
  refine tk_ (i := 3) (N := some 24) (bA 24 466047) ?_
  refine tk_ (i := 7) (N := some 28) (bA 24 466175) ?_
  refine pu_ (i := 8) (N := some 29) (bA 24 466431) ?_
  refine tk_ (i := 9) (N := some 30) (bA 24 466943) ?_
  refine tk_ (i := 13) (N := some 34) (bA 24 475135) ?_
  refine pu_ (i := 14) (N := some 35) (bA 24 491519) ?_
  refine tk_ (i := 15) (N := some 36) (bA 24 524287) ?_
  refine tk_ (i := 19) (N := some 40) (bA 24 1048575) ?_
  refine pu_ (i := 20) (N := some 41) (bA 24 2097151) ?_
  have z2d : w2.drew.heap[w.heap.size]? = some (.cells #[.string ⟨#[]⟩, .int .i64 0, .int .i64 0, .slice none 0 0] 24 (0, 0)) := (HBL.out.block _ (by simp)).trans (World.alloc_heap_new w _)
  have HZ2 := zA z2d
  replace z2d := bk4 z2d
  refine one_ (i := 21) (N := none) (bA 24 4194303) rfl rfl (one_of HT_.out (by kernel_rfl)) (by decide) (fun K hK => ?_)
  refine skip_ (w1 := ?_) (by rfl) rfl ?_ ?_
  rotate_left
  ·first | (go_simp; done) | (go_simp; rfl)
  obtain ⟨hq1, hq2, hq3⟩ := box4 (w := w2) HZ2.out (.string st2.name) (.int .i64 (rd st2.head 0)) (.int .i64 (rd st2.head 1)) (.slice Ab st2.blocks.length cb)
  have HBl := zA (below_drew (box4_below (below_step (below_alloc (Below.refl w.heap.size w) (.cells #[.string ⟨#[]⟩, .int .i64 0, .int .i64 0, .slice none 0 0] 24 (0, 0))) HBL.out) (Nat.le_refl w.heap.size) (.string st2.name) (.int .i64 (rd st2.head 0)) (.int .i64 (rd st2.head 1)) (.slice Ab st2.blocks.length cb)))
  have HSR2 := zA (Kd.R_drew (Kd.R_step (Kd.R_bound HSR.out) (fun k hk hl => hq2 k (by have := hk.2.1; simp at hD; omega))))
  have ho : ∀ (W : World) (p : Addr), (∀ k, k ≠ w.heap.size → W.heap[k]? = w2.heap[k]?) → p.block ≠ w.heap.size → W.drew.cell? p = w2.cell? p := fun W p h1 h2 => World.cell?_of_block (h1 _ h2)
  simp at hD
  refine hK.out _ _ ⟨(ho _ _ hq2 (by show w.heap.size + 1 ≠ _; omega)).trans z63, (ho _ _ hq2 (by show w.heap.size + 1 ≠ _; omega)).trans z64, (ho _ _ hq2 (by show w.heap.size + 1 ≠ _; omega)).trans z65, (ho _ _ hq2 (by omega)).trans hx0, (ho _ _ hq2 (by show ad.block ≠ _; omega)).trans hx1⟩ (fun hHeld => ?_)
  clear hK K ho hx0 hx1 z63 z64 z65 z2d
  generalize ((((w2.setCell ⟨w.heap.size, 0, none⟩ (.string st2.name)).setCell ⟨w.heap.size, 1, none⟩ (.int .i64 (rd st2.head 0))).setCell ⟨w.heap.size, 2, none⟩ (.int .i64 (rd st2.head 1))).setCell ⟨w.heap.size, 3, none⟩ (.slice Ab st2.blocks.length cb)) = W4 at hq1 hq2 hq3 HBl HSR2 hHeld ⊢
  have y4 := bk4 hq1
  refine pu_ (i := 22) (N := some 3) (bA 24 8388607) ?_
  refine pu_ (i := 23) (N := some 4) (bA 24 16777215) ?_
  refine done_ (done_of HT_.out (by kernel_rfl)) ?_
  go_wp2_with fail
  refine bodyPost_ret (results_ctt rfl _ _ w.heap.size 24 #[.string st2.name, .int .i64 (rd st2.head 0), .int .i64 (rd st2.head 1), .slice Ab st2.blocks.length cb] (0, 0) _ rfl hq1 Tryz.underlying24 rfl (by kernel_rfl)) rfl ?_
  injection HH.out with he
  simp only [Prod.mk.injEq] at he
  obtain ⟨rfl, rfl, rfl, rfl, rfl, rfl⟩ := he
  exact ⟨_, rfl, Kd.R_mono (Kd.R_lower HSR2.out (by omega)) (fun _ _ => trivial), HBl.out⟩
 ·go_upto_region 5 with fail
  have hE0 : ¬ (parseAll psFunc a0).2.1 = 0 := fun h => e0 (HE.out.trans h)
  have hH := H.out
  rw [zD hE0] at hH
  injection hH with he
  simp only [Prod.mk.injEq] at he
  obtain ⟨rfl, rfl, rfl, rfl, rfl, rfl⟩ := he
  have hz : w2.heap[w.heap.size]? = some (.cells #[.string ⟨#[]⟩, .int .i64 0, .int .i64 0, .slice none 0 0] 24 (0, 0)) := (HBL.out.block _ (by simp)).trans (World.alloc_heap_new w _)
  obtain ⟨hq1, hq2, hq3⟩ := box4 (w := w2) hz (.string ⟨#[]⟩) (.int .i64 0) (.int .i64 0) (.slice none 0 0)
  have hb2 := box4_below (below_step (below_alloc (Below.refl w.heap.size w) _) HBL.out) (Nat.le_refl w.heap.size) (.string ⟨#[]⟩) (.int .i64 0) (.int .i64 0) (.slice none 0 0)
  refine bodyPost_ret (results_ctt rfl _ _ w.heap.size 24 #[.string ⟨#[]⟩, .int .i64 0, .int .i64 0, .slice none 0 0] (0, 0) _ rfl hq1 Tryz.underlying24 rfl (by kernel_rfl)) rfl ?_
  refine ⟨_, ?_, Kd.R_nil _ _ _ _ _, hb2⟩
  rw [← HE.out]
  rfl
-- code
end Go.Proofs.YtniknpjeknmpjaaGreatDoor.Q
namespace Go.Proofs.YtniknpjeknmpjaaGreatDoor.Q
open Go.RowKit Go.Proofs.YtniknpjeknmpjaaGreatDoorW.PrintWords Go.Proofs.YtniknpjeknmpjaaGreatDoorW.PrintLast Go.Proofs.YtniknpjeknmpjaaGreatDoorW.PrintMore
attribute [local go_sem] max2_int min2_int max_two min_two max_three min_three max_four min_four
set_option linter.unusedVariables false
set_option linter.unusedSimpArgs false

mutual
def cubbylaw08_TextPrints.j0 : Nat → Bool → ByteArray → Int → Int → List (List (SIns)) → Option (Bool)
 | 0, _, _, _, _, _ => none
 | k + 1, x18, x316000, x316001, x316002, x316003 => if x18 = true then (some true) else ((text_Print.f x316000 x316001 x316002 x316003).bind fun bt317 => ((cubbyref08_Print.f k x316000 x316001 x316002 x316003).bind fun bt319 => (if bt317.1.toList = bt319.1.toList then (cubbylaw08_TextPrints.j1 k bt317.1 bt317.2 (bt317.2 != bt319.2) x316000 x316001 x316002 x316003) else (cubbylaw08_TextPrints.j1 k bt317.1 bt317.2 true x316000 x316001 x316002 x316003))))
def cubbylaw08_TextPrints.j1 : Nat → ByteArray → Int → Bool → ByteArray → Int → Int → List (List (SIns)) → Option (Bool)
 | 0, _, _, _, _, _, _, _ => none
 | k + 1, x3, x4, x36, x316000, x316001, x316002, x316003 => if x36 = true then (some false) else ((cubbyref07_Check.f k x316000 x316001 x316002 x316003).bind fun t321 => (if t321 = 0 then ((text_Parse.f x3).bind fun bt322 => (if x4 = 0 then (if bt322.2.2.2.2.2 = 0 then (if bt322.2.2.2.2.1 = 0 then ((cubbylaw08_sameFunc.f k x316000 x316001 x316002 x316003 bt322.1 bt322.2.1 bt322.2.2.1 bt322.2.2.2.1).bind fun t331 => (some t331)) else (some false)) else (some false)) else (some false))) else (if x4 = 0 then (some true) else (some (x3.toList == ([] : List UInt8))))))
end
def cubbylaw08_TextPrints.f (k : Nat) (a0_0 : ByteArray) (a0_1 : Int) (a0_2 : Int) (l0_3 : List (List (SIns))) : Option (Bool) := (cubbylaw08_heavy.f k l0_3).bind fun t316 => (if t316 = true then (cubbylaw08_TextPrints.j0 k true a0_0 a0_1 a0_2 l0_3) else (cubbylaw08_TextPrints.j0 k (decide ((a0_0.size : Int) > 256)) a0_0 a0_1 a0_2 l0_3))
set_option maxHeartbeats 8000000 in
set_option maxRecDepth 100000 in
theorem cubbylaw08_TextPrints.calls (k : Nat) (a0_0 : ByteArray) (a0_1 : Int) (a0_2 : Int) (A0_3 : Option Addr) (c0_3 : Nat) (l0_3 : List (List (SIns))) (r : Bool) (w : World) (hL : LaidW w) (hr : r = true) (hr0_3 : Kd.C (Kd.slice 44 kIns) w A0_3 l0_3.length l0_3) (hc0_3 : l0_3.length ≤ c0_3) (h : cubbylaw08_TextPrints.f k a0_0 a0_1 a0_2 l0_3 = some r) :
 Calls Tryz.prog 3 #[.agg #[.string a0_0, .int .i64 a0_1, .int .i64 a0_2, .slice A0_3 l0_3.length c0_3]] w fun e w' => e = .returned (.bool r) ∧ Below w.heap.size w w' := by
 have hu24 := Tryz.underlying24
 have HR0_3 := zA hr0_3
 have HC0_3 := zA hc0_3
 clear hr0_3 hc0_3
 have HB := zA (Below.refl w.heap.size w)
 have HLd := zA hL
 clear hL
 have HRt := zA hr
 clear hr
 have H := h; clear h; unfold cubbylaw08_TextPrints.f at H
 have HC2 := zA H
 clear H
 go_enter Tryz.func3, Tryz.ntmps3
 go_upto_region 1 with (first | ((with_reducible refine gate_dst (N := 1) rfl ?_); (try (refine gate_guard (by rfl) ?_; dsimp only)); refine box_event (by rfl) (N := 1) (by rfl) (cs := #[.string a0_0, .int .i64 a0_1, .int .i64 a0_2, .slice A0_3 l0_3.length c0_3]) (t := 24) ?hr ?_; (case hr => go_simp <;> rfl); intro gb315 hg w3 hbox hb; have BK315 := zA (hbox); have GW315 := qG hg; have GE315 := GW315; replace HB := qH hb; clear hb hbox hg))
 (try simp only [Act.put, List.setIfInBounds_toArray, List.set_cons_zero, List.set_cons_succ])
 go_cut [18] (fun v18 wc => ∃ (kq : Nat) (x18_1 : Bool), v18 = .bool x18_1 ∧ Aside0 (cubbylaw08_TextPrints.j0 kq x18_1 a0_0 a0_1 a0_2 l0_3 = some r) ∧ Aside0 (kq ≤ k) ∧ Aside0 (wc.heap[gb315]? = some (.cells #[.string a0_0, .int .i64 a0_1, .int .i64 a0_2, (.slice A0_3 l0_3.length c0_3)] 24 (0, 0))) ∧ Aside0 (Below w.heap.size w wc))
 case first =>
  have H := HC2.out
  clear HC2
  replace H := qb H; obtain ⟨t316, A4, H⟩ := H
  by_cases c5 : t316 = true
  ·subst c5
   have H1 : (cubbylaw08_TextPrints.j0 k true a0_0 a0_1 a0_2 l0_3) = some r := by rw [zC rfl] at H; exact H
   clear H
   have H := H1
   clear H1
   have H' := zA H
   clear H
   have z6_0 := bk4 BK315.out
   go_wp2_with (first | ((with_reducible refine gate_callee (f := 6) rfl ?_); refine goesL_ (some 12) rfl rfl Tryz.func6 (by kernel_rfl) rfl #[.slice A0_3 l0_3.length c0_3] rfl qL ?_; (with_reducible refine (cubbylaw08_heavy.calls k _ _ l0_3 true _ ?side1 ?side2 A4.out).mono ?_); (case side1 => exact qCB HR0_3.out); (case side2 => exact HC0_3.out); rintro e w7 ⟨rfl, hb⟩; refine ⟨_, rfl, ?_⟩; replace BK315 := qW BK315 hb; replace HB := qH hb; (try clear hb)))
   go_meet
   case rel => exact ⟨_, (true), qT, H', ⟨qO⟩, ⟨qK BK315.out⟩, ⟨qB⟩⟩
  ·replace c5 := Bool.eq_false_iff.mpr c5
   subst c5
   have H1 : (cubbylaw08_TextPrints.j0 k (decide ((a0_0.size : Int) > 256)) a0_0 a0_1 a0_2 l0_3) = some r := by rw [zD (show ¬ (false = true) by decide)] at H; exact H
   clear H
   have H := H1
   clear H1
   have H' := zA H
   clear H
   have z8_0 := bk4 BK315.out
   go_wp2_with (first | ((with_reducible refine gate_callee (f := 6) rfl ?_); refine goesL_ (some 12) rfl rfl Tryz.func6 (by kernel_rfl) rfl #[.slice A0_3 l0_3.length c0_3] rfl qL ?_; (with_reducible refine (cubbylaw08_heavy.calls k _ _ l0_3 false _ ?side1 ?side2 A4.out).mono ?_); (case side1 => exact qCB HR0_3.out); (case side2 => exact HC0_3.out); rintro e w9 ⟨rfl, hb⟩; refine ⟨_, rfl, ?_⟩; replace BK315 := qW BK315 hb; replace HB := qH hb; (try clear hb); have z10_0 := bk4 BK315.out))
   go_meet
   case rel => exact ⟨_, (decide ((a0_0.size : Int) > 256)), qT, H', ⟨qO⟩, ⟨qK BK315.out⟩, ⟨qB⟩⟩
 case rest =>
  clear HC2
  try clear p2; try clear c3; try clear c5; try clear c6; try clear z10_0; try clear z6_0; try clear z8_0
  obtain ⟨kq, x18_1, rfl, HA, HJ1, BK315, HB⟩ := hcut
  cases kq with
  | zero => exact absurd HA.out (by simp [cubbylaw08_TextPrints.j0])
  | succ kj1 =>
   have H := HA.out
   clear HA
   simp only [cubbylaw08_TextPrints.j0] at H
   by_cases c11 : x18_1 = true
   ·subst c11
    have H1 : (some true) = some r := by rw [zC rfl] at H; exact H
    clear H
    have H := H1
    clear H1
    obtain rfl := zI H
    go_wp2
    go_ret
    exact ⟨qE, qB⟩
   ·replace c11 := Bool.eq_false_iff.mpr c11
    subst c11
    have H1 : ((text_Print.f a0_0 a0_1 a0_2 l0_3).bind fun bt317 => ((cubbyref08_Print.f kj1 a0_0 a0_1 a0_2 l0_3).bind fun bt319 => (if bt317.1.toList = bt319.1.toList then (cubbylaw08_TextPrints.j1 kj1 bt317.1 bt317.2 (bt317.2 != bt319.2) a0_0 a0_1 a0_2 l0_3) else (cubbylaw08_TextPrints.j1 kj1 bt317.1 bt317.2 true a0_0 a0_1 a0_2 l0_3)))) = some r := by rw [zD (show ¬ (false = true) by decide)] at H; exact H
    clear H
    have H := H1
    clear H1
    replace H := Option.bind_eq_some_iff.mp H
    obtain ⟨⟨t317, t318⟩, A120, H⟩ := H
    replace H : ((cubbyref08_Print.f kj1 a0_0 a0_1 a0_2 l0_3).bind fun bt319 => (if t317.toList = bt319.1.toList then (cubbylaw08_TextPrints.j1 kj1 t317 t318 (t318 != bt319.2) a0_0 a0_1 a0_2 l0_3) else (cubbylaw08_TextPrints.j1 kj1 t317 t318 true a0_0 a0_1 a0_2 l0_3))) = some r := H
    have A12 := zA A120
    clear A120
    replace H := Option.bind_eq_some_iff.mp H
    obtain ⟨⟨t319, t320⟩, A130, H⟩ := H
    replace H : (if t317.toList = t319.toList then (cubbylaw08_TextPrints.j1 kj1 t317 t318 (t318 != t320) a0_0 a0_1 a0_2 l0_3) else (cubbylaw08_TextPrints.j1 kj1 t317 t318 true a0_0 a0_1 a0_2 l0_3)) = some r := H
    have A13 := zA A130
    clear A130
    have HC14 := zA H
    clear H
    have z15_0 := bk4 BK315.out
    go_upto_region 5 with (first | ((with_reducible refine gate_callee (f := 7) rfl ?_); refine goesL_ (some 21) rfl rfl Tryz.func7 (by kernel_rfl) rfl #[.agg #[.string a0_0, .int .i64 a0_1, .int .i64 a0_2, .slice A0_3 l0_3.length c0_3]] rfl qL ?_; (with_reducible refine (text_Print.calls a0_0 a0_1 a0_2 _ _ l0_3 t317 t318 _ ?side1 ?side2 A12.out (hL := ?side99)).mono ?_); (case side1 => exact qCB HR0_3.out); (case side2 => exact HC0_3.out); (case side99 => exact LaidW.below HLd.out qB); rintro e w16 ⟨rfl, hb⟩; refine ⟨_, rfl, ?_⟩; replace BK315 := qW BK315 hb; replace HB := qH hb; (try clear hb); have z17_0 := bk4 BK315.out) | ((with_reducible refine gate_callee (f := 8) rfl ?_); refine goesL_ (some 26) rfl rfl Tryz.func8 (by kernel_rfl) rfl #[.agg #[.string a0_0, .int .i64 a0_1, .int .i64 a0_2, .slice A0_3 l0_3.length c0_3]] rfl qL ?_; (with_reducible refine (cubbyref08_Print.calls kj1 a0_0 a0_1 a0_2 _ _ l0_3 t319 t320 _ ?side1 ?side2 A13.out).mono ?_); (case side1 => exact qCB HR0_3.out); (case side2 => exact HC0_3.out); rintro e w18 ⟨rfl, hb⟩; refine ⟨_, rfl, ?_⟩; replace BK315 := qW BK315 hb; replace HB := qH hb; (try clear hb)))
    (try simp only [Act.put, List.setIfInBounds_toArray, List.set_cons_zero, List.set_cons_succ])
    go_cut [36] (fun v36 wc => ∃ (kq : Nat) (x36_13 : Bool), v36 = .bool x36_13 ∧ Aside0 (cubbylaw08_TextPrints.j1 kq t317 t318 x36_13 a0_0 a0_1 a0_2 l0_3 = some r) ∧ Aside0 (kq ≤ kj1) ∧ Aside0 (wc.heap[gb315]? = some (.cells #[.string a0_0, .int .i64 a0_1, .int .i64 a0_2, (.slice A0_3 l0_3.length c0_3)] 24 (0, 0))) ∧ Aside0 (Below w.heap.size w wc))
    case first =>
     have H := HC14.out
     clear HC14
     by_cases c19 : t317.toList = t319.toList
     ·rw [zC c19] at H
      obtain ⟨c19b0, c19b1⟩ := qe c19; clear c19
      (first | rw [c19b0] | (simp only [i64_w, i32_w]; rw [c19b0]) | skip)
      have H' := zA H
      clear H
      go_wp2
      go_meet
      case rel => exact ⟨_, ((t318 != t320)), qT, H', ⟨by have := HJ1.out; first | omega | exact Nat.le_refl _⟩, ⟨qK BK315.out⟩, ⟨qB⟩⟩
     ·rw [zD c19] at H
      obtain ⟨c19b0, c19b1⟩ := qn c19
      (first | rw [c19b0] | (simp only [i64_w, i32_w]; rw [c19b0]) | skip)
      have H' := zA H
      clear H
      go_wp2
      go_meet
      case rel => exact ⟨_, (true), qT, H', ⟨by have := HJ1.out; first | omega | exact Nat.le_refl _⟩, ⟨qK BK315.out⟩, ⟨qB⟩⟩
    case rest =>
     clear HC14
     try clear c1; try clear p2; try clear c3; try clear c5; try clear c6; try clear c7; try clear c8; try clear c11; try clear c19; try clear c19b0 c19b1; try clear z10_0; try clear z15_0; try clear z17_0; try clear z6_0; try clear z8_0
     obtain ⟨kq, x36_13, rfl, HA, HJ13, BK315, HB⟩ := hcut
     cases kq with
     | zero => exact absurd HA.out (by simp [cubbylaw08_TextPrints.j1])
     | succ kj13 =>
      have H := HA.out
      clear HA
      simp only [cubbylaw08_TextPrints.j1] at H
      by_cases c20 : x36_13 = true
      ·subst c20
       have H1 : (some false) = some r := by rw [zC rfl] at H; exact H
       clear H
       have H := H1
       clear H1
       exact absurd ((zI H).trans HRt.out) (by decide)
      ·replace c20 := Bool.eq_false_iff.mpr c20
       subst c20
       have H1 : ((cubbyref07_Check.f kj13 a0_0 a0_1 a0_2 l0_3).bind fun t321 => (if t321 = 0 then ((text_Parse.f t317).bind fun bt322 => (if t318 = 0 then (if bt322.2.2.2.2.2 = 0 then (if bt322.2.2.2.2.1 = 0 then ((cubbylaw08_sameFunc.f kj13 a0_0 a0_1 a0_2 l0_3 bt322.1 bt322.2.1 bt322.2.2.1 bt322.2.2.2.1).bind fun t331 => (some t331)) else (some false)) else (some false)) else (some false))) else (if t318 = 0 then (some true) else (some (t317.toList == ([] : List UInt8)))))) = some r := by rw [zD (show ¬ (false = true) by decide)] at H; exact H
       clear H
       have H := H1
       clear H1
       replace H := qb H; obtain ⟨t321, A21, H⟩ := H
       by_cases c22 : t321 = 0
       ·rw [zC c22] at H
        obtain ⟨c22b0, c22b1⟩ := qe c22; clear c22
        replace H := Option.bind_eq_some_iff.mp H
        obtain ⟨⟨t322, t323, t324, t325, t328, t329⟩, A230, H⟩ := H
        replace H : (if t318 = 0 then (if t329 = 0 then (if t328 = 0 then ((cubbylaw08_sameFunc.f kj13 a0_0 a0_1 a0_2 l0_3 t322 t323 t324 t325).bind fun t331 => (some t331)) else (some false)) else (some false)) else (some false)) = some r := H
        have A23 := zA A230
        clear A230
        by_cases c24 : t318 = 0
        ·rw [zC c24] at H
         obtain ⟨c24b0, c24b1⟩ := qe c24; clear c24
         by_cases c25 : t329 = 0
         ·rw [zC c25] at H
          obtain ⟨c25b0, c25b1⟩ := qe c25; clear c25
          by_cases c26 : t328 = 0
          ·rw [zC c26] at H
           obtain ⟨c26b0, c26b1⟩ := qe c26; clear c26
           replace H := qb H; obtain ⟨t331, A27, H⟩ := H
           obtain rfl := zI H
           have z28_0 := bk4 BK315.out
           go_wp2_with (first | ((with_reducible refine gate_callee (f := 9) rfl ?_); refine goesL_ (some 38) rfl rfl Tryz.func9 (by kernel_rfl) rfl #[.agg #[.string a0_0, .int .i64 a0_1, .int .i64 a0_2, .slice A0_3 l0_3.length c0_3]] rfl qL ?_; (with_reducible refine (cubbyref07_Check.calls kj13 a0_0 a0_1 a0_2 _ _ l0_3 t321 _ ?side1 ?side2 A21.out).mono ?_); (case side1 => exact qCB HR0_3.out); (case side2 => exact HC0_3.out); rintro e w29 ⟨rfl, hb⟩; refine ⟨_, rfl, ?_⟩; replace BK315 := qW BK315 hb; replace HB := qH hb; (try clear hb)) | ((with_reducible refine gate_callee (f := 10) rfl ?_); refine goesL_ (some 48) rfl rfl Tryz.func10 (by kernel_rfl) rfl #[.string t317] rfl qL ?_; (with_reducible refine (text_Parse.calls t317 t322 t323 t324 t325 t328 t329 _ A23.out (hL := ?side99)).mono ?_); (case side99 => exact LaidW.below HLd.out qB); rintro e w30 ⟨v326, rfl, ho0, hb⟩; refine ⟨_, rfl, ?_⟩; have HO327 := zA (Kd.R_lower ho0 (below_size qB)); replace BK315 := qW BK315 hb; replace HB := qH hb; (try clear hb); (try clear ho0)) | ((with_reducible refine gate_dst (N := 7) rfl ?_); (try (refine gate_guard (by rfl) ?_; dsimp only)); refine box_event (by rfl) (N := 7) (by rfl) (cs := #[.string (⟨#[]⟩ : ByteArray), .int .i64 0, .int .i64 0, .slice none 0 0]) (t := 24) ?hr ?_; (case hr => go_simp <;> rfl); intro gb330 hg w31 hbox hb; replace HO327 := zA (Kd.R_below (qR HO327.out) hb); have BK330 := zA (hbox); have GW330 := qG hg; have GE330 := GW330; replace HB := qH hb; have NB315_330 := zA ((by rw [hg]; exact Nat.ne_of_lt (blk_lt (g := gb315) (o := .cells #[.string a0_0, .int .i64 a0_1, .int .i64 a0_2, .slice A0_3 l0_3.length c0_3] 24 (0, 0)) (qK BK315.out)) : gb315 ≠ gb330)); have NB330_315 := zA ((by rw [hg]; exact Nat.ne_of_gt (blk_lt (g := gb315) (o := .cells #[.string a0_0, .int .i64 a0_1, .int .i64 a0_2, .slice A0_3 l0_3.length c0_3] 24 (0, 0)) (qK BK315.out)) : gb330 ≠ gb315)); replace BK315 := qW BK315 hb; clear hb hbox hg; have hnb32 := NB330_315.out; have hnc32 := NB315_330.out; have z33_0 := bk4 BK330.out; obtain ⟨Ao34, co34, eo34⟩ := Kd.R_slice HO327.out; subst eo34; have z35_0 := bk4 BK315.out) | (go_at_call 11; (with_reducible refine (cubbylaw08_sameFunc.calls kj13 a0_0 a0_1 a0_2 _ _ l0_3 t322 t323 t324 _ _ t325 t331 _ ?side1 ?side2 ?side3 ?side4 A27.out).mono ?_); (case side1 => exact Kd.C_below HR0_3.out qB); (case side2 => exact HC0_3.out); (case side3 => refine (Kd.R_reads' (e := 41) (base := w.heap.size) (ok := fun k_ => True) (n := t325.length) (c := co34) ?_).2.2; exact (by (with_reducible repeat (first | apply Kd.R_alloc | apply Kd.R_drewN | apply Kd.R_drew)); exact (Kd.R_mono (Kd.R_far (p := ⟨gb330, 3, none⟩) (Kd.R_far (p := ⟨gb330, 2, none⟩) (Kd.R_far (p := ⟨gb330, 1, none⟩) (Kd.R_far (p := ⟨gb330, 0, none⟩) (Kd.R_types HO327.out BK330.out (by decide)) (fun _ hk => hk.2) (.string t322)) (fun _ hk => hk.2) (.int .i64 t323)) (fun _ hk => hk.2) (.int .i64 t324)) (fun _ hk => hk.2) (.slice Ao34 t325.length co34)) (fun _ h_ => h_.1)))); (case side4 => exact (Kd.R_reads' HO327.out).2.1); (try clear A27); rintro e w36 ⟨rfl, hb⟩; replace HO327 := zA (Kd.R_below (by (with_reducible repeat (first | apply Kd.R_alloc | apply Kd.R_drewN | apply Kd.R_drew)); exact (Kd.R_mono (Kd.R_far (p := ⟨gb330, 3, none⟩) (Kd.R_far (p := ⟨gb330, 2, none⟩) (Kd.R_far (p := ⟨gb330, 1, none⟩) (Kd.R_far (p := ⟨gb330, 0, none⟩) (Kd.R_types HO327.out BK330.out (by decide)) (fun _ hk => hk.2) (.string t322)) (fun _ hk => hk.2) (.int .i64 t323)) (fun _ hk => hk.2) (.int .i64 t324)) (fun _ hk => hk.2) (.slice Ao34 t325.length co34)) (fun _ h_ => h_.1))) hb); replace BK315 := zA (blk_below (g := gb315) (o := .cells #[.string a0_0, .int .i64 a0_1, .int .i64 a0_2, .slice A0_3 l0_3.length c0_3] 24 (0, 0)) (by (with_reducible repeat (first | refine blk_drewN ?_ _ | refine blk_drew ?_ | refine blk_alloc ?_ _)); refine blk_far ?_ NB315_330.out _; (with_reducible repeat (first | refine blk_drewN ?_ _ | refine blk_drew ?_ | refine blk_alloc ?_ _)); refine blk_far ?_ NB315_330.out _; (with_reducible repeat (first | refine blk_drewN ?_ _ | refine blk_drew ?_ | refine blk_alloc ?_ _)); refine blk_far ?_ NB315_330.out _; (with_reducible repeat (first | refine blk_drewN ?_ _ | refine blk_drew ?_ | refine blk_alloc ?_ _)); refine blk_far ?_ NB315_330.out _; (with_reducible repeat (first | refine blk_drewN ?_ _ | refine blk_drew ?_ | refine blk_alloc ?_ _)); exact BK315.out) hb); replace BK330 := zA (blk_below (g := gb330) (o := .cells #[.string t322, .int .i64 t323, .int .i64 t324, .slice Ao34 t325.length co34] 24 (0, 0)) (by (with_reducible repeat (first | refine blk_drewN ?_ _ | refine blk_drew ?_ | refine blk_alloc ?_ _)); refine blk_put (cs := #[.string t322, .int .i64 t323, .int .i64 t324, .slice none 0 0]) ?_ 3 _ rfl; (with_reducible repeat (first | refine blk_drewN ?_ _ | refine blk_drew ?_ | refine blk_alloc ?_ _)); refine blk_put (cs := #[.string t322, .int .i64 t323, .int .i64 0, .slice none 0 0]) ?_ 2 _ rfl; (with_reducible repeat (first | refine blk_drewN ?_ _ | refine blk_drew ?_ | refine blk_alloc ?_ _)); refine blk_put (cs := #[.string t322, .int .i64 0, .int .i64 0, .slice none 0 0]) ?_ 1 _ rfl; (with_reducible repeat (first | refine blk_drewN ?_ _ | refine blk_drew ?_ | refine blk_alloc ?_ _)); refine blk_put (cs := #[.string (⟨#[]⟩ : ByteArray), .int .i64 0, .int .i64 0, .slice none 0 0]) ?_ 0 _ rfl; (with_reducible repeat (first | refine blk_drewN ?_ _ | refine blk_drew ?_ | refine blk_alloc ?_ _)); exact BK330.out) hb); replace HB := qH hb))
           go_ret
           exact ⟨qE, qB⟩
          ·rw [zD c26] at H
           obtain ⟨c26b0, c26b1⟩ := qn c26
           exact absurd ((zI H).trans HRt.out) (by decide)
         ·rw [zD c25] at H
          obtain ⟨c25b0, c25b1⟩ := qn c25
          exact absurd ((zI H).trans HRt.out) (by decide)
        ·rw [zD c24] at H
         obtain ⟨c24b0, c24b1⟩ := qn c24
         exact absurd ((zI H).trans HRt.out) (by decide)
       ·rw [zD c22] at H
        obtain ⟨c22b0, c22b1⟩ := qn c22
        by_cases c37 : t318 = 0
        ·rw [zC c37] at H
         obtain ⟨c37b0, c37b1⟩ := qe c37; clear c37
         obtain rfl := zI H
         have z38_0 := bk4 BK315.out
         go_wp2_with (first | ((with_reducible refine gate_callee (f := 9) rfl ?_); refine goesL_ (some 38) rfl rfl Tryz.func9 (by kernel_rfl) rfl #[.agg #[.string a0_0, .int .i64 a0_1, .int .i64 a0_2, .slice A0_3 l0_3.length c0_3]] rfl qL ?_; (with_reducible refine (cubbyref07_Check.calls kj13 a0_0 a0_1 a0_2 _ _ l0_3 t321 _ ?side1 ?side2 A21.out).mono ?_); (case side1 => exact qCB HR0_3.out); (case side2 => exact HC0_3.out); rintro e w39 ⟨rfl, hb⟩; refine ⟨_, rfl, ?_⟩; replace BK315 := qW BK315 hb; replace HB := qH hb; (try clear hb)))
         go_ret
         exact ⟨qE, qB⟩
        ·rw [zD c37] at H
         obtain ⟨c37b0, c37b1⟩ := qn c37
         obtain rfl := zI H
         have z40_0 := bk4 BK315.out
         go_wp2_with (first | ((with_reducible refine gate_callee (f := 9) rfl ?_); refine goesL_ (some 38) rfl rfl Tryz.func9 (by kernel_rfl) rfl #[.agg #[.string a0_0, .int .i64 a0_1, .int .i64 a0_2, .slice A0_3 l0_3.length c0_3]] rfl qL ?_; (with_reducible refine (cubbyref07_Check.calls kj13 a0_0 a0_1 a0_2 _ _ l0_3 t321 _ ?side1 ?side2 A21.out).mono ?_); (case side1 => exact qCB HR0_3.out); (case side2 => exact HC0_3.out); rintro e w41 ⟨rfl, hb⟩; refine ⟨_, rfl, ?_⟩; replace BK315 := qW BK315 hb; replace HB := qH hb; (try clear hb)))
         go_ret
         exact ⟨qE, qB⟩
end Go.Proofs.YtniknpjeknmpjaaGreatDoor.Q
namespace Go.Proofs.YtniknpjeknmpjaaGreatDoor.RTextPrints
open Go Go.RowKit Go.Proofs.YtniknpjeknmpjaaGreatDoorW.PrintWords Go.Proofs.YtniknpjeknmpjaaGreatDoor.Q
set_option linter.unusedVariables false
def GIns (x : SIns) : Prop := (Lit.int .i64 (x.f0)).wf = true ∧ (Lit.int .i64 (x.f1)).wf = true ∧ (Lit.int .i64 (x.f2)).wf = true ∧ (Lit.int .i64 (x.f3)).wf = true ∧ (x.f4).size ≤ 140737488351232 ∧ ((x.f5).length * 8 ≤ 140737488351232 ∧ (x.f5).length ≤ maxLen ∧ ∀ y1 ∈ (x.f5), (Lit.int .i64 (y1)).wf = true)
def TextPrints.Pure : Prop := ∀ (a0_0 : ByteArray) (a0_1 : Int) (a0_2 : Int) (l0_3 : List (List (SIns))), (a0_0).size ≤ 140737488351232 → (Lit.int .i64 (a0_1)).wf = true → (Lit.int .i64 (a0_2)).wf = true → ((l0_3).length * 24 ≤ 140737488351232 ∧ (l0_3).length ≤ maxLen ∧ ∀ y1 ∈ (l0_3), ((y1).length * 72 ≤ 140737488351232 ∧ (y1).length ≤ maxLen ∧ ∀ y2 ∈ (y1), GIns (y2))) → ∃ k, cubbylaw08_TextPrints.f k a0_0 a0_1 a0_2 l0_3 = some true
end Go.Proofs.YtniknpjeknmpjaaGreatDoor.RTextPrints
namespace Go.Proofs.YtniknpjeknmpjaaGreatDoor.PlainNum
open Go Go.RowKit Go.Proofs.YtniknpjeknmpjaaGreatDoorW.PrintWords Go.Proofs.YtniknpjeknmpjaaGreatDoorW.PrintMore Go.Proofs.YtniknpjeknmpjaaGreatDoor.Q Go.Proofs.YtniknpjeknmpjaaGreatDoor.Plain
set_option linter.unusedVariables false
theorem dec_small {u : Nat} (h : u < 10) : Lib.decDigits u = [UInt8.ofNat (48 + u)] := Lib.decDigits_one h
theorem dec_big {u : Nat} (h : ¬ u < 10) : Lib.decDigits u = Lib.decDigits (u / 10) ++ [UInt8.ofNat (48 + u % 10)] := by rw [Lib.decDigits, dif_neg h]
theorem digit_nat {d : Nat} (h : d < 10) : (UInt8.ofNat (48 + d)).toNat = 48 + d := by simp; omega
theorem dec_mem : ∀ (u : Nat), ∀ b ∈ Lib.decDigits u, 48 ≤ b.toNat ∧ b.toNat ≤ 57 := by
 intro u
 induction u using Nat.strongRecOn with
 | _ u ih =>
  by_cases h : u < 10
  ·rw [dec_small h]; intro b hb; rw [List.mem_singleton.1 hb, digit_nat h]; omega
  ·rw [dec_big h]; intro b hb
   rcases List.mem_append.1 hb with hb | hb
   ·exact ih (u / 10) (by omega) b hb
   ·rw [List.mem_singleton.1 hb, digit_nat (by omega)]; omega
theorem dec_ne (u : Nat) : Lib.decDigits u ≠ [] := by
 by_cases h : u < 10
 ·rw [dec_small h]; simp
 ·rw [dec_big h]; simp
theorem dec_len : ∀ (k u : Nat), u < 10 ^ (k + 1) → (Lib.decDigits u).length ≤ k + 1
 | 0, u, h => by rw [dec_small (by simpa using h)]; simp
 | k + 1, u, h => by
  by_cases h1 : u < 10
  ·rw [dec_small h1]; simp
  ·have := dec_len k (u / 10) (by rw [Nat.pow_succ] at h; omega)
   rw [dec_big h1]; simp; omega
theorem from_snoc : ∀ (l : List UInt8) (acc n : Nat) (d : Nat), Lib.decFrom acc l = some n → d < 10 → Lib.decFrom acc (l ++ [UInt8.ofNat (48 + d)]) = some (n * 10 + d)
 | [], acc, n, d, h, hd => by
  simp only [Lib.decFrom, Option.some.injEq] at h
  subst h
  have : Lib.digitVal (UInt8.ofNat (48 + d)) = some d := by unfold Lib.digitVal; rw [digit_nat hd, zC (by omega)]; congr 1; omega
  simp only [List.nil_append, Lib.decFrom, this]
 | b :: l, acc, n, d, h, hd => by
  simp only [List.cons_append, Lib.decFrom] at h ⊢
  cases hv : Lib.digitVal b with
  | none => rw [hv] at h; simp at h
  | some v => rw [hv] at h; simp only at h ⊢; exact from_snoc l _ n d h hd
theorem dec_val : ∀ (u : Nat), Lib.decFrom 0 (Lib.decDigits u) = some u := by
 intro u
 induction u using Nat.strongRecOn with
 | _ u ih =>
  by_cases h : u < 10
  ·rw [dec_small h]; have := from_snoc [] 0 0 u rfl h; simpa using this
  ·rw [dec_big h, from_snoc _ 0 _ (u % 10) (ih (u / 10) (by omega)) (by omega)]; congr 1; omega
theorem dec_atoi {u : Nat} (h : u < 10000000000) : Lib.atoiAll (Lib.decDigits u) = .ok (u : Int) := by
 have hl := dec_len 9 u (by simpa using h)
 rw [Lib.atoiAll_short _ (by omega)]
 have hv := dec_val u
 have hm := dec_mem u
 cases hd : Lib.decDigits u with
 | nil => exact absurd hd (dec_ne u)
 | cons b r =>
  rw [hd] at hv hm
  have hb := hm b List.mem_cons_self
  have e1 : (b == 45) = false := by rw [beq_eq_false_iff_ne]; intro e; subst e; simp at hb
  have e2 : (b == 43) = false := by rw [beq_eq_false_iff_ne]; intro e; subst e; simp at hb
  unfold Lib.atoi
  simp only [e1, e2, Bool.false_eq_true, if_false, Lib.decNat, List.isEmpty_cons, hv, Option.map_some, Lib.NumEnd.ofOption]
def num (n : Int) : ByteArray := ⟨(Lib.decDigits n.toNat).toArray⟩
theorem num_list (n : Int) : (num n).data.toList = Lib.decDigits n.toNat := by simp [num]
theorem itoa_num {n : Int} (h : 0 ≤ n) : (⟨(Lib.itoa n).toArray⟩ : ByteArray) = num n := by
 unfold num Lib.itoa
 rw [zD (by omega)]
theorem numOf_num {n : Int} (h0 : 0 ≤ n) (h1 : n < 2147483648) : numOf (num n) = some n := by
 have h := dec_atoi (u := n.toNat) (by omega)
 rw [← num_list, Int.toNat_of_nonneg h0] at h
 rw [numOf_ok h, zC ⟨h0, h1, itoa_num h0⟩]
theorem num_size {n : Int} (h1 : n < 2147483648) : (num n).size ≤ 10 := by
 have := dec_len 9 n.toNat (by have e10 : (10 : Nat) ^ (9 + 1) = 10000000000 := (by decide); omega)
 show (num n).data.size ≤ 10
 rw [← Array.length_toList, num_list]
 exact this
def tens : ByteArray := ⟨#[48, 49, 50, 51, 52, 53, 54, 55, 56, 57]⟩
theorem tens_at {d : Nat} (h : d < 10) : (tens.extract d (d + 1)).data.toList = [UInt8.ofNat (48 + d)] := by
 have : d = 0 ∨ d = 1 ∨ d = 2 ∨ d = 3 ∨ d = 4 ∨ d = 5 ∨ d = 6 ∨ d = 7 ∨ d = 8 ∨ d = 9 := by omega
 rcases this with rfl | rfl | rfl | rfl | rfl | rfl | rfl | rfl | rfl | rfl <;> rfl
theorem tens_size {d : Nat} (h : d < 10) : ((⟨#[48, 49, 50, 51, 52, 53, 54, 55, 56, 57]⟩ : ByteArray).extract d (d + 1)).size = 1 := by
 show (tens.extract d (d + 1)).data.size = 1
 rw [← Array.length_toList, tens_at h]; rfl
theorem ba_ext {a b : ByteArray} (h : a.data.toList = b.data.toList) : a = b := toList_inj.1 (by rw [toList_data, toList_data, h])
theorem bt_get {s : ByteArray} {j : Nat} (h : j < s.data.toList.length) : bt s (j : Int) = ((s.data.toList[j]).toNat : Int) := by
 have hs : j < s.size := by simpa using h
 unfold bt
 rw [dif_pos (by simpa using hs)]
 simp
 rfl
def wordsL : List UInt8 → List (List UInt8)
 | [] => [[]]
 | b :: l => if b = 32 then [] :: wordsL l else match wordsL l with
  | w :: r => (b :: w) :: r
  | [] => [[b]]
theorem wordsL_one : ∀ {a : List UInt8}, (32 : UInt8) ∉ a → wordsL a = [a]
 | [], _ => rfl
 | b :: a, h => by
  have h1 : ¬ b = 32 := fun e => h (by rw [e]; exact List.mem_cons_self)
  unfold wordsL
  rw [zD h1, wordsL_one (fun hm => h (List.mem_cons_of_mem _ hm))]
theorem wordsL_cons : ∀ {a : List UInt8} (b : List UInt8), (32 : UInt8) ∉ a → wordsL (a ++ 32 :: b) = a :: wordsL b
 | [], b, _ => by simp [wordsL]
 | c :: a, b, h => by
  have h1 : ¬ c = 32 := fun e => h (by rw [e]; exact List.mem_cons_self)
  simp only [List.cons_append, wordsL, zD h1, wordsL_cons b (fun hm => h (List.mem_cons_of_mem _ hm))]
def unw : List (List UInt8) → List UInt8
 | [] => []
 | [w] => w
 | w :: v :: r => w ++ 32 :: unw (v :: r)
def bytesOfL (ws : List ByteArray) : List (List UInt8) := ws.map fun w => w.data.toList
theorem bytes_inj {ws vs : List ByteArray} (h : bytesOfL ws = bytesOfL vs) : ws = vs := by
 exact (List.map_inj_right (f := fun w : ByteArray => w.data.toList) (fun x y hxy => ba_ext hxy)).1 h
theorem ex_list (s : ByteArray) (i j : Nat) : (s.extract i j).data.toList = (s.data.toList.drop i).take (j - i) := by
 rw [ByteArray.data_extract, Array.toList_extract]
 first | done | rfl | simp [List.extract]
theorem index_none : ∀ {l : List UInt8}, Lib.indexByte l 32 = -1 → (32 : UInt8) ∉ l
 | [], _ => by simp
 | b :: l, h => by
  unfold Lib.indexByte at h
  split at h
  ·simp at h
  ·rename_i hb
   have hge := Lib.indexByte_ge l 32
   split at h
   ·rename_i h2
    have := index_none (by simpa using h2)
    intro hm
    rcases List.mem_cons.1 hm with h3 | h3
    ·exact hb (by simp [h3])
    ·exact this h3
   ·rename_i h2
    have h3 : Lib.indexByte l 32 ≠ -1 := by simpa using h2
    omega
theorem index_some : ∀ {l : List UInt8} {i : Nat}, Lib.indexByte l 32 = (i : Int) → i < l.length ∧ l = l.take i ++ 32 :: l.drop (i + 1) ∧ (32 : UInt8) ∉ l.take i
 | [], i, h => by simp only [Lib.indexByte] at h; omega
 | b :: l, i, h => by
  unfold Lib.indexByte at h
  split at h
  ·rename_i hb
   obtain rfl : i = 0 := by omega
   have : b = 32 := by simpa using hb
   subst this
   simp
  ·rename_i hb
   have hge := Lib.indexByte_ge l 32
   split at h
   ·omega
   ·rename_i h2
    have h3 : Lib.indexByte l 32 ≠ -1 := by simpa using h2
    obtain ⟨q, hq⟩ : ∃ q : Nat, Lib.indexByte l 32 = q := ⟨(Lib.indexByte l 32).toNat, by omega⟩
    obtain rfl : i = q + 1 := by omega
    obtain ⟨h4, h5, h6⟩ := index_some hq
    refine ⟨by simp; omega, ?_, ?_⟩
    ·rw [List.take_succ_cons, List.drop_succ_cons, List.cons_append, ← h5]
    ·rw [List.take_succ_cons]
     intro hm
     rcases List.mem_cons.1 hm with h7 | h7
     ·exact hb (by simp [h7])
     ·exact h6 h7
theorem splitB_words : ∀ (k : Nat) (s : ByteArray), s.data.toList.count 32 ≤ k → bytesOfL (Lib.splitB blank1 0 k s) = wordsL s.data.toList
 | 0, s, h => by
  have hn : (32 : UInt8) ∉ s.data.toList := fun hm => by have := List.count_pos_iff.2 hm; omega
  rw [wordsL_one hn]; rfl
 | k + 1, s, h => by
  have hi : Lib.indexB s blank1 = Lib.indexByte s.data.toList 32 := by show Lib.index s.data.toList [32] = _; rw [Lib.index_one]
  unfold Lib.splitB
  rw [hi]
  have hge := Lib.indexByte_ge s.data.toList 32
  by_cases h1 : Lib.indexByte s.data.toList 32 = -1
  ·rw [zC (by rw [h1]; rfl), wordsL_one (index_none h1)]; rfl
  ·obtain ⟨i, hq⟩ : ∃ i : Nat, Lib.indexByte s.data.toList 32 = i := ⟨(Lib.indexByte s.data.toList 32).toNat, by omega⟩
   obtain ⟨h2, h3, h4⟩ := index_some hq
   rw [zD (by simpa using h1), hq, Int.toNat_natCast]
   have hsz : s.size = s.data.toList.length := by simp
   have e1 : (s.extract 0 (i + 0)).data.toList = s.data.toList.take i := by rw [ex_list]; simp
   have e2 : (s.extract (i + blank1.size) s.size).data.toList = s.data.toList.drop (i + 1) := by
    rw [ex_list, hsz]
    show (s.data.toList.drop (i + 1)).take _ = _
    have hb1 : blank1.size = 1 := rfl
    rw [List.take_of_length_le (by rw [List.length_drop, hb1]; omega)]
   have hc : (s.data.toList.drop (i + 1)).count 32 ≤ k := by
    have := congrArg (List.count 32) h3
    rw [List.count_append, List.count_cons_self] at this
    omega
   have ih := splitB_words k (s.extract (i + blank1.size) s.size) (by rw [e2]; exact hc)
   have hw := wordsL_cons (s.data.toList.drop (i + 1)) h4
   rw [← h3] at hw
   rw [hw, ← e2, ← ih]
   show (s.extract 0 (i + 0)).data.toList :: _ = _
   rw [e1]
   rfl
theorem wordsOf_bytes (s : ByteArray) : bytesOfL (wordsOf s) = wordsL s.data.toList := by
 refine splitB_words _ s ?_
 show _ ≤ Lib.count s.data.toList [32]
 rw [Lib.count_one]
 exact Nat.le_refl _
theorem wordsOf_of {s : ByteArray} {ws : List ByteArray} (h : bytesOfL ws = wordsL s.data.toList) : wordsOf s = ws := bytes_inj ((wordsOf_bytes s).trans h.symm)
end Go.Proofs.YtniknpjeknmpjaaGreatDoor.PlainNum
namespace Go.Proofs.YtniknpjeknmpjaaGreatDoor.PlainText
open Go Go.RowKit Go.Proofs.YtniknpjeknmpjaaGreatDoorW.PrintWords Go.Proofs.YtniknpjeknmpjaaGreatDoorW.PrintMore Go.Proofs.YtniknpjeknmpjaaGreatDoor.Q Go.Proofs.YtniknpjeknmpjaaGreatDoor.Plain
set_option linter.unusedVariables false
set_option linter.unusedSimpArgs false
def emp : ByteArray := ⟨#[]⟩
def wordR (op : Int) (code : Bool) : ByteArray := match text_of.f op code with
 | some (_, wd, _, true) => wd
 | _ => emp
def numsR (x : SIns) (code : Bool) : List Int :=
 if 3 ≤ x.f0 ∧ x.f0 ≤ 7 then [x.f1, x.f2, x.f3] else if x.f0 = 9 then [x.f2, x.f3] else if x.f0 = 10 ∨ x.f0 = 12 ∨ x.f0 = 14 then [x.f2] else if x.f0 = 13 then [x.f2, x.f3, x.f1] else if x.f0 = 11 then (if code = true then [x.f1, x.f2] else x.f1 :: x.f5) else [x.f1, x.f2]
theorem op_cases (op : Int) : op = 1 ∨ op = 2 ∨ op = 3 ∨ op = 4 ∨ op = 5 ∨ op = 6 ∨ op = 7 ∨ op = 8 ∨ op = 9 ∨ op = 10 ∨ op = 11 ∨ op = 12 ∨ op = 13 ∨ op = 14 ∨ op = 21 ∨ op = 22 ∨ op = 0 ∨ (op < 0 ∨ 14 < op) ∧ op ≠ 21 ∧ op ≠ 22 := by omega
theorem text_of_none {op : Int} {code : Bool} (h : op = 0 ∨ (op < 0 ∨ 14 < op) ∧ op ≠ 21 ∧ op ≠ 22) : text_of.f op code = some (0, emp, emp, false) := by
 unfold text_of.f
 rw [zD (by omega), zD (by omega), zD (by omega), zD (by omega), zD (by omega), zD (by omega), zD (by omega), zD (by omega), zD (by omega), zD (by omega), zD (by omega), zD (by omega), zD (by omega), zD (by omega), zD (by omega), zD (by omega)]
 rfl
theorem word_ev (op : Int) (code : Bool) : Ev (fun k => cubbyref08_word.f k op code) (wordR op code) := by
 refine ⟨3, fun k hk => ?_⟩
 obtain ⟨q, rfl⟩ : ∃ q, k = q + 3 := ⟨k - 3, by omega⟩
 rcases op_cases op with rfl | rfl | rfl | rfl | rfl | rfl | rfl | rfl | rfl | rfl | rfl | rfl | rfl | rfl | rfl | rfl | rfl | h
 all_goals first
  | (cases code <;> rfl)
  | skip
 have e : wordR op code = emp := by unfold wordR; rw [text_of_none (.inr h)]
 rw [e]
 unfold cubbyref08_word.f
 simp only [zJ]
 have h2 : (op == 21) = false := by simpa using h.2.1
 have go : cubbyref08_word.j0 (q + 3) op code ([(⟨#[]⟩ : ByteArray), (⟨#[99, 111, 110, 115, 116]⟩ : ByteArray), (⟨#[99, 111, 112, 121]⟩ : ByteArray), (⟨#[97, 100, 100]⟩ : ByteArray), (⟨#[115, 117, 98]⟩ : ByteArray), (⟨#[109, 117, 108]⟩ : ByteArray), (⟨#[108, 101, 115, 115]⟩ : ByteArray), (⟨#[100, 105, 118]⟩ : ByteArray), (⟨#[108, 111, 97, 100]⟩ : ByteArray), (⟨#[115, 116, 111, 114, 101]⟩ : ByteArray), (⟨#[111, 117, 116]⟩ : ByteArray), (⟨#[99, 97, 108, 108]⟩ : ByteArray), (⟨#[106, 117, 109, 112]⟩ : ByteArray), (⟨#[98, 114, 97, 110, 99, 104]⟩ : ByteArray), (⟨#[114, 101, 116]⟩ : ByteArray)] : List ByteArray) false = some emp := by
  simp only [cubbyref08_word.j0]
  rw [zD (by simp), h2]
  cases code with
  | false => simp only [cubbyref08_word.j1]; rw [zD (by simp), zD (by simp), zD (by simp)]; rfl
  | true => simp only [cubbyref08_word.j1, if_true, Bool.false_eq_true, if_false]; rw [zD h.2.2]; rfl
 by_cases h0 : op ≥ 0
 ·rw [zC h0, zG (by show ¬ op < 15; omega)]
  exact go
 ·rw [zD h0]
  exact go
theorem numbers_ev (x : SIns) (code : Bool) (h5 : x.f5.length ≤ 1000) : Ev (fun k => cubbyref08_numbers.f k x.f0 x.f1 x.f2 x.f3 x.f4 x.f5 code) (numsR x code) := by
 obtain ⟨x0, x1, x2, x3, x4, x5⟩ := x
 dsimp only at h5 ⊢
 refine ⟨3, fun k hk => ?_⟩
 obtain ⟨q, rfl⟩ : ∃ q, k = q + 3 := ⟨k - 3, by omega⟩
 have h6 : 1 + x5.length < 17592186044416 := by omega
 have hoth : (x0 < 3 ∨ x0 = 8 ∨ 14 < x0) → cubbyref08_numbers.f (q + 3) x0 x1 x2 x3 x4 x5 code = some (numsR ⟨x0, x1, x2, x3, x4, x5⟩ code) := fun h => by
  unfold numsR cubbyref08_numbers.f
  dsimp only
  simp only [zJ]
  rw [zD (by omega), zD (by omega), zD (by omega), zD (by omega), zD (by omega), zD (by omega), zD (by omega), zD (by omega), zD (by omega)]
  rw [show (x0 == 7) = false from by simpa using (by omega : ¬ x0 = 7)]
  simp only [cubbyref08_numbers.j0]
  rw [zD (by simp), zD (by omega), zD (by omega), zD (by omega), show (x0 == 14) = false from by simpa using (by omega : ¬ x0 = 14)]
  simp only [cubbyref08_numbers.j1]
  rw [zD (by simp), zD (by omega), zD (by omega)]
  rfl
 rcases op_cases x0 with rfl | rfl | rfl | rfl | rfl | rfl | rfl | rfl | rfl | rfl | rfl | rfl | rfl | rfl | rfl | rfl | rfl | h
 all_goals first
  | exact hoth (by omega)
  | rfl
  | skip
 cases code with
 | true => rfl
 | false =>
  have e : cubbyref08_numbers.f (q + 3) 11 x1 x2 x3 x4 x5 false = if 1 + x5.length < 17592186044416 then some (x1 :: x5) else none := rfl
  show cubbyref08_numbers.f (q + 3) 11 x1 x2 x3 x4 x5 false = _
  rw [e, zC h6]
  rfl
end Go.Proofs.YtniknpjeknmpjaaGreatDoor.PlainText
namespace Go.Proofs.YtniknpjeknmpjaaGreatDoor.PlainText
open Go Go.RowKit Go.Proofs.YtniknpjeknmpjaaGreatDoorW.PrintWords Go.Proofs.YtniknpjeknmpjaaGreatDoorW.PrintMore Go.Proofs.YtniknpjeknmpjaaGreatDoor.Q Go.Proofs.YtniknpjeknmpjaaGreatDoor.Plain Go.Proofs.YtniknpjeknmpjaaGreatDoor.PlainNum Go.Proofs.YtniknpjeknmpjaaGreatDoor.PlainName
set_option linter.unusedVariables false
set_option linter.unusedSimpArgs false
def zIns : SIns := ⟨0, 0, 0, 0, ⟨#[]⟩, []⟩
def insF (rest : List ByteArray) (op : Int) (fs : ByteArray) : Int × SIns :=
 if openF fs = false ∧ rest.length ≠ fs.size ∨ openF fs = true ∧ rest.length + 1 < fs.size then (80, zIns)
 else if (fillR rest fs.data.toList 0 (insOp op)).1 = 0 then (0, (fillR rest fs.data.toList 0 (insOp op)).2) else ((fillR rest fs.data.toList 0 (insOp op)).1, zIns)
theorem fillR_num {ws : List ByteArray} {c : UInt8} {r : List UInt8} {at_ : Nat} {x : SIns} {t : ByteArray} (h1 : ¬ c = 78) (h2 : ¬ c = 76) (h : ws[at_]? = some t) : fillR ws (c :: r) at_ x = match numOf t with | some n => fillR ws r (at_ + 1) (setF c n x) | none => (81, x) := by
 conv => lhs; unfold fillR
 rw [zD h1, zD h2, h]
 try rfl
theorem fillR_name {ws : List ByteArray} {r : List UInt8} {at_ : Nat} {x : SIns} {t : ByteArray} (h : ws[at_]? = some t) : fillR ws (78 :: r) at_ x = if nameOk t = true then fillR ws r (at_ + 1) { x with f4 := t } else (80, x) := by
 conv => lhs; unfold fillR
 rw [zC rfl, h]
 try rfl
theorem fillR_list {ws : List ByteArray} {at_ : Nat} {x : SIns} : fillR ws [76] at_ x = match (ws.drop at_).mapM numOf with | some l => (0, { x with f5 := x.f5 ++ l }) | none => (81, x) := by
 conv => lhs; unfold fillR
 rw [zD (by decide), zC rfl]
 try rfl
def opWord (l : List UInt8) : Int := if l = [99, 111, 110, 115, 116] then 1 else if l = [99, 111, 112, 121] then 2 else if l = [97, 100, 100] then 3 else if l = [115, 117, 98] then 4 else if l = [109, 117, 108] then 5 else if l = [108, 101, 115, 115] then 6 else if l = [100, 105, 118] then 7 else if l = [108, 111, 97, 100] then 8 else if l = [115, 116, 111, 114, 101] then 9 else if l = [111, 117, 116] then 10 else if l = [99, 97, 108, 108] then 11 else if l = [106, 117, 109, 112] then 12 else if l = [98, 114, 97, 110, 99, 104] then 13 else if l = [114, 101, 116] then 14 else if l = [102, 101, 116, 99, 104] then 21 else if l = [115, 97, 118, 101] then 22 else 0
theorem of_word {i o : Int} {code : Bool} {wd fs : ByteArray} (h : text_of.f i code = some (o, wd, fs, true)) : o = i ∧ opWord wd.data.toList = i ∧ wd.data.toList ≠ [] := by
 rcases op_cases i with rfl | rfl | rfl | rfl | rfl | rfl | rfl | rfl | rfl | rfl | rfl | rfl | rfl | rfl | rfl | rfl | rfl | ho
 case inr.inr.inr.inr.inr.inr.inr.inr.inr.inr.inr.inr.inr.inr.inr.inr.inr =>
  rw [text_of_none (.inr ho)] at h
  cases h
 all_goals
  cases code
  all_goals
   first
    | (cases h; done)
    | (injection h with h
       simp only [Prod.mk.injEq] at h
       obtain ⟨rfl, rfl, rfl, -⟩ := h
       exact ⟨rfl, by decide, by decide⟩)
theorem isBy_some {wd : ByteArray} {code : Bool} {i : Int} {r : Int × ByteArray × ByteArray} (h : isBy wd code i = some r) : r.1 = i ∧ i = opWord wd.data.toList ∧ wd.toList ≠ [] ∧ text_of.f i code = some (r.1, r.2.1, r.2.2, true) ∧ (wordR i code).toList = wd.toList := by
 obtain ⟨⟨o, w1, fs, is⟩, hof⟩ := text_of_total i code
 cases is with
 | false => rw [isBy_false hof] at h; cases h
 | true =>
  rw [isBy_true hof] at h
  split at h
  ·next hw =>
   injection h with h
   subst h
   obtain ⟨h1, h2, h3⟩ := of_word hof
   rw [toList_data, toList_data] at hw
   refine ⟨h1, by rw [← hw]; exact h2.symm, by rw [toList_data, ← hw]; exact h3, hof, ?_⟩
   unfold wordR
   rw [hof]
   simp only
   rw [toList_data, toList_data, hw]
  ·cases h
theorem byFrom_some {wd : ByteArray} {code : Bool} : ∀ {k : Nat} {i : Int} {r : Int × ByteArray × ByteArray}, byFrom wd code k i = some r → ∃ j, i ≤ j ∧ j < i + k ∧ isBy wd code j = some r
 | 0, i, r, h => by cases h
 | k + 1, i, r, h => by
  unfold byFrom at h
  split at h
  ·next r' hr =>
   injection h with h
   subst h
   exact ⟨i, by omega, by omega, hr⟩
  ·obtain ⟨j, h1, h2, h3⟩ := byFrom_some h
   exact ⟨j, by omega, by omega, h3⟩
theorem rdT_at {xs : List SIns} {j : Nat} (h : j < xs.length) : rd_TIns xs (j : Int) = xs[j] := by unfold rd_TIns; simp [h]
theorem rdL_at {xs : List (List SIns)} {j : Nat} (h : j < xs.length) : rd_LIns xs (j : Int) = xs[j] := by unfold rd_LIns; simp [h]
theorem same_self (x : SIns) (hb : x.f5.length ≤ 1000000) : Ev (fun k => cubbyref07_Same.f k x.f0 x.f1 x.f2 x.f3 x.f4 x.f5 x.f0 x.f1 x.f2 x.f3 x.f4 x.f5) true := by
 have hl : ∀ (d j : Nat), x.f5.length - j = d → j ≤ x.f5.length → Ev (fun k => cubbyref07_Same.l0 k (j : Int) x.f0 x.f1 x.f2 x.f3 x.f4 x.f5 x.f0 x.f1 x.f2 x.f3 x.f4 x.f5) true := by
  intro d
  induction d with
  | zero =>
   intro j hd hj
   exact Ev.step (f := fun _ => some true) (fun k => by simp only [cubbyref07_Same.l0]; rw [zD (by omega)]) (Ev.now _)
  | succ d ih =>
   intro j hd hj
   refine Ev.step (fun k => ?_) (ih (j + 1) (by omega) (by omega))
   simp only [cubbyref07_Same.l0]
   rw [zC (by omega), zC (by omega), zC (by omega), zC trivial, wrap_nat (by omega)]
 have e : ((x.f5.length : Int) != (x.f5.length : Int)) = false := by simp
 refine Ev.congr (f := fun k => cubbyref07_Same.j0 k false x.f0 x.f1 x.f2 x.f3 x.f4 x.f5 x.f0 x.f1 x.f2 x.f3 x.f4 x.f5) (fun k => by unfold cubbyref07_Same.f; rw [zC rfl, zC rfl, zC rfl, zC rfl, zC rfl, e]) ?_
 exact Ev.step (fun k => by simp only [cubbyref07_Same.j0]; rw [zD (by simp)]; rfl) (hl _ 0 rfl (Nat.zero_le _))
structure FairL (B : Nat) (L : List (List SIns)) : Prop where
 len : L.length ≤ B
 row : ∀ b ∈ L, b.length ≤ B
 arg : ∀ b ∈ L, ∀ x ∈ b, x.f5.length ≤ B
theorem blocks_self (L : List (List SIns)) (h : FairL 1000000 L) : Ev (fun k => cubbyref07_Blocks.f k L L) true := by
 have hlen := h.len
 have hi : ∀ (i : Nat) (hi : i < L.length), Ev (fun k => cubbyref07_Blocks.l0 k L L ((i + 1 : Nat) : Int)) true → ∀ (d j : Nat), L[i].length - j = d → j ≤ L[i].length → Ev (fun k => cubbyref07_Blocks.l1 k L L (i : Int) (j : Int)) true := by
  intro i hi hn d
  have hbl := h.row _ (List.getElem_mem hi)
  have er := rdL_at hi
  induction d with
  | zero =>
   intro j hd hj
   refine Ev.step (fun k => ?_) hn
   simp only [cubbyref07_Blocks.l1]
   rw [zC (by omega), zC (by omega), er, zD (by omega), wrap_nat (by omega)]
  | succ d ih =>
   intro j hd hj
   have hj2 : j < L[i].length := by omega
   have ex := rdT_at hj2
   refine Ev.step (fun k => ?_) (Ev.bind (same_self L[i][j] (h.arg _ (List.getElem_mem hi) _ (List.getElem_mem hj2))) (f := fun k t => if t = true then (cubbyref07_Blocks.l1 k L L (i : Int) ((j + 1 : Nat) : Int)) else (some false)) (ih (j + 1) (by omega) (by omega)))
   simp only [cubbyref07_Blocks.l1]
   rw [zC (by omega), zC (by omega), er, zC (by omega), zC (by omega), zC (by omega), zC (by omega), ex, wrap_nat (by omega)]
 have ho : ∀ (d i : Nat), L.length - i = d → i ≤ L.length → Ev (fun k => cubbyref07_Blocks.l0 k L L (i : Int)) true := by
  intro d
  induction d with
  | zero =>
   intro i hd hj
   exact Ev.step (f := fun _ => some true) (fun k => by simp only [cubbyref07_Blocks.l0]; rw [zD (by omega)]) (Ev.now _)
  | succ d ih =>
   intro i hd hj
   have hi2 : i < L.length := by omega
   refine Ev.step (fun k => ?_) (hi i hi2 (ih (i + 1) (by omega) (by omega)) _ 0 rfl (Nat.zero_le _))
   simp only [cubbyref07_Blocks.l0]
   rw [zC (by omega), zC (by omega), zC (by omega), zC trivial]
   rfl
 exact Ev.congr (fun k => by unfold cubbyref07_Blocks.f; rw [zC rfl]; rfl) (ho _ 0 rfl (Nat.zero_le _))
end Go.Proofs.YtniknpjeknmpjaaGreatDoor.PlainText
namespace Go.Proofs.YtniknpjeknmpjaaGreatDoor.PlainNum
open Go Go.RowKit Go.Proofs.YtniknpjeknmpjaaGreatDoorW.PrintWords Go.Proofs.YtniknpjeknmpjaaGreatDoorW.PrintMore Go.Proofs.YtniknpjeknmpjaaGreatDoor.Q Go.Proofs.YtniknpjeknmpjaaGreatDoor.Plain
set_option linter.unusedVariables false
theorem digits_loop : ∀ (d : Nat) (n : Nat) (acc : ByteArray), n < 10 ^ (d + 1) → n ≤ 4611686018427387904 → acc.size + d ≤ 1000 → Ev (fun k => cubbyref08_Digits.l0 k (n : Int) acc) (⟨(Lib.decDigits n ++ acc.data.toList).toArray⟩ : ByteArray)
 | d, n, acc, hn, hb, ha => by
  by_cases h : n < 10
  ·refine ⟨1, fun k hk => ?_⟩
   obtain ⟨q, rfl⟩ : ∃ q, k = q + 1 := ⟨k - 1, by omega⟩
   simp only [cubbyref08_Digits.l0]
   have e1 : wrap64 ((n : Int) + 1) = ((n + 1 : Nat) : Int) := wrap_nat (by omega)
   rw [zD (by omega), zC (by omega), e1, zC (by omega), zC (by omega), Int.toNat_natCast, Int.toNat_natCast]
   have e2 := tens_size h
   rw [zC (by rw [e2]; omega)]
   congr 1
   refine ba_ext ?_
   rw [ByteArray.data_append, Array.toList_append, dec_small h]
   rw [show ((⟨#[48, 49, 50, 51, 52, 53, 54, 55, 56, 57]⟩ : ByteArray).extract n (n + 1)).data.toList = [UInt8.ofNat (48 + n)] from tens_at h]
  ·cases d with
   | zero => simp at hn; omega
   | succ d =>
    have hq : n / 10 < 10 ^ (d + 1) := by rw [Nat.pow_succ] at hn; omega
    have hm : n % 10 < 10 := by omega
    have e2 := tens_size hm
    have e0 : Int.tmod (n : Int) 10 = ((n % 10 : Nat) : Int) := by rw [Int.tmod_eq_emod_of_nonneg (by omega)]; omega
    have e1 : wrap64 (((n % 10 : Nat) : Int) + 1) = ((n % 10 + 1 : Nat) : Int) := wrap_nat (by omega)
    have e3 : wrap64 (Int.tdiv (n : Int) 10) = ((n / 10 : Nat) : Int) := by rw [Int.tdiv_eq_ediv_of_nonneg (by omega), wrap_id (by omega) (by omega)]; omega
    have ih := digits_loop d (n / 10) ((⟨#[48, 49, 50, 51, 52, 53, 54, 55, 56, 57]⟩ : ByteArray).extract (n % 10) (n % 10 + 1) ++ acc) hq (by omega) (by rw [ByteArray.size_append, e2]; omega)
    have e4 : (Lib.decDigits (n / 10) ++ ((⟨#[48, 49, 50, 51, 52, 53, 54, 55, 56, 57]⟩ : ByteArray).extract (n % 10) (n % 10 + 1) ++ acc).data.toList) = Lib.decDigits n ++ acc.data.toList := by
     rw [ByteArray.data_append, Array.toList_append, dec_big h, List.append_assoc, show ((⟨#[48, 49, 50, 51, 52, 53, 54, 55, 56, 57]⟩ : ByteArray).extract (n % 10) (n % 10 + 1)).data.toList = [UInt8.ofNat (48 + n % 10)] from tens_at hm]
    rw [e4] at ih
    refine Ev.step (fun k => ?_) ih
    simp only [cubbyref08_Digits.l0]
    rw [zC (by omega), e0, zC (by omega), e1, zC (by omega), zC (by omega), Int.toNat_natCast, Int.toNat_natCast, zC (by rw [e2]; omega), e3]
theorem digits_ev {n : Int} (h0 : 0 ≤ n) (h1 : n < 2147483648) : Ev (fun k => cubbyref08_Digits.f k n) (num n) := by
 obtain ⟨m, rfl⟩ : ∃ m : Nat, n = m := ⟨n.toNat, by omega⟩
 have h := digits_loop 9 m ⟨#[]⟩ (by have e10 : (10 : Nat) ^ (9 + 1) = 10000000000 := (by decide); omega) (by omega) (by decide)
 simp only [List.append_nil] at h
 exact h
end Go.Proofs.YtniknpjeknmpjaaGreatDoor.PlainNum
namespace Go.Proofs.YtniknpjeknmpjaaGreatDoor.PlainText
open Go Go.RowKit Go.Proofs.YtniknpjeknmpjaaGreatDoorW.PrintWords Go.Proofs.YtniknpjeknmpjaaGreatDoorW.PrintMore Go.Proofs.YtniknpjeknmpjaaGreatDoor.Q Go.Proofs.YtniknpjeknmpjaaGreatDoor.Plain Go.Proofs.YtniknpjeknmpjaaGreatDoor.PlainNum Go.Proofs.YtniknpjeknmpjaaGreatDoor.PlainName
set_option linter.unusedVariables false
set_option linter.unusedSimpArgs false
def good (n : Int) : Bool := decide (0 ≤ n ∧ n < 2147483648)
def tailB (name : ByteArray) (named : Bool) (b : Int) : Int → List Int → List UInt8
 | i, [] => if named = true ∧ i = b then 32 :: name.data.toList else []
 | i, n :: r => (if named = true ∧ i = b then 32 :: name.data.toList else []) ++ (32 :: Lib.decDigits n.toNat ++ tailB name named b (i + 1) r)
def sp : ByteArray := ⟨#[32]⟩
def lineR (w name : ByteArray) (named : Bool) (b : Int) (l : List Int) : ByteArray × Int :=
 if w.toList = [] ∨ (named = true ∧ nameOk name = false) then (emp, 80) else if l.all good = true then (⟨(w.data.toList ++ tailB name named b 0 l ++ [10]).toArray⟩, 0) else (emp, 81)
theorem apl (a b : ByteArray) : (a ++ b).data.toList = a.data.toList ++ b.data.toList := by rw [ByteArray.data_append, Array.toList_append]
theorem apz (a b : ByteArray) : (a ++ b).size = a.size + b.size := ByteArray.size_append
def withName (name : ByteArray) (named : Bool) (b : Int) (s : ByteArray) (i : Int) : ByteArray := if named = true ∧ i = b then (s ++ sp) ++ name else s
theorem withName_list (name : ByteArray) (named : Bool) (b : Int) (s : ByteArray) (i : Int) : (withName name named b s i).data.toList = s.data.toList ++ (if named = true ∧ i = b then 32 :: name.data.toList else []) := by
 unfold withName
 split
 ·rw [apl, apl]; simp [sp]
 ·simp
theorem withName_size (name : ByteArray) (named : Bool) (b : Int) (s : ByteArray) (i : Int) : (withName name named b s i).size ≤ s.size + 1 + name.size := by
 unfold withName
 split
 ·rw [apz, apz]; have : sp.size = 1 := rfl; omega
 ·omega
section
variable {name : ByteArray} {named : Bool} {b : Int} {L : List Int}
theorem line_head {s : ByteArray} {i : Int} {r : ByteArray × Int} (hi : i ≤ (L.length : Int)) (hs : s.size ≤ 4000000000000000000) (hn : name.size ≤ 1000) (h : Ev (fun k => cubbyref08_line.j3 k name named b L (withName name named b s i) i) r) : Ev (fun k => cubbyref08_line.l0 k name named b L s i) r := by
 have hsp : sp.size = 1 := rfl
 by_cases hc : named = true ∧ i = b
 ·have e : withName name named b s i = (s ++ sp) ++ name := zC hc
  rw [e] at h
  refine Ev.step (f := fun k => cubbyref08_line.j2 k name named b L s i (i == b)) (fun k => by simp only [cubbyref08_line.l0]; rw [zC hi, zC hc.1]) (Ev.step (fun k => ?_) h)
  simp only [cubbyref08_line.j2]
  rw [zC (by simpa using hc.2), zC (by omega), zC (by show (s ++ sp).size + _ ≤ _; rw [apz]; omega)]
  rfl
 ·have e : withName name named b s i = s := zD hc
  rw [e] at h
  by_cases hn2 : named = true
  ·refine Ev.step (f := fun k => cubbyref08_line.j2 k name named b L s i (i == b)) (fun k => by simp only [cubbyref08_line.l0]; rw [zC hi, zC hn2]) (Ev.step (fun k => ?_) h)
   simp only [cubbyref08_line.j2]
   rw [zD (by simpa using fun e => hc ⟨hn2, e⟩)]
  ·refine Ev.step (f := fun k => cubbyref08_line.j2 k name named b L s i false) (fun k => by simp only [cubbyref08_line.l0]; rw [zC hi, zD hn2]) (Ev.step (fun k => ?_) h)
   simp only [cubbyref08_line.j2]
   rw [zD (by simp)]
theorem line_loop (hn : name.size ≤ 300) (hL : L.length ≤ 1000) : ∀ (l : List Int) (j : Nat) (s : ByteArray), L.drop j = l → j ≤ L.length → s.size ≤ 1000 + 1000 * j →
 Ev (fun k => cubbyref08_line.l0 k name named b L s (j : Int)) (if l.all good = true then (⟨(s.data.toList ++ tailB name named b j l ++ [10]).toArray⟩, 0) else (emp, 81))
 | [], j, s, hl, hj, hs => by
  have hjl : j = L.length := by have := congrArg List.length hl; simp at this; omega
  have hz := withName_size name named b s j
  refine line_head (by omega) (by omega) (by omega) ?_
  refine Ev.step (f := fun k => cubbyref08_line.l0 k name named b L (withName name named b s j) ((j + 1 : Nat) : Int)) (fun k => by simp only [cubbyref08_line.j3]; rw [zD (by omega), wrap_nat (by omega)]) ?_
  refine ⟨1, fun k hk => ?_⟩
  obtain ⟨q, rfl⟩ : ∃ q, k = q + 1 := ⟨k - 1, by omega⟩
  simp only [cubbyref08_line.l0]
  rw [zD (by omega), zC (by omega), show (([] : List Int).all good) = true from rfl, zC rfl]
  congr 2
  refine ba_ext ?_
  rw [apl, withName_list]
  simp [tailB]
 | n :: l, j, s, hl, hj, hs => by
  have hlt : j < L.length := by
   rcases Nat.lt_or_ge j L.length with h | h
   ·exact h
   ·rw [List.drop_eq_nil_of_le h] at hl; cases hl
  rw [drop_cons hlt] at hl
  simp only [List.cons.injEq] at hl
  obtain ⟨hv, hl⟩ := hl
  have hrd : rd L (j : Int) = n := by rw [rd_get hlt, hv]
  have hz := withName_size name named b s j
  refine line_head (by omega) (by omega) (by omega) ?_
  by_cases hg : good n = true
  ·have hgn : 0 ≤ n ∧ n < 2147483648 := by simpa [good] using hg
   have hnz := num_size hgn.2
   have hsp : sp.size = 1 := rfl
   have ih := line_loop hn hL l (j + 1) ((withName name named b s j ++ sp) ++ num n) hl (by omega) (by rw [apz, apz]; omega)
   have e : (((withName name named b s j ++ sp) ++ num n).data.toList ++ tailB name named b ((j + 1 : Nat) : Int) l ++ [10]) = (s.data.toList ++ tailB name named b (j : Int) (n :: l) ++ [10]) := by
    rw [apl, apl, withName_list, num_list, tailB]
    simp [sp]
   rw [e] at ih
   rw [show (n :: l).all good = l.all good by simp [hg]]
   refine Ev.step (fun k => ?_) (Ev.bind (digits_ev hgn.1 hgn.2) (f := fun k t115 => (if (withName name named b s j ++ (⟨#[32]⟩ : ByteArray)).size + t115.size ≤ 9223372036854775807 then (cubbyref08_line.l0 k name named b L ((withName name named b s j ++ (⟨#[32]⟩ : ByteArray)) ++ t115) (wrap64 ((j : Int) + 1))) else (none))) ?_)
   ·simp only [cubbyref08_line.j3]
    rw [zC (by omega), zC (by omega), hrd, zD (by omega), zD (by omega), zC (by omega)]
   ·refine Ev.congr (fun k => ?_) ih
    rw [zC (by show (withName name named b s j ++ sp).size + _ ≤ _; rw [apz]; omega), wrap_nat (by omega)]
    rfl
  ·have hgn : n < 0 ∨ 2147483647 < n := by
    have : ¬ (0 ≤ n ∧ n < 2147483648) := by simpa [good] using hg
    omega
   rw [zD (by simp [hg])]
   refine ⟨1, fun k hk => ?_⟩
   obtain ⟨q, rfl⟩ : ∃ q, k = q + 1 := ⟨k - 1, by omega⟩
   simp only [cubbyref08_line.j3]
   rw [zC (by omega), zC (by omega), hrd]
   by_cases h0 : n < 0
   ·rw [zC h0]; rfl
   ·rw [zD h0, zC (by omega)]; rfl
end
theorem line_ev (w name : ByteArray) (named : Bool) (b : Int) (l : List Int) (hw : w.size ≤ 1000) (hn : name.size ≤ 300) (hl : l.length ≤ 1000) : Ev (fun k => cubbyref08_line.f k w name named b l) (lineR w name named b l) := by
 have no : ∀ g : Nat → Option (ByteArray × Int), (∀ k, g k = cubbyref08_line.j0 k w name named b l true) → w.toList = [] ∨ (named = true ∧ nameOk name = false) → Ev g (lineR w name named b l) := fun g hg hc => by
  have e : lineR w name named b l = (emp, 80) := zC hc
  rw [e]
  exact Ev.congr hg (Ev.step (f := fun _ => some (emp, 80)) (fun k => by simp only [cubbyref08_line.j0, if_true]; rfl) (Ev.now _))
 have yes : ∀ g : Nat → Option (ByteArray × Int), (∀ k, g k = cubbyref08_line.j0 k w name named b l false) → ¬ (w.toList = [] ∨ (named = true ∧ nameOk name = false)) → Ev g (lineR w name named b l) := fun g hg hc => by
  have e : lineR w name named b l = if l.all good = true then (⟨(w.data.toList ++ tailB name named b 0 l ++ [10]).toArray⟩, 0) else (emp, 81) := zD hc
  rw [e]
  exact Ev.congr hg (Ev.step (fun k => by simp only [cubbyref08_line.j0]; rw [zD (by simp)]; rfl) (line_loop hn hl l 0 w rfl (Nat.zero_le _) (by omega)))
 by_cases h0 : w.toList = []
 ·exact no _ (fun k => by unfold cubbyref08_line.f; rw [zC h0]) (.inl h0)
 by_cases h1 : named = true
 ·have hb : Ev (fun k => (cubbyref07_Name.f k name).bind fun t111 => (cubbyref08_line.j0 k w name named b l (!t111))) (lineR w name named b l) := by
   refine Ev.bind (f := fun k t111 => cubbyref08_line.j0 k w name named b l (!t111)) (refname_ev name) ?_
   cases hk : nameOk name with
   | false => exact no _ (fun k => rfl) (.inr ⟨h1, hk⟩)
   | true => exact yes _ (fun k => rfl) (by rintro (h | ⟨_, h⟩); exact h0 h; rw [hk] at h; cases h)
  exact Ev.congr (fun k => by unfold cubbyref08_line.f; rw [zD h0, zC h1]) hb
 ·exact yes _ (fun k => by unfold cubbyref08_line.f; rw [zD h0, zD h1]) (by rintro (h | ⟨h, _⟩); exact h0 h; exact h1 h)
theorem keepE_z (e : Int) : keepE e 0 = e := by unfold keepE; split <;> simp_all
theorem keepE_nz {e : Int} (h : e ≠ 0) (a : Int) : keepE e a = e := zD h
theorem keepE_assoc (a b c : Int) : keepE (keepE a b) c = keepE a (keepE b c) := by
 unfold keepE
 by_cases h : a = 0 <;> simp [h]
theorem errsOf_keep : ∀ (ps : List Part) (e : Int), errsOf e ps = keepE e (errsOf 0 ps)
 | [], e => (keepE_z e).symm
 | p :: ps, e => by
  have h1 : errsOf e (p :: ps) = errsOf (keepE e p.err) ps := rfl
  have h2 : errsOf 0 (p :: ps) = errsOf (keepE 0 p.err) ps := rfl
  rw [h1, h2, errsOf_keep ps, errsOf_keep ps (keepE 0 p.err), keepE_assoc, keepE_assoc]
  congr 1
theorem err_num (n : Int) : Part.err (.num n) = if good n = true then 0 else 81 := by
 show (if n < 0 ∨ 2147483648 ≤ n then (81 : Int) else 0) = _
 unfold good
 by_cases h : 0 ≤ n ∧ n < 2147483648
 ·rw [zD (by omega), zC (by simpa using h)]
 ·rw [zC (by omega), zD (by simpa using h)]
theorem errs_nums : ∀ l : List Int, errsOf 0 (l.map .num) = if l.all good = true then 0 else 81
 | [] => rfl
 | n :: l => by
  have h1 : errsOf 0 ((n :: l).map .num) = errsOf (keepE 0 (Part.err (.num n))) (l.map .num) := rfl
  rw [h1, errsOf_keep, err_num, errs_nums l]
  by_cases hg : good n = true
  ·simp [hg, keepE]
  ·simp [hg, keepE]
theorem join_flat (w : List UInt8) (l : List (List UInt8)) : Lib.join (w :: l) [32] = w ++ l.flatMap (fun t => 32 :: t) := by
 rw [Lib.join_cons]
 unfold Lib.joinTail
 rw [List.flatMap_def]
 rfl
theorem lineBytes_flat (wd : ByteArray) (ps : List Part) : lineBytes wd ps = wd.data.toList ++ ps.flatMap (fun p => 32 :: p.str.data.toList) ++ [10] := by
 unfold lineBytes
 rw [List.map_cons, join_flat, List.map_map, List.flatMap_map]
 rfl
theorem str_num {n : Int} (h : good n = true) : (Part.str (.num n)).data.toList = Lib.decDigits n.toNat := by
 have hg : 0 ≤ n ∧ n < 2147483648 := by simpa [good] using h
 show (⟨(Lib.itoa n).toArray⟩ : ByteArray).data.toList = _
 rw [itoa_num hg.1, num_list]
theorem tail_plain (name : ByteArray) (named : Bool) (b : Int) : ∀ (l : List Int) (i : Int), (named = true → b < i) → l.all good = true → tailB name named b i l = (l.map Part.num).flatMap (fun p => 32 :: p.str.data.toList)
 | [], i, h, hg => by
  unfold tailB
  rw [zD (by rintro ⟨h1, h2⟩; have := h h1; omega)]; rfl
 | n :: l, i, h, hg => by
  simp only [List.all_cons, Bool.and_eq_true] at hg
  unfold tailB
  rw [zD (by rintro ⟨h1, h2⟩; have := h h1; omega), tail_plain name named b l (i + 1) (fun h1 => by have := h h1; omega) hg.2]
  simp [str_num hg.1]
structure Lite (x : SIns) : Prop where
 i1 : -9223372036854775808 ≤ x.f1 ∧ x.f1 ≤ 9223372036854775807
 i2 : -9223372036854775808 ≤ x.f2 ∧ x.f2 ≤ 9223372036854775807
 i3 : -9223372036854775808 ≤ x.f3 ∧ x.f3 ≤ 9223372036854775807
 nm : x.f4.size ≤ 256
 ln : x.f5.length ≤ 20
 i5 : ∀ n ∈ x.f5, -9223372036854775808 ≤ n ∧ n ≤ 9223372036854775807
def prR (x : SIns) (code : Bool) : ByteArray × Int := lineR (wordR x.f0 code) x.f4 (x.f0 == 11) 1 (numsR x code)
theorem word_size (op : Int) (code : Bool) : (wordR op code).size ≤ 1000 := by
 unfold wordR
 rcases op_cases op with e | e | e | e | e | e | e | e | e | e | e | e | e | e | e | e | e
 all_goals first
  | (rw [e]; cases code <;> decide)
  | (rw [text_of_none (by omega)]; decide)
theorem nums_len (x : SIns) (code : Bool) (h : x.f5.length ≤ 20) : (numsR x code).length ≤ 1000 := by
 unfold numsR
 (repeat' split) <;> simp <;> omega
theorem mem_total : ∀ {l : List (List SIns)} {xs : List SIns}, xs ∈ l → xs.length ≤ (l.map List.length).sum
 | a :: l, xs, h => by
  rw [List.map_cons, List.sum_cons]
  rcases List.mem_cons.1 h with rfl | h
  ·omega
  ·have := mem_total h; omega
theorem text_of_some {op : Int} {code : Bool} (h : ¬ (op = 0 ∨ (op < 0 ∨ 14 < op) ∧ op ≠ 21 ∧ op ≠ 22)) : ∃ wd fs is, text_of.f op code = some (op, wd, fs, is) ∧ (wd.size ≤ 6 ∧ wd.toList ≠ []) ∧ fs.size ≤ 3 ∧ (∀ b ∈ fs.data.toList, b = 68 ∨ b = 65 ∨ b = 66 ∨ b = 78 ∨ b = 76) ∧ (is = false ↔ code = false ∧ (op = 21 ∨ op = 22)) := by
 rcases op_cases op with rfl | rfl | rfl | rfl | rfl | rfl | rfl | rfl | rfl | rfl | rfl | rfl | rfl | rfl | rfl | rfl | rfl | h'
 all_goals first
  | exact absurd (by omega) h
  | (cases code <;> exact ⟨_, _, _, rfl, ⟨by decide, by rw [toList_data]; decide⟩, by decide, by decide, by decide⟩)
theorem itoa_len {n : Int} (h : -9223372036854775808 ≤ n ∧ n ≤ 9223372036854775807) : (Lib.itoa n).length ≤ 20 := by
 have h19 : (10 : Nat) ^ (18 + 1) = 10000000000000000000 := by decide
 unfold Lib.itoa
 split
 ·have := dec_len 18 n.natAbs (by omega)
  simp only [List.length_cons]; omega
 ·have := dec_len 18 n.toNat (by omega)
  omega
theorem str_len {p : Part} (h : PartOk p) (hs : ∀ s, p = .nm s → s.size ≤ 256) : p.str.data.toList.length ≤ 256 := by
 cases p with
 | num n =>
  have := itoa_len h
  show (⟨(Lib.itoa n).toArray⟩ : ByteArray).data.toList.length ≤ 256
  simp; omega
 | nm s => have := hs s rfl; show s.data.toList.length ≤ 256; simpa using this
theorem flat_len (ps : List Part) (h : ∀ p ∈ ps, p.str.data.toList.length ≤ 256) : (ps.flatMap (fun p => 32 :: p.str.data.toList)).length ≤ 257 * ps.length := by
 induction ps with
 | nil => simp
 | cons p ps ih =>
  have h1 := h p List.mem_cons_self
  have h2 := ih (fun q hq => h q (List.mem_cons_of_mem _ hq))
  simp only [List.flatMap_cons, List.length_append, List.length_cons]
  omega
theorem parts_ok {x : SIns} (h : Lite x) (fs : List UInt8) : ∀ p ∈ partsOf x fs, PartOk p ∧ ∀ s, p = .nm s → s.size ≤ 256 := by
 intro p hp
 obtain ⟨c, hc, hp⟩ := List.mem_flatMap.1 hp
 unfold fieldParts at hp
 split at hp
 ·rw [List.mem_singleton.1 hp]; exact ⟨h.i1, fun s e => by cases e⟩
 split at hp
 ·rw [List.mem_singleton.1 hp]; exact ⟨h.i2, fun s e => by cases e⟩
 split at hp
 ·rw [List.mem_singleton.1 hp]; exact ⟨h.i3, fun s e => by cases e⟩
 split at hp
 ·rw [List.mem_singleton.1 hp]; exact ⟨trivial, fun s e => by cases e; exact h.nm⟩
 split at hp
 ·obtain ⟨n, hn, rfl⟩ := List.mem_map.1 hp
  exact ⟨h.i5 n hn, fun s e => by cases e⟩
 ·simp at hp
theorem parts_count {x : SIns} (h : Lite x) (fs : ByteArray) (hf : fs.size ≤ 3) : (partsOf x fs.data.toList).length ≤ 63 := by
 have h1 := partsOf_len x fs.data.toList
 have h2 : fs.data.toList.length = fs.size := by simp
 have h3 := h.ln
 have h4 : fs.data.toList.length * (x.f5.length + 1) ≤ 3 * 21 := Nat.mul_le_mul (by omega) (by omega)
 omega
theorem line_len {x : SIns} (h : Lite x) (wd fs : ByteArray) (hw : wd.size ≤ 6) (hf : fs.size ≤ 3) : (lineBytes wd (partsOf x fs.data.toList)).length ≤ 20000 := by
 rw [lineBytes_flat, List.length_append, List.length_append]
 have h1 := flat_len (partsOf x fs.data.toList) (fun p hp => str_len (parts_ok h _ p hp).1 (parts_ok h _ p hp).2)
 have h2 := parts_count h fs hf
 have h3 : wd.data.toList.length = wd.size := by simp
 have : 257 * (partsOf x fs.data.toList).length ≤ 257 * 63 := Nat.mul_le_mul_left _ h2
 simp only [List.length_singleton]
 omega
theorem insOk_of {x : SIns} (h : Lite x) (code : Bool) : insOkB code x = true := by
 unfold insOkB
 by_cases hn : x.f0 = 0 ∨ (x.f0 < 0 ∨ 14 < x.f0) ∧ x.f0 ≠ 21 ∧ x.f0 ≠ 22
 ·rw [text_of_none hn]
  have h5 := h.ln
  simp only [Bool.and_eq_true, decide_eq_true_eq]
  rw [name_eq]
  exact ⟨⟨⟨⟨⟨rfl, rfl⟩, by decide⟩, (by decide : (lineBytes emp []).length ≤ 1000000000)⟩, rfl⟩, by omega⟩
 ·obtain ⟨wd, fs, is, ho, ⟨hw, -⟩, hf, hb, -⟩ := text_of_some (code := code) hn
  rw [ho]
  have h5 := h.ln
  have h6 := line_len h wd fs hw hf
  simp only [Bool.and_eq_true, decide_eq_true_eq]
  rw [name_eq]
  refine ⟨⟨⟨⟨⟨List.all_eq_true.2 fun b hbm => zF (hb b hbm), List.all_eq_true.2 fun p hp => ?_⟩, by omega⟩, by omega⟩, rfl⟩, by omega⟩
  have h7 := (parts_ok h _ p hp).1
  cases p with
  | num n => exact zF (show -9223372036854775808 ≤ n ∧ n ≤ 9223372036854775807 from h7)
  | nm s => rfl
theorem insText_grow {x : SIns} (h : Lite x) (code : Bool) (s : List UInt8 × Int) : (insText code s x).1.length ≤ s.1.length + 20000 := by
 unfold insText
 by_cases hn : x.f0 = 0 ∨ (x.f0 < 0 ∨ 14 < x.f0) ∧ x.f0 ≠ 21 ∧ x.f0 ≠ 22
 ·rw [text_of_none hn]; simp
 ·obtain ⟨wd, fs, is, ho, ⟨hw, -⟩, hf, hb, -⟩ := text_of_some (code := code) hn
  rw [ho]
  have h6 := line_len h wd fs hw hf
  cases is with
  | true => simp only [List.length_append]; omega
  | false => simp
theorem insText_R {x : SIns} (h : Lite x) (code : Bool) (s : List UInt8) : (insText code (s, 0) x).2 = (prR x code).2 ∧ ((prR x code).2 = 0 → (insText code (s, 0) x).1 = s ++ (prR x code).1.data.toList) := by
 by_cases hn : x.f0 = 0 ∨ (x.f0 < 0 ∨ 14 < x.f0) ∧ x.f0 ≠ 21 ∧ x.f0 ≠ 22
 ·have e1 : prR x code = (emp, 80) := by
   unfold prR lineR
   rw [zC (.inl (by unfold wordR; rw [text_of_none hn, toList_data]; rfl))]
  have e2 : insText code (s, 0) x = (s, 80) := by unfold insText; rw [text_of_none hn]; rfl
  rw [e1, e2]
  exact ⟨rfl, fun h => absurd h (by decide)⟩
 obtain ⟨wd, fs, is, ho, ⟨hw, hw0⟩, hf, hb, his⟩ := text_of_some (code := code) hn
 cases is with
 | false =>
  have e1 : prR x code = (emp, 80) := by
   unfold prR lineR
   rw [zC (.inl (by unfold wordR; rw [ho, toList_data]; rfl))]
  have e2 : insText code (s, 0) x = (s, 80) := by unfold insText; rw [ho]; rfl
  rw [e1, e2]
  exact ⟨rfl, fun h => absurd h (by decide)⟩
 | true =>
  have ew : wordR x.f0 code = wd := by unfold wordR; rw [ho]
  have e2 : insText code (s, 0) x = (s ++ lineBytes wd (partsOf x fs.data.toList), errsOf (nameErr (nameOk x.f4) 0 fs.data.toList) (partsOf x fs.data.toList)) := by unfold insText; rw [ho]; dsimp only; rw [name_eq]; rfl
  rw [e2]
  unfold prR
  rw [ew]
  clear ew e2 hb hf
  have hx := hn
  obtain ⟨x0, x1, x2, x3, x4, x5⟩ := x
  dsimp only at *
  have key : ∀ (named : Bool) (l : List Int) (ps : List Part) (e0 : Int), (e0 = if named = true ∧ nameOk x4 = false then 80 else 0) → (e0 = 0 → errsOf 0 ps = if l.all good = true then 0 else 81) → (l.all good = true → tailB x4 named 1 0 l = ps.flatMap (fun p => 32 :: p.str.data.toList)) →
   (errsOf e0 ps = (lineR wd x4 named 1 l).2 ∧ ((lineR wd x4 named 1 l).2 = 0 → s ++ lineBytes wd ps = s ++ (lineR wd x4 named 1 l).1.data.toList)) := by
   intro named l ps e0 he hp ht
   unfold lineR
   by_cases hc : named = true ∧ nameOk x4 = false
   ·rw [zC (.inr hc)]
    rw [he, zC hc, errsOf_keep, keepE_nz (by decide)]
    exact ⟨rfl, fun h => absurd h (by decide)⟩
   ·rw [zD (by rintro (h | h); exact hw0 h; exact hc h)]
    rw [zD hc] at he
    rw [he, hp he]
    by_cases hg : l.all good = true
    ·rw [zC hg, zC hg]
     refine ⟨rfl, fun _ => ?_⟩
     rw [lineBytes_flat, ht hg]
    ·rw [zD hg, zD hg]
     exact ⟨rfl, fun h => absurd h (by decide)⟩
  have hop : ∀ (wd' fs' : ByteArray), text_of.f x0 code = some (x0, wd', fs', true) → wd = wd' ∧ fs = fs' := fun wd' fs' h' => by
   rw [ho] at h'
   simp only [Option.some.injEq, Prod.mk.injEq] at h'
   exact ⟨h'.2.1, h'.2.2.1⟩
  have nums : ∀ (l : List Int), fs.data.toList.flatMap (fieldParts ⟨x0, x1, x2, x3, x4, x5⟩) = l.map .num → (78 : UInt8) ∉ fs.data.toList → (x0 == 11) = false → numsR ⟨x0, x1, x2, x3, x4, x5⟩ code = l →
   (errsOf (nameErr (nameOk x4) 0 fs.data.toList) (partsOf ⟨x0, x1, x2, x3, x4, x5⟩ fs.data.toList) = (lineR wd x4 (x0 == 11) 1 (numsR ⟨x0, x1, x2, x3, x4, x5⟩ code)).2 ∧ ((lineR wd x4 (x0 == 11) 1 (numsR ⟨x0, x1, x2, x3, x4, x5⟩ code)).2 = 0 → s ++ lineBytes wd (partsOf ⟨x0, x1, x2, x3, x4, x5⟩ fs.data.toList) = s ++ (lineR wd x4 (x0 == 11) 1 (numsR ⟨x0, x1, x2, x3, x4, x5⟩ code)).1.data.toList)) := by
   intro l hl h78 h11 hnum
   rw [h11, hnum, show partsOf ⟨x0, x1, x2, x3, x4, x5⟩ fs.data.toList = l.map .num from hl]
   refine key false l _ _ ?_ (fun _ => errs_nums l) (fun hg => tail_plain x4 false 1 l 0 (fun h => by cases h) hg)
   rw [zD (by rintro ⟨h, _⟩; cases h)]
   have : ∀ (fl : List UInt8) (e : Int), (78 : UInt8) ∉ fl → nameErr (nameOk x4) e fl = e := by
    intro fl
    induction fl with
    | nil => intro e _; rfl
    | cons c fl ih =>
     intro e hm
     have h1 : c ≠ 78 := fun e => hm (by rw [e]; exact List.mem_cons_self)
     show nameErr (nameOk x4) (if c = 78 then _ else e) fl = e
     rw [zD h1]
     exact ih e (fun hm' => hm (List.mem_cons_of_mem _ hm'))
   exact this _ _ h78
  rcases op_cases x0 with rfl | rfl | rfl | rfl | rfl | rfl | rfl | rfl | rfl | rfl | rfl | rfl | rfl | rfl | rfl | rfl | rfl | h'
  all_goals first
   | exact absurd (by omega) hx
   | (obtain ⟨rfl, rfl⟩ := hop _ _ rfl; exact nums _ rfl (by decide) rfl rfl)
   | (cases code <;> first | (obtain ⟨rfl, rfl⟩ := hop _ _ rfl; exact nums _ rfl (by decide) rfl rfl) | exact absurd (his.2 ⟨rfl, .inl rfl⟩) (by decide) | exact absurd (his.2 ⟨rfl, .inr rfl⟩) (by decide))
   | skip
  ·-- a call
   have ne : ∀ c : UInt8, nameErr (nameOk x4) 0 [68, 78, c] = if c = 78 then (if nameOk x4 = true then (if nameOk x4 = true then 0 else 80) else 80) else (if nameOk x4 = true then 0 else 80) := fun c => by
    unfold nameErr
    simp only [List.foldl_cons, List.foldl_nil]
    cases nameOk x4 <;> simp [keepE]
   have hname : ∀ c : UInt8, c ≠ 78 → nameErr (nameOk x4) 0 [68, 78, c] = if (true : Bool) = true ∧ nameOk x4 = false then 80 else 0 := fun c hc => by
    rw [ne c, zD hc]
    cases nameOk x4 <;> simp
   have errs : ∀ l : List Int, errsOf 0 (.num x1 :: .nm x4 :: l.map .num) = if (x1 :: l).all good = true then 0 else 81 := fun l => by
    have h1 : errsOf 0 (.num x1 :: .nm x4 :: l.map .num) = errsOf (keepE (keepE 0 (Part.err (.num x1))) 0) (l.map .num) := rfl
    rw [h1, keepE_z, errsOf_keep, err_num, errs_nums l]
    by_cases hg : good x1 = true
    ·simp [hg, keepE]
    ·simp [hg, keepE]
   have tl : ∀ l : List Int, (x1 :: l).all good = true → tailB x4 true 1 0 (x1 :: l) = (Part.num x1 :: Part.nm x4 :: l.map .num).flatMap (fun p => 32 :: p.str.data.toList) := fun l hg => by
    simp only [List.all_cons, Bool.and_eq_true] at hg
    have e1 : tailB x4 true 1 0 (x1 :: l) = 32 :: Lib.decDigits x1.toNat ++ tailB x4 true 1 (0 + 1) l := by
     rw [tailB, zD (by rintro ⟨_, h⟩; omega)]; simp
    have e2 : tailB x4 true 1 (0 + 1) l = (32 :: x4.data.toList) ++ (l.map Part.num).flatMap (fun p => 32 :: p.str.data.toList) := by
     cases l with
     | nil => rw [tailB, zC ⟨rfl, rfl⟩]; simp
     | cons n l =>
      simp only [List.all_cons, Bool.and_eq_true] at hg
      rw [tailB, zC ⟨rfl, rfl⟩, tail_plain x4 true 1 l _ (fun _ => by omega) hg.2.2]
      simp [str_num hg.2.1]
    rw [e1, e2]
    simp only [List.flatMap_cons, str_num hg.1]
    have e3 : (Part.nm x4).str = x4 := rfl
    simp [e3]
   cases code with
   | true =>
    obtain ⟨rfl, rfl⟩ := hop _ _ rfl
    exact key true [x1, x2] [.num x1, .nm x4, .num x2] _ (hname 65 (by decide)) (fun _ => errs [x2]) (fun hg => tl [x2] hg)
   | false =>
    obtain ⟨rfl, rfl⟩ := hop _ _ rfl
    have e : partsOf ⟨11, x1, x2, x3, x4, x5⟩ [68, 78, 76] = .num x1 :: .nm x4 :: x5.map .num := by simp [partsOf, fieldParts]
    have := key true (x1 :: x5) (.num x1 :: .nm x4 :: x5.map .num) _ (hname 76 (by decide)) (fun _ => errs x5) (fun hg => tl x5 hg)
    rw [← e] at this
    exact this
theorem keep_err {code : Bool} {s : List UInt8 × Int} {x : SIns} (h : s.2 ≠ 0) : (insText code s x).2 = s.2 := by
 unfold insText
 split
 ·rw [errsOf_keep]
  have : ∀ (fl : List UInt8) (e : Int) (nb : Bool), e ≠ 0 → nameErr nb e fl = e := by
   intro fl
   induction fl with
   | nil => intro e nb _; rfl
   | cons c fl ih =>
    intro e nb he
    show nameErr nb (if c = 78 then (if nb then e else keepE e 80) else e) fl = e
    rw [keepE_nz he]
    simp only [ite_self]
    exact ih e nb he
  rw [this _ _ _ h, keepE_nz h]
 ·exact keepE_nz h _
theorem fold_err {α : Type} {f : List UInt8 × Int → α → List UInt8 × Int} (hf : ∀ s x, s.2 ≠ 0 → (f s x).2 = s.2) : ∀ (l : List α) (s : List UInt8 × Int), s.2 ≠ 0 → (l.foldl f s).2 = s.2
 | [], s, h => rfl
 | x :: l, s, h => by rw [List.foldl_cons, fold_err hf l _ (by rw [hf s x h]; exact h), hf s x h]
theorem blk_err {code : Bool} {s : List UInt8 × Int} {xs : List SIns} (h : s.2 ≠ 0) : (blkText code s xs).2 = s.2 := fold_err (fun s x h => keep_err h) xs (s.1 ++ [98, 108, 111, 99, 107, 10], s.2) h
theorem blks_err {code : Bool} {s : List UInt8 × Int} {l : List (List SIns)} (h : s.2 ≠ 0) : (blksText code s l).2 = s.2 := fold_err (fun s x h => blk_err h) l s h
def fin (s : List UInt8 × Int) : ByteArray × Int := if s.2 = 0 then (⟨s.1.toArray⟩, 0) else (emp, s.2)
theorem fin_err {s : List UInt8 × Int} (h : s.2 ≠ 0) : fin s = (emp, s.2) := zD h
def total (l : List (List SIns)) : Nat := (l.map List.length).sum
structure Light (l : List (List SIns)) : Prop where
 len : l.length ≤ 50
 tot : total l ≤ 300
 lite : ∀ xs ∈ l, ∀ x ∈ xs, Lite x
theorem blk_grow {code : Bool} : ∀ (xs : List SIns), (∀ x ∈ xs, Lite x) → ∀ s : List UInt8 × Int, (xs.foldl (insText code) s).1.length ≤ s.1.length + 20000 * xs.length
 | [], _, s => by simp
 | x :: xs, h, s => by
  have h1 := blk_grow (code := code) xs (fun y hy => h y (List.mem_cons_of_mem _ hy)) (insText code s x)
  have h2 := insText_grow (h x List.mem_cons_self) code s
  rw [List.foldl_cons, List.length_cons]; omega
theorem blks_grow {code : Bool} : ∀ (l : List (List SIns)), (∀ xs ∈ l, ∀ x ∈ xs, Lite x) → ∀ s : List UInt8 × Int, (blksText code s l).1.length ≤ s.1.length + 6 * l.length + 20000 * total l
 | [], _, s => by simp [blksText, total]
 | xs :: l, h, s => by
  have h1 := blks_grow (code := code) l (fun y hy => h y (List.mem_cons_of_mem _ hy)) (blkText code s xs)
  have h2 := blk_grow (code := code) xs (h xs List.mem_cons_self) (s.1 ++ [98, 108, 111, 99, 107, 10], s.2)
  have h3 : (blkText code s xs).1.length ≤ s.1.length + 6 + 20000 * xs.length := by
   refine Nat.le_trans h2 ?_
   simp
  have e1 : blksText code s (xs :: l) = blksText code (blkText code s xs) l := rfl
  have e2 : total (xs :: l) = xs.length + total l := by simp [total]
  rw [e1, e2, List.length_cons]; omega
section
variable {L : List (List SIns)} {code : Bool}
set_option maxRecDepth 100000 in
theorem inner (hL : ∀ xs ∈ L, ∀ x ∈ xs, Lite x) (hLL : L.length ≤ 50) (i : Nat) (xs : List SIns) (hi : L[i]? = some xs) (hxl : xs.length ≤ 300) (r : ByteArray × Int) (g : List UInt8 × Int → ByteArray × Int) (hg : ∀ s : List UInt8 × Int, s.2 ≠ 0 → g s = (emp, s.2)) :
 ∀ (l : List SIns) (j : Nat) (s : List UInt8), xs.drop j = l → j ≤ xs.length → s.length ≤ 1000000000 + 20000 * j →
  ((l.foldl (insText code) (s, 0)).2 = 0 → Ev (fun k => cubbyref08_print.l0 k L code ⟨(l.foldl (insText code) (s, 0)).1.toArray⟩ ((i + 1 : Nat) : Int)) (g (l.foldl (insText code) (s, 0)))) →
  Ev (fun k => cubbyref08_print.l1 k L code ⟨s.toArray⟩ (i : Int) (j : Int)) (g (l.foldl (insText code) (s, 0)))
 | [], j, s, hl, hj, hs, hK => by
  have hil : i < L.length := (List.getElem?_eq_some_iff.1 hi).1
  have hjl : xs.length = j := by have := congrArg List.length hl; simp at this; omega
  refine Ev.step (fun k => ?_) (hK rfl)
  simp only [cubbyref08_print.l1]
  rw [zC (by omega), zC (by omega), rd_LIns_at hi, zD (by omega)]
  rw [wrap_nat (by omega)]
  rfl
 | x :: l, j, s, hl, hj, hs, hK => by
  have hil : i < L.length := (List.getElem?_eq_some_iff.1 hi).1
  have hlt : j < xs.length := by
   rcases Nat.lt_or_ge j xs.length with h | h
   ·exact h
   ·rw [List.drop_eq_nil_of_le h] at hl; cases hl
  have hlx := hl
  rw [drop_cons hlt] at hlx
  simp only [List.cons.injEq] at hlx
  obtain ⟨hxv, hl2⟩ := hlx
  have hx : xs[j]? = some x := by rw [List.getElem?_eq_getElem hlt, hxv]
  have hLx : Lite x := hL xs (List.mem_of_getElem? hi) x (List.mem_of_getElem? hx)
  obtain ⟨h1, h2⟩ := insText_R hLx code s
  have h3 := insText_grow hLx code (s, 0)
  have h5 := hLx.ln
  have step : ∀ k, cubbyref08_print.l1 (k + 1) L code ⟨s.toArray⟩ (i : Int) (j : Int) = (cubbyref08_word.f k x.f0 code).bind fun t164 => (cubbyref08_numbers.f k x.f0 x.f1 x.f2 x.f3 x.f4 x.f5 code).bind fun t165 => (cubbyref08_line.f k t164 x.f4 (x.f0 == 11) 1 t165).bind fun bt168 => if bt168.2 = 0 then (if (⟨s.toArray⟩ : ByteArray).size + bt168.1.size ≤ 9223372036854775807 then cubbyref08_print.l1 k L code ((⟨s.toArray⟩ : ByteArray) ++ bt168.1) (i : Int) (wrap64 ((j : Int) + 1)) else none) else some (emp, bt168.2) := fun k => by
   simp only [cubbyref08_print.l1]
   rw [zC (by omega), zC (by omega), rd_LIns_at hi, zC (by omega), zC (by omega), rd_TIns_at hx]
   rfl
  refine Ev.step step (Ev.bind (word_ev x.f0 code) (f := fun k t164 => (cubbyref08_numbers.f k x.f0 x.f1 x.f2 x.f3 x.f4 x.f5 code).bind fun t165 => (cubbyref08_line.f k t164 x.f4 (x.f0 == 11) 1 t165).bind fun bt168 => if bt168.2 = 0 then (if (⟨s.toArray⟩ : ByteArray).size + bt168.1.size ≤ 9223372036854775807 then cubbyref08_print.l1 k L code ((⟨s.toArray⟩ : ByteArray) ++ bt168.1) (i : Int) (wrap64 ((j : Int) + 1)) else none) else some (emp, bt168.2)) (Ev.bind (numbers_ev x code (by omega)) (f := fun k t165 => (cubbyref08_line.f k (wordR x.f0 code) x.f4 (x.f0 == 11) 1 t165).bind fun bt168 => if bt168.2 = 0 then (if (⟨s.toArray⟩ : ByteArray).size + bt168.1.size ≤ 9223372036854775807 then cubbyref08_print.l1 k L code ((⟨s.toArray⟩ : ByteArray) ++ bt168.1) (i : Int) (wrap64 ((j : Int) + 1)) else none) else some (emp, bt168.2)) (Ev.bind (a := prR x code) ?_ ?_)))
  ·refine line_ev _ _ _ _ _ (word_size x.f0 code) (by have := hLx.nm; omega) (nums_len x code (by omega))
  ·rw [List.foldl_cons] at hK ⊢
   by_cases h0 : (prR x code).2 = 0
   ·have e : insText code (s, 0) x = (s ++ (prR x code).1.data.toList, 0) := Prod.ext (h2 h0) (h1.trans h0)
    rw [e] at hK h3 ⊢
    have e2 : (⟨s.toArray⟩ : ByteArray) ++ (prR x code).1 = ⟨(s ++ (prR x code).1.data.toList).toArray⟩ := ba_ext (by rw [apl])
    have e3 : (⟨s.toArray⟩ : ByteArray).size = s.length := by show s.toArray.size = _; simp
    have e4 : (prR x code).1.size = (prR x code).1.data.toList.length := by simp
    have h6 : s.length + (prR x code).1.data.toList.length ≤ s.length + 20000 := by simpa using h3
    have hz : (s ++ (prR x code).1.data.toList).length ≤ 1000000000 + 20000 * (j + 1) := by have h9 : (s ++ (prR x code).1.data.toList).length = s.length + (prR x code).1.data.toList.length := List.length_append; omega
    have ih := inner hL hLL i xs hi hxl r g hg l (j + 1) (s ++ (prR x code).1.data.toList) hl2 (by omega) hz hK
    refine Ev.congr (fun k => ?_) ih
    rw [zC h0, e3, e4, zC (by omega), e2, wrap_nat (by omega)]
   ·have hne : (insText code (s, 0) x).2 ≠ 0 := by rw [h1]; exact h0
    have he := fold_err (f := insText code) (fun s x h => keep_err h) l _ hne
    rw [hg _ (by rw [he]; exact hne), he, h1]
    exact Ev.congr (fun k => by rw [zD h0]) (Ev.now _)
theorem outer (h : Light L) (code : Bool) : ∀ (l : List (List SIns)) (i : Nat) (s : List UInt8), L.drop i = l → i ≤ L.length → s.length ≤ 100000000 + 10000000 * i →
 Ev (fun k => cubbyref08_print.l0 k L code ⟨s.toArray⟩ (i : Int)) (fin (blksText code (s, 0) l))
 | [], i, s, hl, hi, hs => by
  have hil : L.length = i := by have := congrArg List.length hl; simp at this; omega
  refine ⟨1, fun k hk => ?_⟩
  obtain ⟨q, rfl⟩ : ∃ q, k = q + 1 := ⟨k - 1, by omega⟩
  simp only [cubbyref08_print.l0]
  rw [zD (by omega)]
  rfl
 | xs :: l, i, s, hl, hi, hs => by
  have hlt : i < L.length := by
   rcases Nat.lt_or_ge i L.length with h | h
   ·exact h
   ·rw [List.drop_eq_nil_of_le h] at hl; cases hl
  rw [drop_cons hlt] at hl
  simp only [List.cons.injEq] at hl
  obtain ⟨hxv, hl2⟩ := hl
  have hx : L[i]? = some xs := by rw [List.getElem?_eq_getElem hlt, hxv]
  have hxm : xs ∈ L := List.mem_of_getElem? hx
  have hLL := h.len
  have hxl : xs.length ≤ 300 := Nat.le_trans (mem_total hxm) h.tot
  have e0 : (⟨s.toArray⟩ : ByteArray).size = s.length := by show s.toArray.size = _; simp
  have e1 : (⟨s.toArray⟩ : ByteArray) ++ (⟨#[98, 108, 111, 99, 107, 10]⟩ : ByteArray) = ⟨(s ++ [98, 108, 111, 99, 107, 10]).toArray⟩ := ba_ext (by rw [apl])
  have hgr := blk_grow (code := code) xs (h.lite xs hxm) (s ++ [98, 108, 111, 99, 107, 10], 0)
  have hz : (s ++ ([98, 108, 111, 99, 107, 10] : List UInt8)).length = s.length + 6 := by rw [List.length_append]; rfl
  have hz2 : ((s ++ ([98, 108, 111, 99, 107, 10] : List UInt8), (0 : Int)).1).length = s.length + 6 := hz
  rw [hz2] at hgr
  have hi2 := inner (code := code) h.lite hLL i xs hx hxl (emp, 0) (fun s => fin (blksText code s l)) (fun s hs => by
   have := blks_err (code := code) (l := l) hs
   rw [fin_err (by rw [this]; exact hs), this]) xs 0 (s ++ [98, 108, 111, 99, 107, 10]) rfl (Nat.zero_le _) (by have := hz; omega) (fun h0 => by
    have h4 := outer h code l (i + 1) (xs.foldl (insText code) (s ++ [98, 108, 111, 99, 107, 10], 0)).1 hl2 (by omega) (by omega)
    have e : xs.foldl (insText code) (s ++ [98, 108, 111, 99, 107, 10], 0) = ((xs.foldl (insText code) (s ++ [98, 108, 111, 99, 107, 10], 0)).1, 0) := Prod.ext rfl h0
    rw [← e] at h4
    exact h4)
  refine Ev.step (fun k => ?_) hi2
  simp only [cubbyref08_print.l0]
  rw [zC (by omega), e0, zC (by omega), e1]
  rfl
end
theorem head_R (a0 : ByteArray) (a1 a2 : Int) (h0 : a0.size ≤ 256) : (printHead a0 a1 a2).2 = (lineR (⟨#[102, 117, 110, 99]⟩ : ByteArray) a0 true 0 [a1, a2]).2 ∧ ((lineR (⟨#[102, 117, 110, 99]⟩ : ByteArray) a0 true 0 [a1, a2]).2 = 0 → (printHead a0 a1 a2).1 = (lineR (⟨#[102, 117, 110, 99]⟩ : ByteArray) a0 true 0 [a1, a2]).1.data.toList) := by
 have hw : ¬ (⟨#[102, 117, 110, 99]⟩ : ByteArray).toList = [] := by rw [toList_data]; decide
 have he : errsOf 0 [.nm a0, .num a1, .num a2] = if [a1, a2].all good = true then 0 else 81 := by
  have h1 : errsOf 0 [.nm a0, .num a1, .num a2] = errsOf (keepE 0 0) ([a1, a2].map .num) := rfl
  rw [h1, keepE_z, errs_nums]
 unfold printHead
 rw [name_eq]
 by_cases hn : nameOk a0 = true
 ·have e : lineR (⟨#[102, 117, 110, 99]⟩ : ByteArray) a0 true 0 [a1, a2] = if [a1, a2].all good = true then (⟨((⟨#[102, 117, 110, 99]⟩ : ByteArray).data.toList ++ tailB a0 true 0 0 [a1, a2] ++ [10]).toArray⟩, 0) else (emp, 81) := zD (by
   rintro (h | ⟨_, h⟩)
   ·exact hw h
   ·rw [hn] at h; cases h)
  rw [e, hn]
  dsimp only [Option.getD_some]
  rw [zC rfl, he]
  by_cases hg : [a1, a2].all good = true
  ·rw [zC hg, zC hg]
   refine ⟨rfl, fun _ => ?_⟩
   rw [lineBytes_flat]
   have e1 : tailB a0 true 0 0 [a1, a2] = (32 :: a0.data.toList) ++ ([a1, a2].map Part.num).flatMap (fun p => 32 :: p.str.data.toList) := by
    have hg2 := hg
    simp only [List.all_cons, Bool.and_eq_true] at hg2
    rw [tailB, zC ⟨rfl, rfl⟩, tail_plain a0 true 0 [a2] _ (fun _ => by omega) (by simpa using hg2.2)]
    simp [str_num hg2.1]
   rw [e1]
   have e3 : (Part.nm a0).str = a0 := rfl
   simp [e3]
  ·rw [zD hg, zD hg]
   exact ⟨rfl, fun h => absurd h (by decide)⟩
 ·have hn2 : nameOk a0 = false := by simpa using hn
  have e : lineR (⟨#[102, 117, 110, 99]⟩ : ByteArray) a0 true 0 [a1, a2] = (emp, 80) := zC (.inr ⟨rfl, hn2⟩)
  rw [e, hn2]
  dsimp only [Option.getD_some]
  rw [zD (show ¬ (false = true) by decide), errsOf_keep]
  exact ⟨rfl, fun h => absurd h (by decide)⟩
def told (a0 : ByteArray) (a1 a2 : Int) (l : List (List SIns)) : ByteArray × Int := fin (printS a0 a1 a2 l)
theorem head_len (a0 : ByteArray) (a1 a2 : Int) (h0 : a0.size ≤ 256) (h1 : -9223372036854775808 ≤ a1 ∧ a1 ≤ 9223372036854775807) (h2 : -9223372036854775808 ≤ a2 ∧ a2 ≤ 9223372036854775807) : (printHead a0 a1 a2).1.length ≤ 1000 := by
 unfold printHead
 have hf := flat_len [.nm a0, .num a1, .num a2] (fun p hp => by
  simp only [List.mem_cons, List.not_mem_nil, or_false] at hp
  rcases hp with rfl | rfl | rfl
  ·exact str_len trivial (fun s e => by cases e; exact h0)
  ·exact str_len (p := .num a1) h1 (fun s e => by cases e)
  ·exact str_len (p := .num a2) h2 (fun s e => by cases e))
 rw [lineBytes_flat, List.length_append, List.length_append]
 have : (⟨#[102, 117, 110, 99]⟩ : ByteArray).data.toList.length = 4 := rfl
 simp only [List.length_singleton, List.length_cons, List.length_nil] at hf ⊢
 omega
theorem print_len {a0 : ByteArray} {a1 a2 : Int} {l : List (List SIns)} (h0 : a0.size ≤ 256) (h1 : -9223372036854775808 ≤ a1 ∧ a1 ≤ 9223372036854775807) (h2 : -9223372036854775808 ≤ a2 ∧ a2 ≤ 9223372036854775807) (h : Light l) : (printS a0 a1 a2 l).1.length ≤ 10000000 := by
 have h3 := head_len a0 a1 a2 h0 h1 h2
 have h4 := blks_grow (code := false) l h.lite (printHead a0 a1 a2)
 have h5 := h.len
 have h6 := h.tot
 unfold printS
 omega
theorem print_eq {a0 : ByteArray} {a1 a2 : Int} {l : List (List SIns)} (h0 : a0.size ≤ 256) (h1 : -9223372036854775808 ≤ a1 ∧ a1 ≤ 9223372036854775807) (h2 : -9223372036854775808 ≤ a2 ∧ a2 ≤ 9223372036854775807) (h : Light l) : text_Print.f a0 a1 a2 l = some (told a0 a1 a2 l) := by
 unfold text_Print.f
 rw [zC]
 ·unfold told fin
  split
  ·next hz => rw [hz]
  ·rfl
 ·have h7 := print_len h0 h1 h2 h
  simp only [printOkB, Bool.and_eq_true, decide_eq_true_eq]
  refine ⟨⟨⟨⟨by rw [name_eq]; rfl, zF (show -9223372036854775808 ≤ a1 ∧ a1 ≤ 9223372036854775807 from h1)⟩, zF (show -9223372036854775808 ≤ a2 ∧ a2 ≤ 9223372036854775807 from h2)⟩, ?_⟩, by omega⟩
  exact List.all_eq_true.2 fun xs hx => List.all_eq_true.2 fun x hy => insOk_of (h.lite xs hx x hy) false
theorem refprint_ev {a0 : ByteArray} {a1 a2 : Int} {l : List (List SIns)} (h0 : a0.size ≤ 256) (h1 : -9223372036854775808 ≤ a1 ∧ a1 ≤ 9223372036854775807) (h2 : -9223372036854775808 ≤ a2 ∧ a2 ≤ 9223372036854775807) (h : Light l) : Ev (fun k => cubbyref08_Print.f k a0 a1 a2 l) (told a0 a1 a2 l) := by
 obtain ⟨e1, e2⟩ := head_R a0 a1 a2 h0
 have h3 := head_len a0 a1 a2 h0 h1 h2
 unfold cubbyref08_Print.f
 refine Ev.bind (line_ev (⟨#[102, 117, 110, 99]⟩ : ByteArray) a0 true 0 [a1, a2] (by decide) (by omega) (by simp)) ?_
 by_cases hz : (lineR (⟨#[102, 117, 110, 99]⟩ : ByteArray) a0 true 0 [a1, a2]).2 = 0
 ·have e3 : printHead a0 a1 a2 = ((printHead a0 a1 a2).1, 0) := Prod.ext rfl (e1.trans hz)
  have e4 : (lineR (⟨#[102, 117, 110, 99]⟩ : ByteArray) a0 true 0 [a1, a2]).1 = ⟨(printHead a0 a1 a2).1.toArray⟩ := ba_ext (by rw [e2 hz])
  simp only [zC hz]
  rw [e4]
  have ho := outer h false l 0 (printHead a0 a1 a2).1 rfl (Nat.zero_le _) (by omega)
  rw [← e3] at ho
  exact Ev.bind (f := fun k bt176 => some (bt176.1, bt176.2)) ho (Ev.now _)
 ·simp only [zD hz]
  have e5 : told a0 a1 a2 l = (emp, (lineR (⟨#[102, 117, 110, 99]⟩ : ByteArray) a0 true 0 [a1, a2]).2) := by
   unfold told printS
   have hb := blks_err (code := false) (s := printHead a0 a1 a2) (l := l) (by rw [e1]; exact hz)
   rw [fin_err (by rw [hb, e1]; exact hz), hb, e1]
  rw [e5]
  exact Ev.now _
def Thin (x : SIns) : Prop := x.f5.length ≤ 20 ∧ x.f4.size ≤ 256
section
variable {L : List (List SIns)}
theorem heavy_inner (i : Nat) (xs : List SIns) (hi : L[i]? = some xs) (hLL : L.length ≤ 50) (n : Nat) : ∀ (d k : Nat), xs.length - k = d → k ≤ 1000 →
 Ev (fun q => cubbylaw08_heavy.l1 q L (n : Int) (i : Int) (k : Int)) true ∨ ((∀ m x, k ≤ m → m ≤ 300 → xs[m]? = some x → Thin x) ∧ ∀ r, Ev (fun q => cubbylaw08_heavy.l0 q L (n : Int) ((i + 1 : Nat) : Int)) r → Ev (fun q => cubbylaw08_heavy.l1 q L (n : Int) (i : Int) (k : Int)) r) := by
 have hil : i < L.length := (List.getElem?_eq_some_iff.1 hi).1
 have out : ∀ (k : Nat), (∀ q, cubbylaw08_heavy.l1 (q + 1) L (n : Int) (i : Int) (k : Int) = cubbylaw08_heavy.j3 q L (n : Int) (i : Int) (k : Int) false) → ∀ r, Ev (fun q => cubbylaw08_heavy.l0 q L (n : Int) ((i + 1 : Nat) : Int)) r → Ev (fun q => cubbylaw08_heavy.l1 q L (n : Int) (i : Int) (k : Int)) r := fun k hk r hr => by
  refine Ev.step hk (Ev.step (fun q => ?_) hr)
  simp only [cubbylaw08_heavy.j3]
  rw [zD (by simp), wrap_nat (by omega)]
 intro d
 induction d with
 | zero =>
  intro k hd hk
  refine .inr ⟨fun m x hm _ hx => absurd (List.getElem?_eq_some_iff.1 hx).1 (by omega), out k (fun q => ?_)⟩
  simp only [cubbylaw08_heavy.l1]
  rw [zC (by omega), zC (by omega), rd_LIns_at hi, zD (by omega)]
 | succ d ih =>
  intro k hd hk
  have hlt : k < xs.length := by omega
  by_cases h3 : k ≤ 300
  ·obtain ⟨x, hx⟩ : ∃ x, xs[k]? = some x := ⟨_, List.getElem?_eq_getElem hlt⟩
   have st : ∀ q, cubbylaw08_heavy.l1 (q + 2) L (n : Int) (i : Int) (k : Int) = if (x.f5.length : Int) > 20 then some true else if (x.f4.size : Int) > 256 then some true else cubbylaw08_heavy.l1 q L (n : Int) (i : Int) ((k + 1 : Nat) : Int) := fun q => by
    simp only [cubbylaw08_heavy.l1]
    rw [zC (by omega), zC (by omega), rd_LIns_at hi, zC (by omega), zF (show ((k : Int) ≤ 300) by omega)]
    simp only [cubbylaw08_heavy.j3]
    rw [zC (by simp), zC (by omega), zC (by omega), zC (by omega), rd_LIns_at hi, zC (by omega), rd_TIns_at hx, wrap_nat (by omega)]
   have mk : ∀ (f : Nat → Option Bool) (r : Bool), (∀ q, cubbylaw08_heavy.l1 (q + 2) L (n : Int) (i : Int) (k : Int) = f q) → Ev f r → Ev (fun q => cubbylaw08_heavy.l1 q L (n : Int) (i : Int) (k : Int)) r := fun f r h ⟨K, hK⟩ => ⟨K + 2, fun q hq => by
    obtain ⟨p, rfl⟩ : ∃ p, q = p + 2 := ⟨q - 2, by omega⟩
    exact (h p).trans (hK p (by omega))⟩
   by_cases h4 : (x.f5.length : Int) > 20
   ·exact .inl (mk _ _ (fun q => (st q).trans (zC h4)) (Ev.now _))
   by_cases h5 : (x.f4.size : Int) > 256
   ·exact .inl (mk _ _ (fun q => (st q).trans (by rw [zD h4, zC h5])) (Ev.now _))
   have st2 : ∀ q, cubbylaw08_heavy.l1 (q + 2) L (n : Int) (i : Int) (k : Int) = cubbylaw08_heavy.l1 q L (n : Int) (i : Int) ((k + 1 : Nat) : Int) := fun q => (st q).trans (by rw [zD h4, zD h5])
   rcases ih (k + 1) (by omega) (by omega) with h | ⟨h1, h2⟩
   ·exact .inl (mk _ _ st2 h)
   ·refine .inr ⟨fun m y hm hm3 hy => ?_, fun r hr => mk _ _ st2 (h2 r hr)⟩
    rcases Nat.lt_or_ge k m with h | h
    ·exact h1 m y (by omega) hm3 hy
    ·obtain rfl : k = m := by omega
     rw [hx] at hy
     injection hy with hy
     rw [← hy]
     exact ⟨by omega, by omega⟩
  ·refine .inr ⟨fun m x hm hm3 _ => absurd hm3 (by omega), out k (fun q => ?_)⟩
   simp only [cubbylaw08_heavy.l1]
   rw [zC (by omega), zC (by omega), rd_LIns_at hi, zC (by omega), zG (show ¬ ((k : Int) ≤ 300) by omega)]
theorem heavy_outer (hLL : L.length ≤ 50) : ∀ (l : List (List SIns)) (i n : Nat), L.drop i = l → i ≤ L.length → n ≤ 10000000 →
 ∃ b, Ev (fun q => cubbylaw08_heavy.l0 q L (n : Int) (i : Int)) b ∧ (b = false → n + total l ≤ 300 ∧ ∀ xs ∈ l, ∀ x ∈ xs, Thin x)
 | [], i, n, hl, hi, hn => by
  have hil : L.length = i := by have := congrArg List.length hl; simp at this; omega
  refine ⟨decide ((n : Int) > 300), Ev.step (f := fun q => cubbylaw08_heavy.j1 q L (n : Int) (i : Int) false) (fun q => by simp only [cubbylaw08_heavy.l0]; rw [zD (by omega)]) (Ev.step (f := fun _ => some (decide ((n : Int) > 300))) (fun q => by simp only [cubbylaw08_heavy.j1]; rw [zD (by simp)]) (Ev.now _)), fun h => ⟨?_, fun xs hx => by cases hx⟩⟩
  have := of_decide_eq_false h
  simp [total]; omega
 | xs :: l, i, n, hl, hi, hn => by
  have hlt : i < L.length := by
   rcases Nat.lt_or_ge i L.length with h | h
   ·exact h
   ·rw [List.drop_eq_nil_of_le h] at hl; cases hl
  rw [drop_cons hlt] at hl
  simp only [List.cons.injEq] at hl
  obtain ⟨hxv, hl2⟩ := hl
  have hx : L[i]? = some xs := by rw [List.getElem?_eq_getElem hlt, hxv]
  have et : total (xs :: l) = xs.length + total l := by simp [total]
  by_cases h3 : n ≤ 300
  ·have hmn : mn ((xs.length : Nat) : Int) 1048576 = ((min xs.length 1048576 : Nat) : Int) := by
    unfold mn
    split <;> omega
   have st : ∀ r, Ev (fun q => cubbylaw08_heavy.l1 q L ((n + min xs.length 1048576 : Nat) : Int) (i : Int) ((0 : Nat) : Int)) r → Ev (fun q => cubbylaw08_heavy.l0 q L (n : Int) (i : Int)) r := fun r hr => by
    refine Ev.step (f := fun q => cubbylaw08_heavy.j1 q L (n : Int) (i : Int) true) (fun q => by simp only [cubbylaw08_heavy.l0]; rw [zC (by omega), zF (show ((n : Int) ≤ 300) by omega)]) (Ev.step (fun q => ?_) hr)
    simp only [cubbylaw08_heavy.j1]
    rw [zC (by simp), zC (by omega), zC (by omega), rd_LIns_at hx, hmn, wrap_id (by omega) (by omega)]
    rfl
   rcases heavy_inner i xs hx hLL (n + min xs.length 1048576) _ 0 rfl (by omega) with h | ⟨h1, h2⟩
   ·exact ⟨true, st _ h, fun h => by cases h⟩
   ·obtain ⟨b, hb, hb2⟩ := heavy_outer hLL l (i + 1) (n + min xs.length 1048576) hl2 (by omega) (by omega)
    refine ⟨b, st _ (h2 b hb), fun h => ?_⟩
    obtain ⟨h5, h6⟩ := hb2 h
    have h7 : xs.length ≤ 300 := by omega
    refine ⟨by rw [et]; omega, fun ys hys => ?_⟩
    rcases List.mem_cons.1 hys with rfl | hys
    ·intro x hxm
     obtain ⟨m, hm⟩ := List.getElem?_of_mem hxm
     have := (List.getElem?_eq_some_iff.1 hm).1
     exact h1 m x (Nat.zero_le _) (by omega) hm
    ·exact h6 ys hys
  ·refine ⟨true, Ev.step (f := fun q => cubbylaw08_heavy.j1 q L (n : Int) (i : Int) false) (fun q => by simp only [cubbylaw08_heavy.l0]; rw [zC (by omega), zG (show ¬ ((n : Int) ≤ 300) by omega)]) (Ev.step (f := fun _ => some true) (fun q => by simp only [cubbylaw08_heavy.j1]; rw [zD (by simp), zF (show ((n : Int) > 300) by omega)]) (Ev.now _)), fun h => by cases h⟩
end
theorem heavy_ev (l : List (List SIns)) : ∃ b, Ev (fun q => cubbylaw08_heavy.f q l) b ∧ (b = false → l.length ≤ 50 ∧ total l ≤ 300 ∧ ∀ xs ∈ l, ∀ x ∈ xs, Thin x) := by
 by_cases h : (l.length : Int) > 50
 ·exact ⟨true, Ev.congr (f := fun _ => some true) (fun q => by unfold cubbylaw08_heavy.f; rw [zC h]) (Ev.now _), fun h => by cases h⟩
 ·obtain ⟨b, hb, hb2⟩ := heavy_outer (L := l) (by omega) l 0 0 rfl (Nat.zero_le _) (by omega)
  refine ⟨b, Ev.congr (fun q => by unfold cubbylaw08_heavy.f; rw [zD h]; rfl) hb, fun h2 => ⟨by omega, ?_⟩⟩
  have := hb2 h2
  exact ⟨by omega, this.2⟩
end Go.Proofs.YtniknpjeknmpjaaGreatDoor.PlainText
namespace Go.Proofs.YtniknpjeknmpjaaGreatDoor.Q
open Go.RowKit Go.Shelf Go.Proofs.YtniknpjeknmpjaaGreatDoor.Plain Go.Proofs.YtniknpjeknmpjaaGreatDoor.PlainName Go.Proofs.YtniknpjeknmpjaaGreatDoor.PlainNum Go.Proofs.YtniknpjeknmpjaaGreatDoor.PlainText Go.Proofs.YtniknpjeknmpjaaGreatDoorW.PrintWords Go.Proofs.YtniknpjeknmpjaaGreatDoorW.PrintLast Go.Proofs.YtniknpjeknmpjaaGreatDoorW.PrintMore
set_option linter.unusedVariables false
set_option linter.unusedSimpArgs false
theorem indexByte_first : ∀ (l : List UInt8) (b : UInt8) (e : Nat), l[e]? = some b → (∀ j, j < e → l[j]? ≠ some b) → Lib.indexByte l b = (e : Int)
 | [], b, e, h, _ => by simp at h
 | c :: l, b, e, h, hn => by
  unfold Lib.indexByte
  by_cases hc : c = b
  ·rw [zC (by simpa using hc)]
   cases e with
   | zero => rfl
   | succ e => exact absurd (show (c :: l)[0]? = some b by simp [hc]) (hn 0 (by omega))
  ·rw [zD (by simpa using hc)]
   cases e with
   | zero => simp at h; exact absurd h hc
   | succ e =>
    have := indexByte_first l b e (by simpa using h) (fun j hj => by have := hn (j + 1) (by omega); simpa using this)
    rw [this, zD (by first | (simp; done) | (simp; omega))]
    omega
theorem cut_found {s : ByteArray} {e : Nat} (h : s.data.toList[e]? = some 10) (hn : ∀ j, j < e → s.data.toList[j]? ≠ some 10) : wholeB (cutB s).1 = true ∧ trimB (cutB s).1 = s.extract 0 e ∧ (cutB s).2 = s.extract (e + 1) s.size := by
 have hi := indexByte_first _ _ _ h hn
 rw [cutB_pos hi]
 have hlt : e < s.data.toList.length := (List.getElem?_eq_some_iff.1 h).1
 have hg : s.data.toList[e] = 10 := (List.getElem?_eq_some_iff.1 h).2
 have hd : (s.extract 0 (e + 1)).data.toList = s.data.toList.take e ++ [10] := by
  rw [ByteArray.data_extract, Array.toList_extract, List.extract_eq_take_drop, List.drop_zero, Nat.sub_zero, List.take_succ_eq_append_getElem hlt, hg]
 refine ⟨?_, ?_, rfl⟩
 ·show Lib.hasSuffix (s.extract 0 (e + 1)).data.toList [10] = true
  rw [hd]
  unfold Lib.hasSuffix
  exact List.isSuffixOf_iff_suffix.2 ⟨_, rfl⟩
 ·apply ba_ext
  show (Lib.trimSuffix (s.extract 0 (e + 1)).data.toList [10]).toArray.toList = _
  rw [hd, List.toList_toArray, ByteArray.data_extract, Array.toList_extract, List.extract_eq_take_drop, List.drop_zero, Nat.sub_zero]
  unfold Lib.trimSuffix Lib.hasSuffix
  rw [zC (List.isSuffixOf_iff_suffix.2 ⟨_, rfl⟩)]
  simp
end Go.Proofs.YtniknpjeknmpjaaGreatDoor.Q
