/- TextReads: parts of the proofs, put together. -/
import Derived.Lib.AtoiTie
import Derived.Lib.ItoaNum
import Derived.Lib.ItoaMem
import Derived.Test.YtniknpjeknmpjaaDoorMTextReads1
import Derived.Test.YtniknpjeknmpjaaDoorMTextReads2
namespace Go.Proofs.YtniknpjeknmpjaaDoor.Q
open Go.RowKit Go.Shelf Go.Proofs.YtniknpjeknmpjaaDoor.Plain Go.Proofs.YtniknpjeknmpjaaDoor.PlainName Go.Proofs.YtniknpjeknmpjaaDoorW.PrintWords Go.Proofs.YtniknpjeknmpjaaDoorW.PrintLast Go.Proofs.YtniknpjeknmpjaaDoorW.PrintMore
set_option linter.unusedVariables false
set_option linter.unusedSimpArgs false
def topP (s : PS) (ws : List ByteArray) : Int × PS :=
 match ws with
 | w0 :: w1 :: rest => if w0.toList = s.first.toList ∧ ((rest.length + 2 : Nat) : Int) = s.heads + 2 ∧ nameOk w1 = true then (match rest.mapM numOf with | some l => (0, { s with name := w1, head := l }) | none => (81, s)) else (80, s)
 | _ => (80, s)
def parser_top.T1 : Bool × List (List Nat × List Nat) := (true, [([], []), ([0], [0]), ([1], [1]), ([], []), ([3], [3]), ([4], [4]), ([5], [5]), ([2, 6], [2, 6]), ([7], [7]), ([8], [8]), ([9, 8], [8, 9]), ([8], [8]), ([11, 8], [8, 11]), ([12, 8], [8, 12]), ([13, 8], [8, 13]), ([14, 8], [8, 14]), ([10, 15, 8], [8, 10, 15]), ([8, 16], [8, 16]), ([17, 8], [17]), ([18], [18]), ([19, 18], [18, 19]), ([20, 18], [18, 20]), ([21, 18, 18], [18, 21]), ([22, 18], [18, 22]), ([18, 23], [18, 23])])
def parser_top.B1 : List Nat := [0, 1, 3, 0, 8, 24, 56, 127, 255, 511, 1023, 511, 2559, 6655, 14847, 31231, 65535, 131071, 262143, 524287, 1048575, 2097151, 4194303, 8388607, 16777215]
theorem parser_top.tab1 : rtab .any (opsOf Tryd.f41 1) = parser_top.T1 := by kernel_rfl
theorem parser_top.bits1 : waitsOk parser_top.T1.2 parser_top.B1 = true := by kernel_rfl
def badTop (s : PS) (w0 : ByteArray) (rest : List ByteArray) : Bool := !(w0.toList == s.first.toList && decide ((rest.length : Int) + 1 = s.heads + 2) && (match rest with | w1 :: _ => nameOk w1 | [] => false))
set_option maxHeartbeats 8000000 in
set_option maxRecDepth 100000 in
theorem top_calls {w0 w : World} (hL : LaidW w0) (hB : Below w0.heap.size w0 w) (gp gw D : Nat) (hD : w0.heap.size ≤ gp) (s : PS) (lt : gp < D) (hs : w.heap[gp]? = some (.cells #[.bool s.code, .string s.first, .int .i64 s.heads, .string s.name, .slice none 0 0, .slice none 0 0] 60 (0, 0))) (hh : s.head = []) (hbk : s.blocks = []) (hhd : 1 ≤ s.heads ∧ s.heads ≤ 100) (hDw : D ≤ w.heap.size) (ws : List ByteArray) (hw : WordsAt gw 0 ws w) (h0 : ws ≠ []) (hwl : ws.length ≤ 95000) (hws : ∀ t ∈ ws, t.size ≤ 95000) :
 Calls Tryd.prog 41 #[.pointer (some ⟨gp, 0, none⟩), .slice (some ⟨gw, 0, none⟩) ws.length ws.length] w fun e w' => e = .returned (.int .i64 (topP s ws).1) ∧ ((topP s ws).1 = 0 → PsAt D gp (topP s ws).2 w') ∧ KeptD gp D w w' ∧ Below w0.heap.size w0 w' := by
 obtain ⟨w0d, rest, rfl⟩ : ∃ a l, ws = a :: l := by
  cases ws with
  | nil => exact absurd rfl h0
  | cons a l => exact ⟨a, l, rfl⟩
 have hx0 : w.cell? ⟨gw, 0, none⟩ = some (.string w0d) := WordsAt.cell hw (i := 0) (t := w0d) rfl
 have HLd := zA hL
 have HB := zA hB
 have HK := zA hs
 have HW := zA hw
 have HWs := zA hws
 have hlen : (w0d :: rest).length = rest.length + 1 := rfl
 rw [hlen] at hwl ⊢
 have z6 := bk6 hs
 clear hL hB hs hw hws hlen h0
 go_enter Tryd.func41, Tryd.ntmps41
 go_upto_region 1 with fail
 go_cut [33] (fun v33 wc => v33 = .bool (badTop s w0d rest) ∧ Aside0 (Below w.heap.size w wc))
 case first =>
  by_cases c1 : w0d.toList = s.first.toList
  case neg =>
   obtain ⟨c1a, c1b⟩ := qn c1
   have HD := zA (show badTop s w0d rest = true by unfold badTop; rw [c1a]; rfl)
   clear c1
   refine start_ (n := 25) (S := fun w' => w'.cell? ⟨gw, 0, none⟩ = some (.string w0d) ∧ w'.cell? ⟨gp, 1, none⟩ = some (.string s.first) ∧ w'.cell? ⟨gp, 2, none⟩ = some (.int .i64 s.heads)) (ds := []) (bA 25 0) (by kernel_rfl) rfl rfl ⟨hx0, z6.2.1, z6.2.2.1⟩ (fun hHeld => ?_); refine with_tabW parser_top.tab1 parser_top.bits1 (fun HT_ HW_ => ?_)
   have HBd := zA (below_drew (Below.refl w.heap.size w))
   generalize w.drew = w1 at HBd hHeld ⊢
   refine pu_ (i := 0) (N := some 9) (bA 25 1) ?_
   refine pu_ (i := 1) (N := some 10) (bA 25 3) ?_
   refine pu_ (i := 3) (N := some 12) (bA 25 11) ?_
   refine pu_ (i := 4) (N := some 13) (bA 25 27) ?_
   refine pu_ (i := 5) (N := some 14) (bA 25 59) ?_
   refine tk_ (i := 2) (N := some 11) (bA 25 63) ?_
   refine tk_ (i := 6) (N := some 15) (bA 25 127) ?_
   refine pu_ (i := 7) (N := some 16) (bA 25 255) ?_
   refine pu_ (i := 8) (N := some 17) (bA 25 511) ?_
   refine pu_ (i := 9) (N := some 18) (v := undef) (bA 25 1023) ?_ (hy := Or.inr ⟨by rfl, rfl⟩)
   refine pu_ (i := 10) (N := some 19) (v := undef) (bA 25 2047) ?_ (hy := Or.inr ⟨by rfl, rfl⟩)
   refine pu_ (i := 11) (N := some 20) (v := undef) (bA 25 4095) ?_ (hy := Or.inr ⟨by rfl, rfl⟩)
   refine pu_ (i := 12) (N := some 21) (v := undef) (bA 25 8191) ?_ (hy := Or.inr ⟨by rfl, rfl⟩)
   refine pu_ (i := 13) (N := some 22) (v := undef) (bA 25 16383) ?_ (hy := Or.inr ⟨by rfl, rfl⟩)
   refine pu_ (i := 14) (N := some 23) (v := undef) (bA 25 32767) ?_ (hy := Or.inr ⟨by rfl, rfl⟩)
   refine pu_ (i := 15) (N := some 24) (v := undef) (bA 25 65535) ?_ (hy := Or.inr ⟨by rfl, rfl⟩)
   refine pu_ (i := 16) (N := some 25) (v := undef) (bA 25 131071) ?_ (hy := Or.inr ⟨by rfl, rfl⟩)
   refine pu_ (i := 17) (N := some 26) (bA 25 262143) ?_
   refine pu_ (i := 18) (N := some 27) (bA 25 524287) ?_
   refine pu_ (i := 19) (N := some 28) (v := undef) (bA 25 1048575) ?_ (hy := Or.inr ⟨by rfl, rfl⟩)
   refine pu_ (i := 20) (N := some 29) (v := undef) (bA 25 2097151) ?_ (hy := Or.inr ⟨by rfl, rfl⟩)
   refine pu_ (i := 21) (N := some 30) (v := undef) (bA 25 4194303) ?_ (hy := Or.inr ⟨by rfl, rfl⟩)
   refine pu_ (i := 22) (N := some 31) (v := undef) (bA 25 8388607) ?_ (hy := Or.inr ⟨by rfl, rfl⟩)
   refine pu_ (i := 23) (N := some 32) (v := undef) (bA 25 16777215) ?_ (hy := Or.inr ⟨by rfl, rfl⟩)
   refine pu_ (i := 24) (N := some 33) (bA 25 33554431) ?_
   refine done_ (done_of HT_.out (by kernel_rfl)) ?_
   go_wp2_with fail
   go_meet
   case rel => exact ⟨by rw [HD.out], HBd⟩
  obtain ⟨c1a, c1b⟩ := qe c1
  by_cases c2 : (rest.length : Int) + 1 = s.heads + 2
  case neg =>
   obtain ⟨c2a, c2b⟩ := qn c2
   have HD := zA (show badTop s w0d rest = true by unfold badTop; rw [c1a, zG c2]; rfl)
   have hh3 : wrap64 (s.heads + 2) = s.heads + 2 := by unfold wrap64; omega
   clear c1 c2
   refine start_ (n := 25) (S := fun w' => w'.cell? ⟨gw, 0, none⟩ = some (.string w0d) ∧ w'.cell? ⟨gp, 1, none⟩ = some (.string s.first) ∧ w'.cell? ⟨gp, 2, none⟩ = some (.int .i64 s.heads)) (ds := []) (bA 25 0) (by kernel_rfl) rfl rfl ⟨hx0, z6.2.1, z6.2.2.1⟩ (fun hHeld => ?_); refine with_tabW parser_top.tab1 parser_top.bits1 (fun HT_ HW_ => ?_)
   have HBd := zA (below_drew (Below.refl w.heap.size w))
   generalize w.drew = w1 at HBd hHeld ⊢
   refine pu_ (i := 0) (N := some 9) (bA 25 1) ?_
   refine pu_ (i := 1) (N := some 10) (bA 25 3) ?_
   refine pu_ (i := 3) (N := some 12) (bA 25 11) ?_
   refine pu_ (i := 4) (N := some 13) (bA 25 27) ?_
   refine pu_ (i := 5) (N := some 14) (bA 25 59) ?_
   refine tk_ (i := 2) (N := some 11) (bA 25 63) ?_
   refine tk_ (i := 6) (N := some 15) (bA 25 127) ?_
   refine pu_ (i := 7) (N := some 16) (bA 25 255) ?_
   refine pu_ (i := 8) (N := some 17) (bA 25 511) ?_
   refine pu_ (i := 9) (N := some 18) (bA 25 1023) ?_
   refine pu_ (i := 10) (N := some 19) (bA 25 2047) ?_
   refine pu_ (i := 11) (N := some 20) (bA 25 4095) ?_
   refine pu_ (i := 12) (N := some 21) (bA 25 8191) ?_
   refine pu_ (i := 13) (N := some 22) (bA 25 16383) ?_
   refine tk_ (i := 14) (N := some 23) (bA 25 32767) ?_
   refine pu_ (i := 15) (N := some 24) (bA 25 65535) ?_
   refine pu_ (i := 16) (N := some 25) (bA 25 131071) ?_
   refine pu_ (i := 17) (N := some 26) (bA 25 262143) ?_
   refine pu_ (i := 18) (N := some 27) (bA 25 524287) ?_
   refine pu_ (i := 19) (N := some 28) (v := undef) (bA 25 1048575) ?_ (hy := Or.inr ⟨by rfl, rfl⟩)
   refine pu_ (i := 20) (N := some 29) (v := undef) (bA 25 2097151) ?_ (hy := Or.inr ⟨by rfl, rfl⟩)
   refine pu_ (i := 21) (N := some 30) (v := undef) (bA 25 4194303) ?_ (hy := Or.inr ⟨by rfl, rfl⟩)
   refine pu_ (i := 22) (N := some 31) (v := undef) (bA 25 8388607) ?_ (hy := Or.inr ⟨by rfl, rfl⟩)
   refine pu_ (i := 23) (N := some 32) (v := undef) (bA 25 16777215) ?_ (hy := Or.inr ⟨by rfl, rfl⟩)
   refine pu_ (i := 24) (N := some 33) (bA 25 33554431) ?_
   refine done_ (done_of HT_.out (by kernel_rfl)) ?_
   go_wp2_with fail
   go_meet
   case rel => exact ⟨by rw [HD.out], HBd⟩
  obtain ⟨w1d, r, rfl⟩ : ∃ w1d r, rest = w1d :: r := by
   cases rest with
   | nil => exact absurd c2 (by simp; omega)
   | cons a l => exact ⟨a, l, rfl⟩
  have hx1 : w.cell? ⟨gw, 1, none⟩ = some (.string w1d) := WordsAt.cell HW.out (i := 1) (t := w1d) rfl
  rw [List.length_cons] at *
  obtain ⟨b, hb⟩ : ∃ b, b = nameOk w1d := ⟨_, rfl⟩
  have HNm := zA (show ir_Name.f w1d = some b by rw [name_eq, hb])
  have HD := zA (show badTop s w0d (w1d :: r) = !b by unfold badTop; rw [c1a, zF (by rw [List.length_cons]; omega), hb]; rfl)
  clear hb
  obtain ⟨c2a, c2b⟩ := qe (show (r.length : Int) + 1 + 1 = s.heads + 2 by simpa using c2)
  have hh3 : wrap64 (s.heads + 2) = s.heads + 2 := by unfold wrap64; omega
  have hr1 := eq_true (show (1 : Int) < (r.length : Int) + 1 + 1 by omega)
  have hr0 := eq_true (show (0 : Int) < (r.length : Int) + 1 + 1 by omega)
  clear c1 c2
  refine start_ (n := 25) (S := fun w' => w'.cell? ⟨gw, 0, none⟩ = some (.string w0d) ∧ w'.cell? ⟨gp, 1, none⟩ = some (.string s.first) ∧ w'.cell? ⟨gp, 2, none⟩ = some (.int .i64 s.heads) ∧ w'.cell? ⟨gw, 1, none⟩ = some (.string w1d)) (ds := []) (bA 25 0) (by kernel_rfl) rfl rfl ⟨hx0, z6.2.1, z6.2.2.1, hx1⟩ (fun hHeld => ?_); refine with_tabW parser_top.tab1 parser_top.bits1 (fun HT_ HW_ => ?_)
  have HBd := zA (below_drew (Below.refl w.heap.size w))
  generalize w.drew = w1 at HBd hHeld ⊢
  refine pu_ (i := 0) (N := some 9) (bA 25 1) ?_
  refine pu_ (i := 1) (N := some 10) (bA 25 3) ?_
  refine pu_ (i := 3) (N := some 12) (bA 25 11) ?_
  refine pu_ (i := 4) (N := some 13) (bA 25 27) ?_
  refine pu_ (i := 5) (N := some 14) (bA 25 59) ?_
  refine tk_ (i := 2) (N := some 11) (bA 25 63) ?_
  refine tk_ (i := 6) (N := some 15) (bA 25 127) ?_
  refine pu_ (i := 7) (N := some 16) (bA 25 255) ?_
  refine pu_ (i := 8) (N := some 17) (bA 25 511) ?_
  refine pu_ (i := 9) (N := some 18) (bA 25 1023) ?_
  refine pu_ (i := 10) (N := some 19) (bA 25 2047) ?_
  refine pu_ (i := 11) (N := some 20) (bA 25 4095) ?_
  refine pu_ (i := 12) (N := some 21) (bA 25 8191) ?_
  refine pu_ (i := 13) (N := some 22) (bA 25 16383) ?_
  refine tk_ (i := 14) (N := some 23) (bA 25 32767) ?_
  refine pu_ (i := 15) (N := some 24) (bA 25 65535) ?_
  refine pu_ (i := 16) (N := some 25) (bA 25 131071) ?_
  refine pu_ (i := 17) (N := some 26) (bA 25 262143) ?_
  refine pu_ (i := 18) (N := some 27) (bA 25 524287) ?_
  refine pu_ (i := 19) (N := some 28) (bA 25 1048575) ?_
  refine pu_ (i := 20) (N := some 29) (bA 25 2097151) ?_
  refine tk_ (i := 21) (N := some 30) (bA 25 4194303) ?_
  refine one_ (i := 22) (N := some 31) (bA 25 8388607) rfl rfl (one_of HT_.out (by kernel_rfl)) (by decide) (fun K hK => ?_)
  refine goes_ Tryd.func27 (by kernel_rfl) rfl #[.string w1d] (by rfl) rfl rfl qL ?_
  refine (ir_Name.calls w1d b _ HNm.out).mono ?_
  rintro e w2 ⟨rfl, hb⟩
  refine ⟨_, rfl, ?_⟩
  have HB2 := zA (below_step HBd.out hb)
  have hh2 : w2.cell? ⟨gw, 0, none⟩ = some (.string w0d) ∧ w2.cell? ⟨gp, 1, none⟩ = some (.string s.first) ∧ w2.cell? ⟨gp, 2, none⟩ = some (.int .i64 s.heads) ∧ w2.cell? ⟨gw, 1, none⟩ = some (.string w1d) := ⟨(hb.cell (zE _ _ hHeld.1)).trans hHeld.1, (hb.cell (zE _ _ hHeld.2.1)).trans hHeld.2.1, (hb.cell (zE _ _ hHeld.2.2.1)).trans hHeld.2.2.1, (hb.cell (zE _ _ hHeld.2.2.2)).trans hHeld.2.2.2⟩
  clear hb hHeld
  refine hK.out _ _ hh2 (fun hHeld => ?_)
  clear hK K hh2
  refine norm_ (a' := ?_) ?_ ?_
  rotate_left
  ·show Act.put _ (some 31) _ = _
   simp only [Act.put, List.setIfInBounds_toArray, List.set_cons_zero, List.set_cons_succ, i64_w, i32_w]
   rfl
  refine pu_ (i := 23) (N := some 32) (bA 25 16777215) ?_
  refine pu_ (i := 24) (N := some 33) (bA 25 33554431) ?_
  refine done_ (done_of HT_.out (by kernel_rfl)) ?_
  go_wp2_with fail
  go_meet
  case rel => exact ⟨by rw [HD.out], HB2⟩
 case rest =>
  obtain ⟨rfl, HBc⟩ := hcut
  have HKc := zA (blk_below HK.out HBc.out)
  have HWc := zA (WordsAt.low HW.out (by obtain ⟨_, hk, _⟩ := HW.out; exact blk_lt hk) HBc.out)
  clear z6 hx0
  by_cases c1 : badTop s w0d rest = true
  ·have hR : topP s (w0d :: rest) = (80, s) := by
    unfold badTop at c1
    cases rest with
    | nil => rfl
    | cons w1d r =>
     unfold topP
     dsimp only
     rw [zD]
     rintro ⟨h1, h2, h3⟩
     have e2 : decide ((((w1d :: r).length : Nat) : Int) + 1 = s.heads + 2) = true := zF (by rw [List.length_cons]; omega)
     dsimp only at c1
     rw [h1, e2, h3] at c1
     simp at c1
   have HR := zA hR
   clear hR
   rw [c1]
   clear c1
   go_wp2_with fail
   go_ret
   exact ⟨by rw [HR.out]; rfl, fun h => by rw [HR.out] at h; exact absurd (show (80 : Int) = 0 from h) (by decide), KeptD.of_below HBc.out hDw, below_step HB.out HBc.out⟩
  have c2 : badTop s w0d rest = false := by simpa using c1
  rw [c2]
  have hc : w0d.toList = s.first.toList ∧ (rest.length : Int) + 1 = s.heads + 2 ∧ ∃ w1d r, rest = w1d :: r ∧ nameOk w1d = true := by
   unfold badTop at c2
   simp only [Bool.not_eq_false', Bool.and_eq_true, beq_iff_eq, decide_eq_true_eq] at c2
   obtain ⟨⟨h1, h2⟩, h3⟩ := c2
   refine ⟨h1, h2, ?_⟩
   cases rest with
   | nil => cases h3
   | cons a l => exact ⟨a, l, rfl, h3⟩
  obtain ⟨h1, h2, w1d, r, rfl, h3⟩ := hc
  have HR : Aside0 (topP s (w0d :: w1d :: r) = match r.mapM numOf with | some l => (0, { s with name := w1d, head := l }) | none => (81, s)) := ⟨by
   unfold topP
   dsimp only
   rw [zC ⟨h1, by rw [List.length_cons] at h2; omega, h3⟩]⟩
  have hr1 : 1 ≤ r.length := by rw [List.length_cons] at h2; omega
  clear h1 h2 h3 c1 c2
  rw [List.length_cons] at *
  have hx1 : wc.cell? ⟨gw, 1, none⟩ = some (.string w1d) := WordsAt.cell HWc.out (i := 1) (t := w1d) rfl
  have HW2 := zA (WordsAt.tail (WordsAt.tail HWc.out))
  have z6 := bk6 HKc.out
  have hrz : (r.length = 0) = False := eq_false (by omega)
  have hr2 := eq_true (show (2 : Int) ≤ (r.length : Int) + 1 + 1 by omega)
  have hr3 := eq_true (show (1 : Int) < (r.length : Int) + 1 + 1 by omega)
  go_wp2_with fail
  have HK1 := zA (show (wc.setCell ⟨gp, 3, none⟩ (.string w1d)).heap[gp]? = some (.cells #[.bool s.code, .string s.first, .int .i64 s.heads, .string w1d, .slice none 0 0, .slice none 0 0] 60 (0, 0)) from blk_put HKc.out 3 _ rfl)
  have HKp := zA ((KeptD.of_below (gp := gp) HBc.out hDw).set 3 (.string w1d))
  have HB1 := zA ((below_step HB.out HBc.out).setCell (p := ⟨gp, 3, none⟩) hD (.string w1d))
  have HWr := zA (show WordsAt gw 2 r (wc.setCell ⟨gp, 3, none⟩ (.string w1d)) by
   obtain ⟨cs, hk, hcs⟩ := HW2.out
   refine ⟨cs, (heap_setCell_other _ _ _ _ (fun e => ?_)).trans hk, hcs⟩
   subst e
   have := HKc.out.symm.trans hk
   simp at this)
  have hDc : D ≤ (wc.setCell ⟨gp, 3, none⟩ (.string w1d)).heap.size := Nat.le_trans hDw HKp.out.1
  generalize wc.setCell ⟨gp, 3, none⟩ (.string w1d) = w4 at HK1 HKp HB1 HWr hDc ⊢
  have HGw := zA (show ∃ cs : Array Value, w4.heap[gw]? = some (.cells cs 9 (0, 0)) ∧ ∀ (i : Nat) t, r[i]? = some t → cs[2 + i]? = some (.string t) from HWr.out)
  clear z6 hx1 hrz hr2 hr3 HKc HWc HW2 HBc
  go_loopg [43] r.length (fun kq v43 w' => ∃ (j : Nat) (l : List Int) (vh : Value), v43 = .int .i64 (j : Int) ∧ Aside0 (kq + j = r.length) ∧ Aside0 (w'.heap[gp]? = some (.cells #[.bool s.code, .string s.first, .int .i64 s.heads, .string w1d, vh, .slice none 0 0] 60 (0, 0))) ∧ Aside0 (Kd.R (Kd.int .i64) 3 w' D (fun _ => True) vh l) ∧ Aside0 (WordsAt gw 2 r w') ∧ Aside0 (KeptD gp D w w') ∧ Aside0 (Below w0.heap.size w0 w') ∧ Aside0 (r.mapM numOf = ((r.drop j).mapM numOf).map (l ++ ·)) ∧ Aside0 (l.length = j))
  case atStart => exact ⟨0, [], .slice none 0 0, by first | rfl | simp, ⟨by omega⟩, HK1, ⟨Kd.R_nil _ _ _ _ _⟩, HWr, HKp, HB1, ⟨by simp⟩, ⟨rfl⟩⟩
  case round =>
   clear HK1 HKp HB1 HWr HGw
   obtain ⟨j, l, vh, rfl, HJ, HK1, HRw, HWr, HKp, HB1, HM, HL⟩ := hrel
   have hDr : D ≤ wr.heap.size := Nat.le_trans hDw HKp.out.1
   cases gk with
   | zero =>
    have hj : j = r.length := by have := HJ.out; omega
    have d1b := zG (show ¬ ((j : Int) < (r.length : Int)) by omega)
    have d1c := zG (show ¬ (j < r.length) by omega)
    have HR2 := zA (show topP s (w0d :: w1d :: r) = (0, { s with name := w1d, head := l }) from by
     rw [HR.out, HM.out, hj, List.drop_length]
     simp)
    go_wp2_with fail
    go_ret
    refine ⟨by rw [HR2.out]; rfl, fun _ => ?_, HKp.out, HB1.out⟩
    rw [HR2.out]
    exact ⟨lt, vh, .slice none 0 0, HK1.out, HRw.out, by show Kd.S _ _ _ _ _ _ s.blocks; rw [hbk]; exact Kd.S_nil _ _ _ _ _⟩
   | succ k2 =>
    have hj : j < r.length := by have := HJ.out; omega
    have d1b := zF (show ((j : Int) < (r.length : Int)) by omega)
    have d1c := zF hj
    obtain ⟨t, ht⟩ : ∃ t, r[j]? = some t := ⟨_, List.getElem?_eq_getElem hj⟩
    have hts := HWs.out t (List.mem_cons_of_mem _ (List.mem_cons_of_mem _ (List.mem_of_getElem? ht)))
    have hx1 := WordsAt.cell HWr.out ht
    have HMM := zA (HM.out.trans (congrArg (Option.map (l ++ ·)) (mapM_at ht)))
    have HLr := zA (HLd.out.below HB1.out)
    clear ht
    cases hnm : numOf t with
    | none =>
     have HNm := zA hnm
     have HR1 := zA (show topP s (w0d :: w1d :: r) = (81, s) by rw [HR.out, HMM.out, hnm]; rfl)
     clear hnm
     go_wp2_with (go_at_call 56; refine (textnumber_calls t wr HLr.out (by omega)).mono ?_; rintro e w5 ⟨n, rfl, _, hb⟩; rw [HNm.out]; have HB5 := zA hb; clear hb hx1)
     go_ret
     exact ⟨by rw [HR1.out]; rfl, fun h => by rw [HR1.out] at h; exact absurd (show (81 : Int) = 0 from h) (by decide), HKp.out.trans (KeptD.of_below HB5.out hDr), below_step HB1.out HB5.out⟩
    | some v =>
     have HNm := zA hnm
     have HM2 : Aside0 (r.mapM numOf = ((r.drop (j + 1)).mapM numOf).map ((l ++ [v]) ++ ·)) := ⟨by
      rw [HMM.out, hnm]
      cases (r.drop (j + 1)).mapM numOf <;> simp⟩
     clear hnm
     have hll : l.length ≤ 95000 := by have := HL.out; omega
     have HE := zA (show (l ++ [v]).length = l.length + 1 from by simp)
     go_wp2_with (first
      | (go_at_call 56; refine (textnumber_calls t wr HLr.out (by omega)).mono ?_; rintro e w5 ⟨n, rfl, hv, hb⟩; obtain rfl := hv v HNm.out; rw [HNm.out]; have HB5 := zA hb; have hk5 := blk_below HK1.out hb; have z5 := bk6 hk5; have HK5 := zA hk5; have HR5 := zA (Kd.R_below HRw.out hb); clear hb hx1 hk5 hv)
      | ((with_reducible refine gate_builtin (b := .append) (xs := #[.tmp 58, .tmp 60]) rfl ?_); at_builtin; (refine Kd.R_append (Kd.int .i64) (w0 := w5) D rfl (.tmp 58) (.tmp 60) 41 3 (.int .i64 0) 8 rfl Tryd.underlying41 info3 rfl (by decide) (by omega) vh l n [.int .i64 n] (fun _ => True) (fun _ => False) rfl rfl ?aP (fun _ hk => hk.elim) ?aF ?aO ?aB ?aS ?aL ?_; (case aP => exact rfl); (case aF => exact fun _ _ => trivial); (case aO => exact HR5.out); (case aB => exact Below.refl _ _); (case aS => exact Nat.le_trans hDr HB5.out.size); (case aL => omega); intro v1 w6 ho3 hb3 hg3 _; obtain ⟨A1, c1, rfl⟩ := Kd.R_slice ho3; rw [HE.out] at ho3; have hk6 := (hb3.block gp lt).trans HK5.out; have z6 := bk6 hk6; have HK6 := zA hk6; have HR6 := zA ho3; have HB6 := zA hb3; have HW6 := zA (show WordsAt gw 2 r w6 by obtain ⟨cs, hk, hcs⟩ := HWr.out; exact ⟨cs, (hg3.block gw (blk_lt (blk_below hk HB5.out)) (fun e => by obtain ⟨c2, h2⟩ := Kd.R_typed HR5.out gw e.symm; have := (blk_below hk HB5.out).symm.trans h2; simp at this)).trans (blk_below hk HB5.out), hcs⟩); clear ho3 hb3 hg3 z5 hk6)))
     have HNe := zA (show gw ≠ gp by intro e; subst e; obtain ⟨cs, hk, _⟩ := HW6.out; have := HK6.out.symm.trans hk; simp at this)
     go_roundg k2
     case measure => have := HJ.out; omega
     case rel => exact ⟨j + 1, l ++ [n], _, by go_num, ⟨by have := HJ.out; omega⟩, ⟨blk_put HK6.out 4 _ rfl⟩, ⟨Kd.R_set HR6.out HK6.out (by decide) 4 _⟩, ⟨by obtain ⟨cs, hk, hcs⟩ := HW6.out; exact ⟨cs, (heap_setCell_other _ _ _ _ HNe.out).trans hk, hcs⟩⟩, ⟨((HKp.out.trans (KeptD.of_below HB5.out hDr)).trans (KeptD.of_below HB6.out (Nat.le_refl D))).set 4 _⟩, ⟨((below_step HB1.out HB5.out).trans (HB6.out.mono (Nat.le_trans hD (Nat.le_of_lt lt)))).setCell (p := ⟨gp, 4, none⟩) hD _⟩, HM2, ⟨by rw [List.length_append, HL.out]; rfl⟩⟩
end Go.Proofs.YtniknpjeknmpjaaDoor.Q
namespace Go.Proofs.YtniknpjeknmpjaaDoor.Q
open Go.RowKit Go.Shelf Go.Proofs.YtniknpjeknmpjaaDoor.Plain Go.Proofs.YtniknpjeknmpjaaDoor.PlainName Go.Proofs.YtniknpjeknmpjaaDoorW.PrintWords Go.Proofs.YtniknpjeknmpjaaDoorW.PrintLast Go.Proofs.YtniknpjeknmpjaaDoorW.PrintMore
set_option linter.unusedVariables false
set_option linter.unusedSimpArgs false
attribute [local go_sem] Oper.semAt_some
def wholeB (l : ByteArray) : Bool := Lib.hasSuffix l.data.toList [10]
def trimB (l : ByteArray) : ByteArray := ⟨(Lib.trimSuffix l.data.toList [10]).toArray⟩
def stepP (n : Nat) (st : PS) (l : ByteArray) : Int × PS := if wholeB l = false then (80, st) else if n = 0 then topP st (wordsOf (trimB l)) else lineP st (wordsOf (trimB l))
def parseR : Nat → Nat → PS → ByteArray → Int × Int × PS
 | 0, _, st, _ => (0, 0, st)
 | k + 1, n, st, s => if s.size = 0 then (0, 0, st) else
  if (stepP n st (cutB s).1).1 = 0 then parseR k (n + 1) (stepP n st (cutB s).1).2 (cutB s).2 else ((n + 1 : Nat), (stepP n st (cutB s).1).1, st)
def TakenAt (D gp n : Nat) (st : PS) (W : World) : Prop :=
 if n = 0 then gp < D ∧ W.heap[gp]? = some (.cells #[.bool st.code, .string st.first, .int .i64 st.heads, .string st.name, .slice none 0 0, .slice none 0 0] 60 (0, 0)) ∧ st.head = [] ∧ st.blocks = [] else PsAt D gp st W
structure PB (gp g2 g4 g5 g6 B D : Nat) (w0 : World) (c n : Nat) (st : PS) (sB : ByteArray) (W : World) : Prop where
 b2 : W.heap[g2]? = some (.cells #[.pointer (some ⟨gp, 0, none⟩)] 58 (0, 0))
 b4 : W.heap[g4]? = some (.cells #[.int .i64 0] 3 (0, 0))
 b5 : W.heap[g5]? = some (.cells #[.int .i64 0] 26 (0, 0))
 b6 : W.heap[g6]? = some (.cells #[.int .i64 (c : Int)] 3 (0, 0))
 bB : W.heap[B]? = some (.cells #[.string sB] 9 (0, 0))
 tk : TakenAt D gp n st W
 hD : D ≤ W.heap.size
 bl : Below w0.heap.size w0 W
 hh : 1 ≤ st.heads ∧ st.heads ≤ 100
 hb : st.blocks.length ≤ n
 hbb : ∀ b ∈ st.blocks, b.length ≤ n
structure Ord (gp g2 g4 g5 g6 B D : Nat) (w0 : World) : Prop where
 o0 : w0.heap.size ≤ gp
 o1 : gp < g2
 o2 : g2 < g4
 o3 : g4 < g5
 o4 : g5 < g6
 o5 : g6 < B
 o6 : B + 1 < D
theorem TakenAt.move {D gp n : Nat} {st : PS} {W W' : World} (h : TakenAt D gp n st W) (hsz : W.heap.size ≤ W'.heap.size) (hm : ∀ k, k = gp ∨ D ≤ k → k < W.heap.size → W'.heap[k]? = W.heap[k]?) : TakenAt D gp n st W' := by
 unfold TakenAt at *
 split at h
 ·next h0 => rw [zC h0]; exact ⟨h.1, (hm gp (.inl rfl) (blk_lt h.2.1)).trans h.2.1, h.2.2⟩
 ·next h0 =>
  rw [zD h0]
  obtain ⟨lt, vh, vb, hk, hr, hs⟩ := h
  exact ⟨lt, vh, vb, (hm gp (.inl rfl) (blk_lt hk)).trans hk, Kd.R_mono (Kd.R_step (Kd.R_bound hr) (fun k hk hl => hm k (.inr hk.2.1) hl)) (fun k hk => hk.1), Kd.S_mono (Kd.S_step (Kd.S_bound hs) (fun k hk hl => hm k (.inr hk.2.1) hl)) (fun k hk => hk.1)⟩
section
variable {gp g2 g4 g5 g6 B D c n : Nat} {w0 W W' : World} {st : PS} {sB : ByteArray}
theorem PB.put (h : PB gp g2 g4 g5 g6 B D w0 c n st sB W) (ho : Ord gp g2 g4 g5 g6 B D w0) {j : Nat} {o : Obj} (h1 : B < j) (h2 : j < D) : PB gp g2 g4 g5 g6 B D w0 c n st sB (W.putObj j o) := by
 have hne : ∀ k, k ≠ j → (W.putObj j o).heap[k]? = W.heap[k]? := fun k hk => World.putObj_heap_other hk
 have := ho.o1; have := ho.o2; have := ho.o3; have := ho.o4; have := ho.o5; have := ho.o0
 have hsz : (W.putObj j o).heap.size = W.heap.size := by simp [World.putObj]
 exact ⟨(hne _ (by omega)).trans h.b2, (hne _ (by omega)).trans h.b4, (hne _ (by omega)).trans h.b5, (hne _ (by omega)).trans h.b6, (hne _ (by omega)).trans h.bB, h.tk.move (Nat.le_of_eq hsz.symm) (fun k hk _ => hne k (by omega)), by rw [hsz]; exact h.hD,
  h.bl.trans ((Below.refl _ W).grown (grownBy_putObj' W j o) h.bl.size (fun k e => by cases e; omega)), h.hh, h.hb, h.hbb⟩
theorem PB.drew (h : PB gp g2 g4 g5 g6 B D w0 c n st sB W) : PB gp g2 g4 g5 g6 B D w0 c n st sB W.drew :=
 ⟨h.b2, h.b4, h.b5, h.b6, h.bB, h.tk.move (Nat.le_refl _) (fun _ _ _ => rfl), h.hD, below_drew h.bl, h.hh, h.hb, h.hbb⟩
theorem PB.setB (h : PB gp g2 g4 g5 g6 B D w0 c n st sB W) (ho : Ord gp g2 g4 g5 g6 B D w0) (s' : ByteArray) : PB gp g2 g4 g5 g6 B D w0 c n st s' (W.setCell ⟨B, 0, none⟩ (.string s')) := by
 have hne : ∀ k, k ≠ B → (W.setCell ⟨B, 0, none⟩ (.string s')).heap[k]? = W.heap[k]? := fun k hk => heap_setCell_other _ _ _ _ hk
 have := ho.o1; have := ho.o2; have := ho.o3; have := ho.o4; have := ho.o5; have := ho.o0; have := ho.o6
 have hsz : (W.setCell ⟨B, 0, none⟩ (.string s')).heap.size = W.heap.size := by simp [World.setCell]
 exact ⟨(hne _ (by omega)).trans h.b2, (hne _ (by omega)).trans h.b4, (hne _ (by omega)).trans h.b5, (hne _ (by omega)).trans h.b6, blk_put h.bB 0 _ rfl, h.tk.move (Nat.le_of_eq hsz.symm) (fun k hk _ => hne k (by omega)), by rw [hsz]; exact h.hD, h.bl.setCell (p := ⟨B, 0, none⟩) (by show _ ≤ B; omega) _, h.hh, h.hb, h.hbb⟩
theorem PB.below (h : PB gp g2 g4 g5 g6 B D w0 c n st sB W) (hb : Below W.heap.size W W') : PB gp g2 g4 g5 g6 B D w0 c n st sB W' :=
 ⟨blk_below h.b2 hb, blk_below h.b4 hb, blk_below h.b5 hb, blk_below h.b6 hb, blk_below h.bB hb, h.tk.move hb.size (fun k _ hl => hb.block k hl), Nat.le_trans h.hD hb.size, below_step h.bl hb, h.hh, h.hb, h.hbb⟩
theorem PB.inc (h : PB gp g2 g4 g5 g6 B D w0 c n st sB W) (ho : Ord gp g2 g4 g5 g6 B D w0) (c' : Nat) (x : Int) (hx : x = (c' : Int)) : PB gp g2 g4 g5 g6 B D w0 c' n st sB (W.setCell ⟨g6, 0, none⟩ (.int .i64 x)) := by
 subst hx
 have hne : ∀ k, k ≠ g6 → (W.setCell ⟨g6, 0, none⟩ (.int .i64 (c' : Int))).heap[k]? = W.heap[k]? := fun k hk => heap_setCell_other _ _ _ _ hk
 have := ho.o1; have := ho.o2; have := ho.o3; have := ho.o4; have := ho.o5; have := ho.o0; have := ho.o6
 have hsz : (W.setCell ⟨g6, 0, none⟩ (.int .i64 (c' : Int))).heap.size = W.heap.size := by simp [World.setCell]
 exact ⟨(hne _ (by omega)).trans h.b2, (hne _ (by omega)).trans h.b4, (hne _ (by omega)).trans h.b5, blk_put h.b6 0 _ rfl, (hne _ (by omega)).trans h.bB, h.tk.move (Nat.le_of_eq hsz.symm) (fun k hk _ => hne k (by omega)), by rw [hsz]; exact h.hD, h.bl.setCell (p := ⟨g6, 0, none⟩) (by show _ ≤ g6; omega) _, h.hh, h.hb, h.hbb⟩
theorem PB.took (h : PB gp g2 g4 g5 g6 B D w0 c n st sB W) (ho : Ord gp g2 g4 g5 g6 B D w0) {st2 : PS} (hk : KeptD gp D W W') (hbl : Below w0.heap.size w0 W') (hp : PsAt D gp st2 W') (k1 : st2.heads = st.heads) (k2 : st2.blocks.length ≤ n + 1) (k3 : ∀ b ∈ st2.blocks, b.length ≤ n + 1) : PB gp g2 g4 g5 g6 B D w0 c (n + 1) st2 sB W' := by
 have := ho.o1; have := ho.o2; have := ho.o3; have := ho.o4; have := ho.o5; have := ho.o0; have := ho.o6
 have mv : ∀ {k : Nat} {o : Obj}, k < D → k ≠ gp → W.heap[k]? = some o → W'.heap[k]? = some o := fun h1 h2 h3 => (hk.2 _ h1 h2 (blk_lt h3)).trans h3
 exact ⟨mv (by omega) (by omega) h.b2, mv (by omega) (by omega) h.b4, mv (by omega) (by omega) h.b5, mv (by omega) (by omega) h.b6, mv (by omega) (by omega) h.bB, by unfold TakenAt; rw [zD (Nat.succ_ne_zero n)]; exact hp, Nat.le_trans h.hD hk.1, hbl, by rw [k1]; exact h.hh, k2, k3⟩
theorem PB.stop (b4 : W.heap[g4]? = some (.cells #[.int .i64 0] 3 (0, 0))) (b5 : W.heap[g5]? = some (.cells #[.int .i64 0] 26 (0, 0))) (hbl : Below w0.heap.size w0 W) (ho : Ord gp g2 g4 g5 g6 B D w0) (x y : Int) :
 ((W.setCell ⟨g4, 0, none⟩ (.int .i64 x)).setCell ⟨g5, 0, none⟩ (.int .i64 y)).heap[g4]? = some (.cells #[.int .i64 x] 3 (0, 0)) ∧ ((W.setCell ⟨g4, 0, none⟩ (.int .i64 x)).setCell ⟨g5, 0, none⟩ (.int .i64 y)).heap[g5]? = some (.cells #[.int .i64 y] 26 (0, 0)) ∧ Below w0.heap.size w0 ((W.setCell ⟨g4, 0, none⟩ (.int .i64 x)).setCell ⟨g5, 0, none⟩ (.int .i64 y)) ∧ ∀ k, k ≠ g4 → k ≠ g5 → ((W.setCell ⟨g4, 0, none⟩ (.int .i64 x)).setCell ⟨g5, 0, none⟩ (.int .i64 y)).heap[k]? = W.heap[k]? := by
 have := ho.o1; have := ho.o2; have := ho.o3; have := ho.o0
 refine ⟨(heap_setCell_other _ _ _ _ (by show g4 ≠ g5; omega)).trans (blk_put b4 0 _ rfl), ?_, ?_, fun k h1 h2 => (heap_setCell_other _ _ _ _ h2).trans (heap_setCell_other _ _ _ _ h1)⟩
 ·exact blk_put (cs := #[.int .i64 0]) ((heap_setCell_other W ⟨g4, 0, none⟩ _ _ (by show g5 ≠ g4; omega)).trans b5) 0 _ rfl
 ·exact (hbl.setCell (p := ⟨g4, 0, none⟩) (by show _ ≤ g4; omega) _).setCell (p := ⟨g5, 0, none⟩) (by show _ ≤ g5; omega) _
theorem PB.ps (h : PB gp g2 g4 g5 g6 B D w0 c n st sB W) (hn : n ≠ 0) : PsAt D gp st W := by have := h.tk; unfold TakenAt at this; rwa [zD hn] at this
theorem PB.fresh (h : PB gp g2 g4 g5 g6 B D w0 c n st sB W) (hn : n = 0) : gp < D ∧ W.heap[gp]? = some (.cells #[.bool st.code, .string st.first, .int .i64 st.heads, .string st.name, .slice none 0 0, .slice none 0 0] 60 (0, 0)) ∧ st.head = [] ∧ st.blocks = [] := by have := h.tk; unfold TakenAt at this; rwa [zC hn] at this
end
theorem PsAt.move {D gp : Nat} {st : PS} {W W' : World} (h : PsAt D gp st W) (hm : ∀ k, k = gp ∨ D ≤ k → k < W.heap.size → W'.heap[k]? = W.heap[k]?) : PsAt D gp st W' := by
 obtain ⟨lt, vh, vb, hk, hr, hs⟩ := h
 exact ⟨lt, vh, vb, (hm gp (.inl rfl) (blk_lt hk)).trans hk, Kd.R_mono (Kd.R_step (Kd.R_bound hr) (fun k hk hl => hm k (.inr hk.2.1) hl)) (fun k hk => hk.1), Kd.S_mono (Kd.S_step (Kd.S_bound hs) (fun k hk hl => hm k (.inr hk.2.1) hl)) (fun k hk => hk.1)⟩
theorem cut_at (l : ByteArray) (w : World) (h : l.size ≤ 90000) : Calls Tryd.prog 39 #[.string l, .string ⟨#[10]⟩] w fun e w' => e = .returned (.tuple #[.string (trimB l), .bool (wholeB l)]) ∧ w' = w := Any.strings_CutSuffix Tryd.lays104 l ⟨#[10]⟩ w (by omega)
theorem trimB_le (l : ByteArray) : (trimB l).size ≤ l.size := by
 have h : (trimB l).data.toList.length ≤ l.data.toList.length := by
  show (Lib.trimSuffix l.data.toList [10]).toArray.toList.length ≤ _
  unfold Lib.trimSuffix
  split
  ·simp
  ·simp
 simpa using h
theorem cutB_le (s : ByteArray) : (cutB s).1.size ≤ s.size := by
 unfold cutB
 split
 ·simp only [ByteArray.size_extract]; omega
 ·exact Nat.le_refl _
theorem wordsOf_ne (s : ByteArray) : wordsOf s ≠ [] := fun h => by have := wordsOf_len s; rw [h] at this; cases this
theorem splitB_lenle (s : ByteArray) : (wordsOf s).length ≤ s.size + 1 := by
 rw [wordsOf_len]
 exact Nat.succ_le_succ (Lib.countB_le blank1 (by decide) s.size s (Nat.le_refl _))
def parseAll (st : PS) (s : ByteArray) : Int × Int × PS := if s.size = 0 then (1, 80, st) else parseR (s.size + 1) 0 st s
set_option maxHeartbeats 1000000 in
theorem lines_calls (s : ByteArray) (w : World) : Calls Tryd.prog 38 #[.string s] w fun e w' => e = .returned (.func (.func 52) #[] #[.pointer (some ⟨w.heap.size, 0, none⟩)]) ∧ w' = w.alloc (.cells #[.string s] 9 (0, 0)) := by
 have hmf : ∀ (fn : Fn) (first cap : Array Value) (w : World), (Instr.makeFunc fn first cap).run Tryd.prog w = .ok (.func fn first cap) w := fun _ _ _ _ => rfl
 go_enter Tryd.func38, Tryd.ntmps38
 go_wp2
 go_ret
 exact ⟨rfl, rfl⟩
theorem parse_results {tmps : Array Value} {g4 g5 : Nat} {x y : Int} {W : World} (h4 : tmps[4]? = some (.pointer (some ⟨g4, 0, none⟩))) (h5 : tmps[5]? = some (.pointer (some ⟨g5, 0, none⟩))) (c4 : W.heap[g4]? = some (.cells #[.int .i64 x] 3 (0, 0))) (c5 : W.heap[g5]? = some (.cells #[.int .i64 y] 26 (0, 0))) :
 (results Tryd.f22 tmps).run Tryd.prog W = .ok (.tuple #[.int .i64 x, .int .i64 y]) W := by
 have l4 : W.cell? ⟨g4, 0, none⟩ = some (.int .i64 x) := blk_cell c4 0
 have l5 : W.cell? ⟨g5, 0, none⟩ = some (.int .i64 y) := blk_cell c5 0
 simp [results, Tryd.f22, go_sem, h4, h5, l4, l5]
theorem topP_keep (s : PS) (ws : List ByteArray) : (topP s ws).2.heads = s.heads ∧ (topP s ws).2.blocks = s.blocks := by
 unfold topP
 repeat' split
 all_goals exact ⟨rfl, rfl⟩
theorem lineP_keep (s : PS) (ws : List ByteArray) {n : Nat} (hb : s.blocks.length ≤ n) (hbb : ∀ b ∈ s.blocks, b.length ≤ n) : (lineP s ws).2.heads = s.heads ∧ (lineP s ws).2.blocks.length ≤ n + 1 ∧ ∀ b ∈ (lineP s ws).2.blocks, b.length ≤ n + 1 := by
 have same : s.heads = s.heads ∧ s.blocks.length ≤ n + 1 ∧ ∀ b ∈ s.blocks, b.length ≤ n + 1 := ⟨rfl, by omega, fun b h => by have := hbb b h; omega⟩
 unfold lineP
 split
 ·exact same
 ·split
  ·refine ⟨rfl, by simp; omega, fun b h => ?_⟩
   rcases List.mem_append.1 h with h | h
   ·exact same.2.2 b h
   ·rw [List.mem_singleton.1 h]; simp
  ·split
   ·exact same
   ·split
    ·exact same
    ·split
     ·exact same
     ·split
      ·refine ⟨rfl, by simp; omega, fun b h => ?_⟩
       rcases List.mem_or_eq_of_mem_set h with h | h
       ·exact same.2.2 b h
       ·rw [h, List.length_append]
        have : (s.blocks.getD (s.blocks.length - 1) []).length ≤ n := by
         by_cases hl : s.blocks.length - 1 < s.blocks.length
         ·rw [List.getD_eq_getElem?_getD, List.getElem?_eq_getElem hl]; exact hbb _ (List.getElem_mem hl)
         ·rw [List.getD_eq_getElem?_getD, List.getElem?_eq_none (by omega)]; simp
        simp only [List.length_cons, List.length_nil]; omega
      ·exact same
theorem stepP_keep (n : Nat) (s : PS) (l : ByteArray) (hb : s.blocks.length ≤ n) (hbb : ∀ b ∈ s.blocks, b.length ≤ n) : (stepP n s l).2.heads = s.heads ∧ (stepP n s l).2.blocks.length ≤ n + 1 ∧ ∀ b ∈ (stepP n s l).2.blocks, b.length ≤ n + 1 := by
 unfold stepP
 split
 ·exact ⟨rfl, Nat.le_succ_of_le hb, fun b h => by have := hbb b h; omega⟩
 ·split
  ·obtain ⟨h1, h2⟩ := topP_keep s (wordsOf (trimB l)); rw [h2]; exact ⟨h1, Nat.le_succ_of_le hb, fun b h => by have := hbb b h; omega⟩
  ·exact lineP_keep s _ hb hbb
theorem zip1 (t : Array Value) (p : Tmp) (v : Value) : ((#[p] : Array Tmp).zip #[v]).foldl (fun t (p, v) => t.setIfInBounds p v) t = t.setIfInBounds p v := by simp
theorem eqne (E : Int) : (E = 0 ∧ True) ∨ (¬ E = 0 ∧ (E == 0) = false ∧ (E != 0) = true ∧ decide (E = 0) = false) := by
 by_cases h : E = 0
 ·exact .inl ⟨h, trivial⟩
 ·exact .inr ⟨h, by simpa using h, by simpa using h, zG h⟩
theorem new_at {w : World} {o : Obj} {k : Nat} (h : k = w.heap.size) : (w.alloc o).heap[k]? = some o := by rw [h]; exact World.alloc_heap_new w o
theorem old_at {w : World} {o : Obj} {k : Nat} {x : Obj} (h : w.heap[k]? = some x) : (w.alloc o).heap[k]? = some x := (Below.heap_alloc _ _ _ (blk_lt h)).trans h
theorem leaves_ret {tmps : Array Value} {R : Ending → World → Prop} {g4 g5 : Nat} {x y : Int} {W : World} (h4 : tmps[4]? = some (.pointer (some ⟨g4, 0, none⟩))) (h5 : tmps[5]? = some (.pointer (some ⟨g5, 0, none⟩))) (c4 : W.heap[g4]? = some (.cells #[.int .i64 x] 3 (0, 0))) (c5 : W.heap[g5]? = some (.cells #[.int .i64 y] 26 (0, 0))) (hR : R (.returned (.tuple #[.int .i64 x, .int .i64 y])) W) :
 bodyPostM Fence.wide 5 Tryd.prog Tryd.f22 R .ret { tmps := tmps, defers := [] } W := ⟨_, parse_results h4 h5 c4 c5, hR⟩
theorem leaves_mark {e : Exit} (he : e = .ret ∨ e = .normal) {tmps : Array Value} {R : Ending → World → Prop} {g4 g5 r : Nat} {x y : Int} {W : World} (hr : W.heap[r]? = some (.deferred (some []))) (h4 : tmps[4]? = some (.pointer (some ⟨g4, 0, none⟩))) (h5 : tmps[5]? = some (.pointer (some ⟨g5, 0, none⟩))) (c4 : W.heap[g4]? = some (.cells #[.int .i64 x] 3 (0, 0))) (c5 : W.heap[g5]? = some (.cells #[.int .i64 y] 26 (0, 0))) (hR : R (.returned (.tuple #[.int .i64 x, .int .i64 y])) (W.putObj r (.deferred none))) :
 bodyPostM Fence.wide 5 Tryd.prog Tryd.f22 R e { tmps := tmps, defers := [{ target := .collected r, args := #[] }] } W := by
 have h1 : g4 ≠ r := fun e => by rw [e, hr] at c4; cases c4
 have h2 : g5 ≠ r := fun e => by rw [e, hr] at c5; cases c5
 have := parse_results (W := W.putObj r (.deferred none)) h4 h5 ((World.putObj_heap_other h1).trans c4) ((World.putObj_heap_other h2).trans c5)
 rcases he with rfl | rfl
 ·exact ⟨by simp, .inl ⟨r, _, rfl, run_takeDeferred hr, _, this, hR⟩⟩
 ·exact ⟨by simp, .inl ⟨r, _, rfl, run_takeDeferred hr, _, this, hR⟩⟩
set_option maxHeartbeats 8000000 in
set_option maxRecDepth 100000 in
theorem parse_calls {w0 w : World} (hL : LaidW w0) (hB : Below w0.heap.size w0 w) (gp : Nat) (hgp : w0.heap.size ≤ gp) (st : PS) (hs : w.heap[gp]? = some (.cells #[.bool st.code, .string st.first, .int .i64 st.heads, .string st.name, .slice none 0 0, .slice none 0 0] 60 (0, 0))) (hh : st.head = []) (hbk : st.blocks = []) (hhd : 1 ≤ st.heads ∧ st.heads ≤ 100) (s : ByteArray) (hsz : s.size ≤ 90000) :
 Calls Tryd.prog 22 #[.pointer (some ⟨gp, 0, none⟩), .string s] w fun e w' => e = .returned (.tuple #[.int .i64 (parseAll st s).1, .int .i64 (parseAll st s).2.1]) ∧ ((parseAll st s).2.1 = 0 → ∃ D, w.heap.size ≤ D ∧ PsAt D gp (parseAll st s).2.2 w') ∧ Below w0.heap.size w0 w' := by
 have HLd := zA hL
 have HB := zA hB
 have HK := zA hs
 clear hL hB hs
 obtain ⟨R, hR⟩ : ∃ R, R = parseAll st s := ⟨_, rfl⟩
 rw [← hR]
 have HR := zA hR
 clear hR
 refine (callsIn_wide (n := 5)).1 ?_
 refine callsIn_of_wp_marks Tryd.func22 rfl trivial ?_ rfl
 simp only [Tryd.ntmps22, List.size_toArray, List.length_cons, List.length_nil, Nat.reduceAdd, Nat.reduceSub, Array.replicate_succ, Array.replicate_zero, List.push_toArray, List.append_toArray, List.nil_append, List.cons_append]
 by_cases c1 : s.toList = []
 ·obtain ⟨c1a, c1b⟩ := qe c1
  gi_wp2
  have hR : R = (1, 80, st) := by
   have h1 := toList_data s
   rw [c1] at h1
   have h2 : s.data.toList.length = s.size := by simp
   have hz : s.size = 0 := by rw [← h2, ← h1]; rfl
   rw [HR.out]; unfold parseAll
   rw [zC hz]
  rw [hR]
  refine leaves_ret rfl rfl (x := 1) (y := 80) (old_at (new_at (by simp))) (new_at (by simp)) ⟨rfl, fun h => absurd (show (80 : Int) = 0 from h) (by decide), below_alloc (below_alloc (below_alloc HB.out _) _) _⟩
 ·obtain ⟨c1a, c1b⟩ := qn c1
  have hz0 : s.size ≠ 0 := fun h => c1 (by rw [toList_data]; exact List.eq_nil_of_length_eq_zero (by simpa using h))
  gi_wp2_with (refine ⟨trivial, ?_⟩; gi_at_call 38; refine (callsIn_wide.2 (lines_calls s _)).mono ?_; rintro e w' ⟨rfl, rfl⟩)
  obtain ⟨gA, hgA⟩ : ∃ x, x = w.heap.size := ⟨_, rfl⟩
  obtain ⟨W5, hW5⟩ : ∃ W5, W5 = (((((w.alloc (Obj.cells #[Value.pointer (some { block := gp, off := 0 })] 58)).alloc (Obj.cells #[Value.int IntKind.i64 0] 3)).alloc (Obj.cells #[Value.int IntKind.i64 0] 26)).alloc (Obj.cells #[Value.int IntKind.i64 0] 3)).alloc (Obj.cells #[Value.string s] 9)) := ⟨_, rfl⟩
  rw [← hW5, ← hgA]
  have hsz5 : W5.heap.size = gA + 5 := by rw [hW5, hgA]; simp
  have hPB : ∀ o1 o2, PB gp gA (gA + 1) (gA + 2) (gA + 3) (gA + 4) (gA + 7) w0 0 0 st s ((W5.alloc o1).alloc o2) := by
   intro o1 o2
   rw [hW5]
   subst hgA
   refine ⟨old_at (old_at (old_at (old_at (old_at (old_at (new_at rfl)))))), old_at (old_at (old_at (old_at (old_at (new_at (by simp)))))), old_at (old_at (old_at (old_at (new_at (by simp))))), old_at (old_at (old_at (new_at (by simp)))), old_at (old_at (new_at (by simp))), ?_, by simp, ?_, hhd, by rw [hbk]; exact Nat.le_refl _, by rw [hbk]; intro b hb; cases hb⟩
   ·unfold TakenAt
    rw [zC rfl]
    exact ⟨by have := blk_lt HK.out; omega, old_at (old_at (old_at (old_at (old_at (old_at (old_at HK.out)))))), hh, hbk⟩
   ·exact below_alloc (below_alloc (below_alloc (below_alloc (below_alloc (below_alloc (below_alloc HB.out _) _) _) _) _) _) _
  have hord : Ord gp gA (gA + 1) (gA + 2) (gA + 3) (gA + 4) (gA + 7) w0 := ⟨hgp, by rw [hgA]; exact blk_lt HK.out, by omega, by omega, by omega, by omega, by omega⟩
  have HPB := zA hPB
  have HgA := zA hgA
  have HS5 := zA hsz5
  have HO := zA hord
  clear hPB hW5 hgA
  refine wpIn_lines (B := gA + 4) (by omega) rfl rfl
   (fun s' W => ∃ n st' k, PB gp gA (gA + 1) (gA + 2) (gA + 3) (gA + 4) (gA + 7) w0 n n st' s' W ∧ (n = 0 → s'.size ≠ 0) ∧ R = parseR (k + 1) n st' s' ∧ s'.size ≤ k ∧ n + s'.size ≤ 90000)
   (fun s' W => s'.size ≠ 0 ∧ ∃ n st' k, PB gp gA (gA + 1) (gA + 2) (gA + 3) (gA + 4) (gA + 7) w0 n n st' (cutB s').2 W ∧ R = parseR (k + 1) n st' s' ∧ s'.size ≤ k ∧ n + s'.size ≤ 90000)
   (fun c W => c = .ret ∧ R.2.1 ≠ 0 ∧ W.heap[gA + 1]? = some (.cells #[.int .i64 R.1] 3 (0, 0)) ∧ W.heap[gA + 2]? = some (.cells #[.int .i64 R.2.1] 26 (0, 0)) ∧ Below w0.heap.size w0 W)
   ?_ (by rw [hsz5]; omega) ?_ ?_ ?_ ?_ ?_ s ?_ (fun x => { tmps := #[Value.pointer (some { block := gp, off := 0 }), Value.string s, Value.pointer (some { block := gA, off := 0 }), undef, Value.pointer (some { block := gA + 1, off := 0 }), Value.pointer (some { block := gA + 2, off := 0 }), Value.pointer (some { block := gA + 3, off := 0 }), Value.string x, undef, undef, undef, undef, Value.string s, Value.bool false, Value.string s, Value.func (Fn.func 52) #[] #[Value.pointer (some { block := gA + 4, off := 0 })], Value.string x, undef, undef, undef, undef, undef, undef, undef, undef, undef, undef, undef, undef, undef, undef, undef, undef, undef, undef, undef, undef, undef, undef, undef, undef], defers := [] }) ?_ ?_ ?_ ?_
  ·rintro s' W ⟨n, st', k, h, hn, hr, h1, h2⟩
   exact ⟨blk_cell h.bB 0, blk_frozen h.bB 0, by omega⟩
  ·rintro s' W ⟨n, st', k, h, hn, hr, h1, h2⟩
   exact ⟨n, st', k, h.drew, hn, hr, h1, h2⟩
  ·rintro s' W ⟨n, st', k, h, hn, hr, h1, h2⟩ hz
   exact ⟨hz, n, st', k, h.setB hord _, hr, h1, h2⟩
  ·rintro s' W j o hj1 hj2 ⟨n, st', k, h, hn, hr, h1, h2⟩
   exact ⟨n, st', k, h.put hord (by omega) (by omega), hn, hr, h1, h2⟩
  ·rintro s' W j o hj1 hj2 ⟨hz, n, st', k, h, hr, h1, h2⟩
   exact ⟨hz, n, st', k, h.put hord (by omega) (by omega), hr, h1, h2⟩
  ·rintro c W j o hj1 hj2 ⟨rfl, h1, h2, h3, h4⟩
   refine ⟨rfl, h1, (World.putObj_heap_other (by omega)).trans h2, (World.putObj_heap_other (by omega)).trans h3, ?_⟩
   have := hord.o0; have := hord.o1
   exact h4.trans ((Below.refl _ W).grown (grownBy_putObj' W j o) h4.size (fun k e => by cases e; omega))
  ·intro o1 o2
   refine ⟨0, st, s.size, HPB.out o1 o2, fun _ => hz0, ?_, Nat.le_refl _, by omega⟩
   rw [HR.out]; unfold parseAll; rw [zD hz0]
  ·clear hsz5 hord
   intro l x W K hk
   rw [zip1]
   simp only [List.setIfInBounds_toArray, List.set_cons_succ, List.set_cons_zero]
   gi_wp2
   exact hk
  ·clear hsz5 hord
   rintro l s' W ⟨hz, n, st', k, h, hr, h1, h2⟩
   obtain ⟨L, hL⟩ : ∃ L, L = (cutB s').1 := ⟨_, rfl⟩
   have hLs : L.size ≤ 90000 := by rw [hL]; have := cutB_le s'; omega
   have htl := Nat.le_trans (trimB_le L) hLs
   have hws := splitB_lenle (trimB L)
   have HWS := zA (wordsOf_small (trimB L))
   obtain ⟨k', rfl⟩ : ∃ k', k = k' + 1 := ⟨k - 1, by omega⟩
   have hcl := cutB_less hz
   have hrr : R = if (stepP n st' L).1 = 0 then parseR (k' + 1) (n + 1) (stepP n st' L).2 (cutB s').2 else (((n + 1 : Nat) : Int), (stepP n st' L).1, st') := by rw [hr, hL]; conv => lhs; unfold parseR; rw [zD hz]
   obtain ⟨sk1, sk2, sk3⟩ := stepP_keep n st' L h.hb h.hbb
   have HR2 := zA hrr
   have HSK := zA (And.intro sk1 (And.intro sk2 sk3))
   have hstn : n + 1 ≤ 90000 := by omega
   clear hr hrr sk1 sk2 sk3
   rw [← hL]
   have HL := zA hL
   clear hL
   have HI := zA (h.inc HO.out (n + 1) ((n : Int) + 1) (by omega))
   have HS1 := zA (show ∀ k, k ≠ gA + 3 → (W.setCell ⟨gA + 3, 0, none⟩ (.int .i64 ((n : Int) + 1))).heap[k]? = W.heap[k]? from fun k hk => heap_setCell_other _ _ _ _ hk)
   have z2 := bk1 h.b2
   have z4 := bk1 h.b4
   have z5 := bk1 h.b5
   have z6 := bk1 h.b6
   have HPBn := zA h
   clear h hcl
   cases cw : wholeB L with
   | false =>
    gi_wp2_with (refine ⟨trivial, ?_⟩; gi_at_call 39; refine (CallsIn.inRound l (callsIn_wide.2 (cut_at L _ hLs))).mono ?_; rintro e w' ⟨rfl, rfl⟩; rw [cw])
    have hst : stepP n st' L = (80, st') := by unfold stepP; rw [zC cw]
    have hRR : R = (((n + 1 : Nat) : Int), 80, st') := by rw [HR2.out, hst]; exact zD (show ¬ (80 : Int) = 0 by decide)
    have HX := zA (And.intro HI.out.b4 (And.intro HI.out.b5 HI.out.bl))
    have HXS := zA (fun k (h1 : gA + 5 ≤ k) (h2 : k ≤ gA + 6) => HS1.out k (by omega))
    have hs5 := HS5.out
    obtain ⟨s1, s2, s3, s4⟩ := PB.stop HX.out.1 HX.out.2.1 HX.out.2.2 HO.out ((n : Int) + 1) 80
    refine ⟨⟨?_, ?_⟩, rfl, by rw [hRR]; exact (by decide : ¬ (80 : Int) = 0), by rw [hRR]; exact s1, by rw [hRR]; exact s2, s3⟩
    ·exact (s4 _ (by omega) (by omega)).trans (HXS.out _ (by omega) (by omega))
    ·exact (s4 _ (by omega) (by omega)).trans (HXS.out _ (by omega) (by omega))
   | true =>
    have cwn : wholeB L ≠ false := by rw [cw]; decide
    by_cases cn : n = 0
    ·have hS : stepP n st' L = topP st' (wordsOf (trimB L)) := by unfold stepP; rw [zD cwn, zC cn]
     have HST := zA hS
     clear hS
     have CN := zA cn
     have n1a := zF (show (n : Int) + 1 = 1 by omega)
     have n1b := (show ((n : Int) + 1 == 1) = true by rw [cn]; rfl)
     clear cn
     gi_wp2_with (first
      | (refine ⟨trivial, ?_⟩; gi_at_call 39; refine (CallsIn.inRound l (callsIn_wide.2 (cut_at L _ hLs))).mono ?_; rintro e w' ⟨rfl, rfl⟩; rw [cw])
      | (refine ⟨trivial, ?_⟩; gi_at_call 40; refine (CallsIn.inRound l (callsIn_wide.2 (split_at (trimB L) _ (by omega)))).mono ?_; rintro e w1 ⟨gw, rfl, hk, hb, hgw⟩
         have HIb := zA (HI.out.below hb)
         have HXb := zA (show ∀ k, gA + 5 ≤ k → k ≤ gA + 6 → w1.heap[k]? = W.heap[k]? from fun k h1 h2 => (hb.block k (by have := HPBn.out.hD; simp [World.setCell]; omega)).trans (HS1.out k (by omega)))
         have HW := zA (show WordsAt gw 0 (wordsOf (trimB L)) w1 from ⟨_, hk, fun i t ht => by simp [ht]⟩)
         have y2 := bk1 HIb.out.b2
         have y4 := bk1 HIb.out.b4
         have y5 := bk1 HIb.out.b5
         have y6 := bk1 HIb.out.b6
         clear hk hb hgw)
      | (refine ⟨trivial, ?_⟩; gi_at_call 41; refine (CallsIn.inRound l (callsIn_wide.2 (top_calls HLd.out HIb.out.bl gp gw (gA + 7) hgp st' (HIb.out.fresh CN.out).1 (HIb.out.fresh CN.out).2.1 (HIb.out.fresh CN.out).2.2.1 (HIb.out.fresh CN.out).2.2.2 HIb.out.hh HIb.out.hD _ HW.out (wordsOf_ne _) (by omega) (fun t ht => Nat.le_trans (HWS.out t ht) (by omega))))).mono ?_; rintro e w2 ⟨rfl, hps, hkd, hbl⟩
         obtain ⟨E, hE⟩ : ∃ E, E = (topP st' (wordsOf (trimB L))).1 := ⟨_, rfl⟩
         have hpos := HO.out
         have y4' := bk1 ((hkd.2 _ (by omega) (by have := hpos.o1; omega) (blk_lt HIb.out.b4)).trans HIb.out.b4)
         have y5' := bk1 ((hkd.2 _ (by omega) (by have := hpos.o1; omega) (blk_lt HIb.out.b5)).trans HIb.out.b5)
         have y6' := bk1 ((hkd.2 _ (by omega) (by have := hpos.o1; omega) (blk_lt HIb.out.b6)).trans HIb.out.b6)
         have HX := zA (show _ ∧ _ ∧ _ from ⟨(hkd.2 _ (by omega) (by have := hpos.o1; omega) (blk_lt HIb.out.b4)).trans HIb.out.b4, (hkd.2 _ (by omega) (by have := hpos.o1; omega) (blk_lt HIb.out.b5)).trans HIb.out.b5, hbl⟩)
         have HXS := zA (show ∀ k, gA + 5 ≤ k → k ≤ gA + 6 → w2.heap[k]? = W.heap[k]? from fun k h1 h2 => (hkd.2 k (by omega) (by have := hpos.o1; omega) (by have := HIb.out.hD; omega)).trans (HXb.out k h1 h2))
         have HPS := zA hps
         have HKD := zA hkd
         rw [← hE]
         have HE := zA hE
         clear hE hps hkd hbl hpos
         rcases eqne E with ⟨e0, e0a⟩ | ⟨e0, e0a, e0b, e0c⟩))
     ·obtain ⟨q1, q2, q3⟩ := HSK.out
      rw [HST.out] at q1 q2 q3
      have hRR : R = parseR (k' + 1) (n + 1) (topP st' (wordsOf (trimB L))).2 (cutB s').2 := by rw [HR2.out, HST.out]; exact zC (HE.out.symm.trans e0)
      have hs5 := HS5.out
      refine ⟨⟨HXS.out _ (by omega) (by omega), HXS.out _ (by omega) (by omega)⟩, n + 1, _, k', HIb.out.took HO.out HKD.out HX.out.2.2 (HPS.out (HE.out.symm.trans e0)) q1 q2 q3, fun h => absurd h (Nat.succ_ne_zero n), hRR, ?_, ?_⟩
      ·have := cutB_less hz; omega
      ·have := cutB_less hz; omega
     ·have hRR : R = (((n + 1 : Nat) : Int), E, st') := by rw [HR2.out, HST.out, ← HE.out]; exact zD e0
      have hs5 := HS5.out
      obtain ⟨s1, s2, s3, s4⟩ := PB.stop HX.out.1 HX.out.2.1 HX.out.2.2 HO.out ((n : Int) + 1) E
      refine ⟨⟨?_, ?_⟩, rfl, by rw [hRR]; exact e0, by rw [hRR]; exact s1, by rw [hRR]; exact s2, s3⟩
      ·exact (s4 _ (by omega) (by omega)).trans (HXS.out _ (by omega) (by omega))
      ·exact (s4 _ (by omega) (by omega)).trans (HXS.out _ (by omega) (by omega))
    ·have hS : stepP n st' L = lineP st' (wordsOf (trimB L)) := by unfold stepP; rw [zD cwn, zD cn]
     have HST := zA hS
     clear hS
     have n1a := zG (show ¬ (n : Int) + 1 = 1 by omega)
     have n1b := (show ((n : Int) + 1 == 1) = false by simp; omega)
     gi_wp2_with (first
      | (refine ⟨trivial, ?_⟩; gi_at_call 39; refine (CallsIn.inRound l (callsIn_wide.2 (cut_at L _ hLs))).mono ?_; rintro e w' ⟨rfl, rfl⟩; rw [cw])
      | (refine ⟨trivial, ?_⟩; gi_at_call 40; refine (CallsIn.inRound l (callsIn_wide.2 (split_at (trimB L) _ (by omega)))).mono ?_; rintro e w1 ⟨gw, rfl, hk, hb, hgw⟩
         have HIb := zA (HI.out.below hb)
         have HXb := zA (show ∀ k, gA + 5 ≤ k → k ≤ gA + 6 → w1.heap[k]? = W.heap[k]? from fun k h1 h2 => (hb.block k (by have := HPBn.out.hD; simp [World.setCell]; omega)).trans (HS1.out k (by omega)))
         have HW := zA (show WordsAt gw 0 (wordsOf (trimB L)) w1 from ⟨_, hk, fun i t ht => by simp [ht]⟩)
         have y2 := bk1 HIb.out.b2
         have y4 := bk1 HIb.out.b4
         have y5 := bk1 HIb.out.b5
         have y6 := bk1 HIb.out.b6
         clear hk hb hgw)
      | (refine ⟨trivial, ?_⟩; gi_at_call 42; refine (CallsIn.inRound l (callsIn_wide.2 (line_calls2 HLd.out HIb.out.bl gp gw (gA + 7) hgp st' (HIb.out.ps cn) HIb.out.hD _ HW.out (wordsOf_ne _) (by omega) (fun t ht => Nat.le_trans (HWS.out t ht) (by omega)) (by have := HIb.out.hb; omega) (fun b hb => by have := HIb.out.hbb b hb; omega)))).mono ?_; rintro e w2 ⟨rfl, hps, hkd, hbl⟩
         obtain ⟨E, hE⟩ : ∃ E, E = (lineP st' (wordsOf (trimB L))).1 := ⟨_, rfl⟩
         have hpos := HO.out
         have y4' := bk1 ((hkd.2 _ (by omega) (by have := hpos.o1; omega) (blk_lt HIb.out.b4)).trans HIb.out.b4)
         have y5' := bk1 ((hkd.2 _ (by omega) (by have := hpos.o1; omega) (blk_lt HIb.out.b5)).trans HIb.out.b5)
         have y6' := bk1 ((hkd.2 _ (by omega) (by have := hpos.o1; omega) (blk_lt HIb.out.b6)).trans HIb.out.b6)
         have HX := zA (show _ ∧ _ ∧ _ from ⟨(hkd.2 _ (by omega) (by have := hpos.o1; omega) (blk_lt HIb.out.b4)).trans HIb.out.b4, (hkd.2 _ (by omega) (by have := hpos.o1; omega) (blk_lt HIb.out.b5)).trans HIb.out.b5, hbl⟩)
         have HXS := zA (show ∀ k, gA + 5 ≤ k → k ≤ gA + 6 → w2.heap[k]? = W.heap[k]? from fun k h1 h2 => (hkd.2 k (by omega) (by have := hpos.o1; omega) (by have := HIb.out.hD; omega)).trans (HXb.out k h1 h2))
         have HPS := zA hps
         have HKD := zA hkd
         rw [← hE]
         have HE := zA hE
         clear hE hps hkd hbl hpos
         rcases eqne E with ⟨e0, e0a⟩ | ⟨e0, e0a, e0b, e0c⟩))
     ·obtain ⟨q1, q2, q3⟩ := HSK.out
      rw [HST.out] at q1 q2 q3
      have hRR : R = parseR (k' + 1) (n + 1) (lineP st' (wordsOf (trimB L))).2 (cutB s').2 := by rw [HR2.out, HST.out]; exact zC (HE.out.symm.trans e0)
      have hs5 := HS5.out
      refine ⟨⟨HXS.out _ (by omega) (by omega), HXS.out _ (by omega) (by omega)⟩, n + 1, _, k', HIb.out.took HO.out HKD.out HX.out.2.2 (HPS.out (HE.out.symm.trans e0)) q1 q2 q3, fun h => absurd h (Nat.succ_ne_zero n), hRR, ?_, ?_⟩
      ·have := cutB_less hz; omega
      ·have := cutB_less hz; omega
     ·have hRR : R = (((n + 1 : Nat) : Int), E, st') := by rw [HR2.out, HST.out, ← HE.out]; exact zD e0
      have hs5 := HS5.out
      obtain ⟨s1, s2, s3, s4⟩ := PB.stop HX.out.1 HX.out.2.1 HX.out.2.2 HO.out ((n : Int) + 1) E
      refine ⟨⟨?_, ?_⟩, rfl, by rw [hRR]; exact e0, by rw [hRR]; exact s1, by rw [hRR]; exact s2, s3⟩
      ·exact (s4 _ (by omega) (by omega)).trans (HXS.out _ (by omega) (by omega))
      ·exact (s4 _ (by omega) (by omega)).trans (HXS.out _ (by omega) (by omega))
  ·clear hsz5 hord
   rintro s' W hz ⟨n, st', k, h, hn, hr, h1, h2⟩ hd
   refine ‹∀ (a : Act) (w : World), _ → _› _ _ ?_
   have hn0 : n ≠ 0 := fun e => hn e hz
   have HS := zA (PB.stop h.b4 h.b5 h.bl HO.out 0 0)
   have HPS := zA (h.ps hn0)
   have hRn := zA (show R = (0, 0, st') by rw [hr]; unfold parseR; rw [zC hz])
   have z4 := bk1 h.b4
   have z5 := bk1 h.b5
   have HD := zA hd
   clear h hr hd
   gi_wp2
   obtain ⟨s1, s2, s3, s4⟩ := HS.out
   rw [hRn.out]
   have hs5 := HS5.out
   have := HO.out.o0; have := HO.out.o1
   refine leaves_mark (.inl rfl) ((s4 _ (by omega) (by omega)).trans HD.out) rfl rfl s1 s2 ⟨rfl, fun _ => ⟨gA + 7, by rw [HgA.out]; omega, HPS.out.move ?_⟩, ?_⟩
   ·intro k hk hl
    exact (World.putObj_heap_other (by omega)).trans (s4 k (by omega) (by omega))
   ·exact s3.trans ((Below.refl _ _).grown (grownBy_putObj' _ _ _) s3.size (fun k e => by cases e; omega))
  ·clear hsz5 hord
   rintro c W ⟨rfl, h1, h2, h3, h4⟩ hd
   gi_wp2
   refine leaves_mark (.inl rfl) hd rfl rfl h2 h3 ⟨rfl, fun h => absurd h h1, ?_⟩
   have := HO.out.o0; have := HO.out.o1; have := HS5.out
   exact h4.trans ((Below.refl _ W).grown (grownBy_putObj' W _ _) h4.size (fun k e => by cases e; omega))
theorem mapM_len {α β : Type} {g : α → Option β} : ∀ {l : List α} {r : List β}, l.mapM g = some r → r.length = l.length
 | [], r, h => by simp at h; subst h; rfl
 | a :: l, r, h => by
  rw [List.mapM_cons] at h
  simp only [Option.pure_def, Option.bind_eq_bind, Option.bind_eq_some_iff] at h
  obtain ⟨x, hx, y, hy, h⟩ := h
  injection h with h
  subst h
  simp [mapM_len hy]
theorem lineP_head (s : PS) (ws : List ByteArray) : (lineP s ws).2.head = s.head := by
 unfold lineP
 repeat' split
 all_goals rfl
theorem lineP_heads (s : PS) (ws : List ByteArray) : (lineP s ws).2.heads = s.heads := by
 unfold lineP
 repeat' split
 all_goals rfl
theorem topP_head {s : PS} {ws : List ByteArray} (h : (topP s ws).1 = 0) : ((topP s ws).2.head.length : Int) = s.heads := by
 unfold topP at h ⊢
 split at h
 ·next w0 w1 rest =>
  split at h
  ·next hc =>
   rw [zC hc]
   split at h
   ·next l hl =>
    have := mapM_len hl
    dsimp only
    omega
   ·exact absurd (show (81 : Int) = 0 from h) (by decide)
  ·exact absurd (show (80 : Int) = 0 from h) (by decide)
 ·exact absurd (show (80 : Int) = 0 from h) (by decide)
theorem stepP_heads (n : Nat) (s : PS) (l : ByteArray) : (stepP n s l).2.heads = s.heads := by
 unfold stepP
 split
 ·rfl
 ·split
  ·exact (topP_keep s _).1
  ·exact lineP_heads s _
theorem parseR_head : ∀ (k n : Nat) (st : PS) (s : ByteArray), n ≠ 0 → (st.head.length : Int) = st.heads → ((parseR k n st s).2.2.head.length : Int) = st.heads
 | 0, n, st, s, hn, h => h
 | k + 1, n, st, s, hn, h => by
  unfold parseR
  split
  ·exact h
  ·split
   ·have e : (stepP n st (cutB s).1).2.head = st.head := by
     unfold stepP
     split
     ·rfl
     ·exact lineP_head _ _
    rw [← stepP_heads n st (cutB s).1]
    exact parseR_head k (n + 1) _ _ (Nat.succ_ne_zero n) (by rw [e, stepP_heads]; exact h)
   ·exact h
theorem parseAll_head {st : PS} {s : ByteArray} (h : (parseAll st s).2.1 = 0) : ((parseAll st s).2.2.head.length : Int) = st.heads := by
 unfold parseAll at h ⊢
 split at h
 ·exact absurd (show (80 : Int) = 0 from h) (by decide)
 ·next hs =>
  rw [zD hs]
  unfold parseR at h ⊢
  rw [zD hs] at h ⊢
  split at h
  ·next h0 =>
   rw [zC h0]
   have e : stepP 0 st (cutB s).1 = topP st (wordsOf (trimB (cutB s).1)) := by
    unfold stepP at h0 ⊢
    split at h0
    ·exact absurd (show (80 : Int) = 0 from h0) (by decide)
    ·next hw => rw [zD hw, zC rfl]
   rw [← stepP_heads 0 st (cutB s).1]
   refine parseR_head _ 1 _ _ (by decide) ?_
   rw [stepP_heads, e]
   rw [e] at h0
   exact topP_head h0
  ·next h0 => exact absurd h h0
-- code
theorem box5 {w : World} {g : Nat} {t : TypeId} {a b c d e : Value} (hb : w.heap[g]? = some (.cells #[a, b, c, d, e] t (0, 0))) (a' b' c' d' e' : Value) :
 (((((w.setCell ⟨g, 0, none⟩ a').setCell ⟨g, 1, none⟩ b').setCell ⟨g, 2, none⟩ c').setCell ⟨g, 3, none⟩ d').setCell ⟨g, 4, none⟩ e').heap[g]? = some (.cells #[a', b', c', d', e'] t (0, 0)) ∧ (∀ k, k ≠ g → (((((w.setCell ⟨g, 0, none⟩ a').setCell ⟨g, 1, none⟩ b').setCell ⟨g, 2, none⟩ c').setCell ⟨g, 3, none⟩ d').setCell ⟨g, 4, none⟩ e').heap[k]? = w.heap[k]?) ∧ (((((w.setCell ⟨g, 0, none⟩ a').setCell ⟨g, 1, none⟩ b').setCell ⟨g, 2, none⟩ c').setCell ⟨g, 3, none⟩ d').setCell ⟨g, 4, none⟩ e').heap.size = w.heap.size := by
 refine ⟨blk_put (cs := #[a', b', c', d', e]) (blk_put (cs := #[a', b', c', d, e]) (blk_put (cs := #[a', b', c, d, e]) (blk_put (cs := #[a', b, c, d, e]) (blk_put hb 0 _ rfl) 1 _ rfl) 2 _ rfl) 3 _ rfl) 4 _ rfl, fun k hk => ?_, by simp [World.setCell]⟩
 exact (heap_setCell_other _ _ _ _ hk).trans ((heap_setCell_other _ _ _ _ hk).trans ((heap_setCell_other _ _ _ _ hk).trans ((heap_setCell_other _ _ _ _ hk).trans (heap_setCell_other _ _ _ _ hk))))
theorem box5_below {w0 w : World} {g : Nat} (hb : Below w0.heap.size w0 w) (hg : w0.heap.size ≤ g) (a' b' c' d' e' : Value) : Below w0.heap.size w0 (((((w.setCell ⟨g, 0, none⟩ a').setCell ⟨g, 1, none⟩ b').setCell ⟨g, 2, none⟩ c').setCell ⟨g, 3, none⟩ d').setCell ⟨g, 4, none⟩ e') :=
 ((((hb.setCell (p := ⟨g, 0, none⟩) hg a').setCell (p := ⟨g, 1, none⟩) hg b').setCell (p := ⟨g, 2, none⟩) hg c').setCell (p := ⟨g, 3, none⟩) hg d').setCell (p := ⟨g, 4, none⟩) hg e'
def psCode : PS := ⟨true, ⟨#[99, 111, 100, 101]⟩, 3, ⟨#[]⟩, [], []⟩
def text_ParseCode.f (a0 : ByteArray) : Option (ByteArray × Int × Int × Int × List (List SIns) × Int × Int) :=
 if a0.size ≤ 90000 then
  if (parseAll psCode a0).2.1 = 0 then some ((parseAll psCode a0).2.2.name, (parseAll psCode a0).2.2.head.getD 0 0, (parseAll psCode a0).2.2.head.getD 1 0, (parseAll psCode a0).2.2.head.getD 2 0, (parseAll psCode a0).2.2.blocks, 0, 0)
  else some (⟨#[]⟩, 0, 0, 0, [], (parseAll psCode a0).1, (parseAll psCode a0).2.1)
 else none
def text_ParseCode.T5 : Bool × List (List Nat × List Nat) := (true, [([], []), ([0], [0]), ([1], [1]), ([2], [2]), ([], []), ([4], [4]), ([5], [5]), ([6], [6]), ([7], [7]), ([8], [8]), ([], []), ([10], [10]), ([11], [11]), ([12], [12]), ([13], [13]), ([14], [14]), ([], []), ([16], [16]), ([17], [17]), ([18], [18]), ([19], [19]), ([20], [20]), ([], []), ([22], [22]), ([23], [23]), ([24], [24]), ([3, 9, 15, 21, 25], [3, 9, 15, 21, 25]), ([26, 0, 1, 2, 3, 4, 5, 6, 7, 8, 9, 10, 11, 12, 13, 14, 15, 16, 17, 18, 19, 20, 21, 22, 23, 24, 25, 26], [26]), ([27, 0, 1, 2, 3, 4, 5, 6, 7, 8, 9, 10, 11, 12, 13, 14, 15, 16, 17, 18, 19, 20, 21, 22, 23, 24, 25, 26, 27], []), ([28, 0, 1, 2, 3, 4, 5, 6, 7, 8, 9, 10, 11, 12, 13, 14, 15, 16, 17, 18, 19, 20, 21, 22, 23, 24, 25, 26, 27, 28], [])])
def text_ParseCode.B5 : List Nat := [0, 1, 3, 7, 0, 16, 48, 112, 240, 496, 0, 1024, 3072, 7168, 15360, 31744, 0, 65536, 196608, 458752, 983040, 2031616, 0, 4194304, 12582912, 29360128, 67108863, 134217727, 268435455, 536870911]
theorem text_ParseCode.tab5 : rtab .any (opsOf Tryd.f13 5) = text_ParseCode.T5 := by kernel_rfl
theorem text_ParseCode.bits5 : waitsOk text_ParseCode.T5.2 text_ParseCode.B5 = true := by kernel_rfl
set_option maxHeartbeats 8000000 in
set_option maxRecDepth 100000 in
theorem text_ParseCode.calls (a0 : ByteArray) (r1 : ByteArray) (r2 r3 r4 : Int) (r5 : List (List SIns)) (r6 r7 : Int) (w : World) (h : text_ParseCode.f a0 = some (r1, r2, r3, r4, r5, r6, r7)) (hL : LaidW w) :
 Calls Tryd.prog 13 #[.string a0] w fun e w' => ∃ v : Value, e = .returned (.tuple #[.agg #[.string r1, .int .i64 r2, .int .i64 r3, .int .i64 r4, v], .int .i64 r6, .int .i64 r7]) ∧ Kd.R (Kd.slice 43 kIns) 29 w' w.heap.size (fun _ => True) v r5 ∧ Below w.heap.size w w' := by
 unfold text_ParseCode.f at h
 by_cases hsz : a0.size ≤ 90000
 case neg => rw [zD hsz] at h; cases h
 rw [zC hsz] at h
 have HLd := zA hL
 have H := zA h
 clear hL h
 go_enter Tryd.func13, Tryd.ntmps13
 go_wp2_with fail
 go_at_call 22
 refine (parse_calls (w0 := w.alloc (.cells #[.string ⟨#[]⟩, .int .i64 0, .int .i64 0, .int .i64 0, .slice none 0 0] 37 (0, 0))) (LaidW.below HLd.out (below_alloc (Below.refl _ _) _)) (below_alloc (Below.refl _ _) _) (w.heap.size + 1) (by simp) psCode (new_at (by simp)) rfl rfl ⟨(by show (1:Int) ≤ 3; decide), (by show (3:Int) ≤ 100; decide)⟩ a0 (by omega)).mono ?_
 rintro e w2 ⟨rfl, hps, hbl⟩
 have z2 := bk5 ((hbl.block _ (by simp)).trans (World.alloc_heap_new w _))
 have HPS := zA hps
 have HBL := zA hbl
 clear hps hbl
 obtain ⟨E, hE⟩ : ∃ E, E = (parseAll psCode a0).2.1 := ⟨_, rfl⟩
 rw [← hE]
 have HE := zA hE
 clear hE
 rcases eqne E with ⟨e0, e0a⟩ | ⟨e0, e0a, e0b, e0c⟩
 ·go_upto_region 5 with fail
  have hE0 := HE.out.symm.trans e0
  obtain ⟨D, hD, lt, vh, vb, hk, hr, hs⟩ := HPS.out hE0
  have hhd : ((parseAll psCode a0).2.2.head.length : Int) = 3 := parseAll_head hE0
  obtain ⟨st2, hst2⟩ : ∃ st2, st2 = (parseAll psCode a0).2.2 := ⟨_, rfl⟩
  rw [← hst2] at hk hr hs hhd
  have hH := H.out
  rw [zC hE0, ← hst2] at hH
  have HH := zA hH
  clear hst2 hH
  have HSR := zA (Kd.S_R hs)
  have hl2 : st2.head.length = 3 := by omega
  obtain ⟨ad, ch, rfl⟩ := Kd.R_slice1 hr (by omega)
  obtain ⟨_, hlc, hC⟩ := Kd.R_reads' hr
  obtain ⟨ad0, q0, hx0⟩ := Kd.at_int hC 0 (by decide) (by omega)
  obtain ⟨ad1, q1, hx1⟩ := Kd.at_int hC 1 (by decide) (by omega)
  obtain ⟨ad2, q2, hx2⟩ := Kd.at_int hC 2 (by decide) (by omega)
  cases q0
  cases q1
  cases q2
  rw [hl2] at hk hlc
  have hx0 : w2.cell? ad = some (.int .i64 (rd st2.head 0)) := hx0
  have hx1 : w2.cell? { block := ad.block, off := ad.off + 1 } = some (.int .i64 (rd st2.head 1)) := hx1
  have hx2 : w2.cell? { block := ad.block, off := ad.off + 2 } = some (.int .i64 (rd st2.head 2)) := hx2
  obtain ⟨Ab, cb, rfl⟩ := Kd.R_slice (Kd.S_R hs)
  have hbd : D ≤ ad.block := Kd.R_base hr _ rfl
  have HK2 := zA hk
  have z6 := bk6 hk
  obtain ⟨_, _, _, z63, z64, z65, _⟩ := z6
  refine start_ (n := 30) (S := fun w' => w'.cell? ⟨w.heap.size + 1, 3, none⟩ = some (.string st2.name) ∧ w'.cell? ⟨w.heap.size + 1, 4, none⟩ = some (.slice (some ad) 3 ch) ∧ w'.cell? ⟨w.heap.size + 1, 5, none⟩ = some (.slice Ab st2.blocks.length cb) ∧ w'.cell? ad = some (.int .i64 (rd st2.head 0)) ∧ w'.cell? { block := ad.block, off := ad.off + 1 } = some (.int .i64 (rd st2.head 1)) ∧ w'.cell? { block := ad.block, off := ad.off + 2 } = some (.int .i64 (rd st2.head 2))) (ds := []) (bA 30 0) (by kernel_rfl) rfl rfl ⟨z63, z64, z65, hx0, hx1, hx2⟩ (fun hHeld => ?_); refine with_tabW text_ParseCode.tab5 text_ParseCode.bits5 (fun HT_ HW_ => ?_)
  refine pu_ (i := 0) (N := some 21) (bA 30 1) ?_
  refine pu_ (i := 1) (N := some 22) (bA 30 3) ?_
  refine pu_ (i := 2) (N := some 23) (bA 30 7) ?_
  refine pu_ (i := 4) (N := some 25) (bA 30 23) ?_
  refine pu_ (i := 5) (N := some 26) (bA 30 55) ?_
  refine pu_ (i := 6) (N := some 27) (bA 30 119) ?_
  refine pu_ (i := 10) (N := some 31) (bA 30 1143) ?_
  refine pu_ (i := 11) (N := some 32) (bA 30 3191) ?_
  refine pu_ (i := 12) (N := some 33) (bA 30 7287) ?_
  refine pu_ (i := 16) (N := some 37) (bA 30 72823) ?_
  refine pu_ (i := 17) (N := some 38) (bA 30 203895) ?_
  refine pu_ (i := 18) (N := some 39) (bA 30 466039) ?_
  refine pu_ (i := 22) (N := some 43) (bA 30 4660343) ?_
  refine pu_ (i := 23) (N := some 44) (bA 30 13048951) ?_
  refine pu_ (i := 24) (N := some 45) (bA 30 29826167) ?_
  refine tk_ (i := 3) (N := some 24) (bA 30 29826175) ?_
  refine tk_ (i := 7) (N := some 28) (bA 30 29826303) ?_
  refine pu_ (i := 8) (N := some 29) (bA 30 29826559) ?_
  refine tk_ (i := 9) (N := some 30) (bA 30 29827071) ?_
  refine tk_ (i := 13) (N := some 34) (bA 30 29835263) ?_
  refine pu_ (i := 14) (N := some 35) (bA 30 29851647) ?_
  refine tk_ (i := 15) (N := some 36) (bA 30 29884415) ?_
  refine tk_ (i := 19) (N := some 40) (bA 30 30408703) ?_
  refine pu_ (i := 20) (N := some 41) (bA 30 31457279) ?_
  refine tk_ (i := 21) (N := some 42) (bA 30 33554431) ?_
  refine tk_ (i := 25) (N := some 46) (bA 30 67108863) ?_
  refine pu_ (i := 26) (N := some 47) (bA 30 134217727) ?_
  have z2d : w2.drew.heap[w.heap.size]? = some (.cells #[.string ⟨#[]⟩, .int .i64 0, .int .i64 0, .int .i64 0, .slice none 0 0] 37 (0, 0)) := (HBL.out.block _ (by simp)).trans (World.alloc_heap_new w _)
  have HZ2 := zA z2d
  replace z2d := bk5 z2d
  refine one_ (i := 27) (N := none) (bA 30 268435455) rfl rfl (one_of HT_.out (by kernel_rfl)) (by decide) (fun K hK => ?_)
  refine skip_ (w1 := ?_) (by rfl) rfl ?_ ?_
  rotate_left
  ·first | (go_simp; done) | (go_simp; rfl)
  obtain ⟨hq1, hq2, hq3⟩ := box5 (w := w2) HZ2.out (.string st2.name) (.int .i64 (rd st2.head 0)) (.int .i64 (rd st2.head 1)) (.int .i64 (rd st2.head 2)) (.slice Ab st2.blocks.length cb)
  have HBl := zA (below_drew (box5_below (below_step (below_alloc (Below.refl w.heap.size w) (.cells #[.string ⟨#[]⟩, .int .i64 0, .int .i64 0, .int .i64 0, .slice none 0 0] 37 (0, 0))) HBL.out) (Nat.le_refl w.heap.size) (.string st2.name) (.int .i64 (rd st2.head 0)) (.int .i64 (rd st2.head 1)) (.int .i64 (rd st2.head 2)) (.slice Ab st2.blocks.length cb)))
  have HSR2 := zA (Kd.R_drew (Kd.R_step (Kd.R_bound HSR.out) (fun k hk hl => hq2 k (by have := hk.2.1; simp at hD; omega))))
  have ho : ∀ (W : World) (p : Addr), (∀ k, k ≠ w.heap.size → W.heap[k]? = w2.heap[k]?) → p.block ≠ w.heap.size → W.drew.cell? p = w2.cell? p := fun W p h1 h2 => World.cell?_of_block (h1 _ h2)
  simp at hD
  refine hK.out _ _ ⟨(ho _ _ hq2 (by show w.heap.size + 1 ≠ _; omega)).trans z63, (ho _ _ hq2 (by show w.heap.size + 1 ≠ _; omega)).trans z64, (ho _ _ hq2 (by show w.heap.size + 1 ≠ _; omega)).trans z65, (ho _ _ hq2 (by omega)).trans hx0, (ho _ _ hq2 (by show ad.block ≠ _; omega)).trans hx1, (ho _ _ hq2 (by show ad.block ≠ _; omega)).trans hx2⟩ (fun hHeld => ?_)
  clear hK K ho hx0 hx1 hx2 z63 z64 z65 z2d
  generalize (((((w2.setCell ⟨w.heap.size, 0, none⟩ (.string st2.name)).setCell ⟨w.heap.size, 1, none⟩ (.int .i64 (rd st2.head 0))).setCell ⟨w.heap.size, 2, none⟩ (.int .i64 (rd st2.head 1))).setCell ⟨w.heap.size, 3, none⟩ (.int .i64 (rd st2.head 2))).setCell ⟨w.heap.size, 4, none⟩ (.slice Ab st2.blocks.length cb)) = W4 at hq1 hq2 hq3 HBl HSR2 hHeld ⊢
  have y4 := bk5 hq1
  refine pu_ (i := 28) (N := some 3) (bA 30 536870911) ?_
  refine pu_ (i := 29) (N := some 4) (bA 30 1073741823) ?_
  refine done_ (done_of HT_.out (by kernel_rfl)) ?_
  go_wp2_with fail
  refine bodyPost_ret (results_ctt rfl _ _ w.heap.size 37 #[.string st2.name, .int .i64 (rd st2.head 0), .int .i64 (rd st2.head 1), .int .i64 (rd st2.head 2), .slice Ab st2.blocks.length cb] (0, 0) _ rfl hq1 Tryd.underlying37 rfl (by kernel_rfl)) rfl ?_
  injection HH.out with he
  simp only [Prod.mk.injEq] at he
  obtain ⟨rfl, rfl, rfl, rfl, rfl, rfl, rfl⟩ := he
  exact ⟨_, rfl, Kd.R_mono (Kd.R_lower HSR2.out (by omega)) (fun _ _ => trivial), HBl.out⟩
 ·go_upto_region 5 with fail
  have hE0 : ¬ (parseAll psCode a0).2.1 = 0 := fun h => e0 (HE.out.trans h)
  have hH := H.out
  rw [zD hE0] at hH
  injection hH with he
  simp only [Prod.mk.injEq] at he
  obtain ⟨rfl, rfl, rfl, rfl, rfl, rfl, rfl⟩ := he
  have hz : w2.heap[w.heap.size]? = some (.cells #[.string ⟨#[]⟩, .int .i64 0, .int .i64 0, .int .i64 0, .slice none 0 0] 37 (0, 0)) := (HBL.out.block _ (by simp)).trans (World.alloc_heap_new w _)
  obtain ⟨hq1, hq2, hq3⟩ := box5 (w := w2) hz (.string ⟨#[]⟩) (.int .i64 0) (.int .i64 0) (.int .i64 0) (.slice none 0 0)
  have hb2 := box5_below (below_step (below_alloc (Below.refl w.heap.size w) _) HBL.out) (Nat.le_refl w.heap.size) (.string ⟨#[]⟩) (.int .i64 0) (.int .i64 0) (.int .i64 0) (.slice none 0 0)
  refine bodyPost_ret (results_ctt rfl _ _ w.heap.size 37 #[.string ⟨#[]⟩, .int .i64 0, .int .i64 0, .int .i64 0, .slice none 0 0] (0, 0) _ rfl hq1 Tryd.underlying37 rfl (by kernel_rfl)) rfl ?_
  refine ⟨_, ?_, Kd.R_nil _ _ _ _ _, hb2⟩
  rw [← HE.out]
  rfl
end Go.Proofs.YtniknpjeknmpjaaDoor.Q
namespace Go.Proofs.YtniknpjeknmpjaaDoor.Q
open Go.RowKit Go.Proofs.YtniknpjeknmpjaaDoorW.PrintWords Go.Proofs.YtniknpjeknmpjaaDoorW.PrintLast Go.Proofs.YtniknpjeknmpjaaDoorW.PrintMore
attribute [local go_sem] max2_int min2_int max_two min_two max_three min_three max_four min_four
set_option linter.unusedVariables false
set_option linter.unusedSimpArgs false

mutual
def cubbyref08_Number.j0 : Nat → ByteArray → Bool → Option (Int × Bool)
 | 0, _, _ => none
 | k + 1, x0, x23 => if x23 = true then (some (0, false)) else (cubbyref08_Number.l0 k x0 0 0)
def cubbyref08_Number.l0 : Nat → ByteArray → Int → Int → Option (Int × Bool)
 | 0, _, _, _ => none
 | k + 1, x0, x4, x5 => if x5 < (x0.size : Int) then (if 0 ≤ x5 then (if (bt x0 x5) < 48 then (some (0, false)) else (if (bt x0 x5) > 57 then (some (0, false)) else (cubbyref08_Number.l0 k x0 (wrap64 ((wrap64 (x4 * 10)) + (((bt x0 x5) - 48) % 256))) (wrap64 (x5 + 1))))) else (none)) else (some (x4, decide (x4 ≤ 2147483647)))
end
def cubbyref08_Number.f (k : Nat) (a0 : ByteArray) : Option (Int × Bool) := if (a0.size : Int) < 1 then (cubbyref08_Number.j0 k a0 true) else (if (a0.size : Int) > 10 then (cubbyref08_Number.j0 k a0 true) else (if 0 < (a0.size : Int) then (if (bt a0 0) = 48 then (cubbyref08_Number.j0 k a0 (decide ((a0.size : Int) > 1))) else (cubbyref08_Number.j0 k a0 false)) else (none)))
set_option maxHeartbeats 8000000 in
set_option maxRecDepth 100000 in
theorem cubbyref08_Number.calls (k : Nat) (a0 : ByteArray) (r1 : Int) (r2 : Bool) (w : World) (h : cubbyref08_Number.f k a0 = some (r1, r2)) :
 Calls Tryd.prog 60 #[.string a0] w fun e w' => e = .returned (.tuple #[.int .i64 r1, .bool r2]) ∧ Drawn0 w w' := by
 have H := h; clear h; unfold cubbyref08_Number.f at H
 have HC2 := zA H
 clear H
 go_enter Tryd.func60, Tryd.ntmps60
 go_upto_region 1 with (fail)
 go_cut [23] (fun v23 wc => ∃ (kq : Nat) (x23_1 : Bool), v23 = .bool x23_1 ∧ Aside0 (cubbyref08_Number.j0 kq a0 x23_1 = some (r1, r2)) ∧ Aside0 (kq ≤ k) ∧ Drawn0 w wc)
 case first =>
  have H := HC2.out
  clear HC2
  by_cases c3 : (a0.size : Int) < 1
  ·rw [zC c3] at H
   have c3b0 := zF c3
   have c3b1 : decide (a0.size < 1) = true := zF (by omega)
   clear c3
   (first | rw [c3b0] | (simp only [i64_w, i32_w]; rw [c3b0]) | skip)
   have H' := zA H
   clear H
   go_wp2
   go_meet
   case rel => exact ⟨_, (true), qT, H', ⟨qO⟩, qD⟩
  ·rw [zD c3] at H
   have c3b0 := zG c3
   have c3b1 : decide (a0.size < 1) = false := zG (by omega)
   clear c3
   (first | rw [c3b0] | (simp only [i64_w, i32_w]; rw [c3b0]) | skip)
   by_cases c4 : (a0.size : Int) > 10
   ·rw [zC c4] at H
    have c4b0 : decide (10 < (a0.size : Int)) = true := zF c4
    have c4b1 : decide (10 < a0.size) = true := zF (by omega)
    clear c4
    have H' := zA H
    clear H
    go_wp2
    go_meet
    case rel => exact ⟨_, (true), qT, H', ⟨qO⟩, qD⟩
   ·rw [zD c4] at H
    have c4b0 : decide (10 < (a0.size : Int)) = false := zG c4
    have c4b1 : decide (10 < a0.size) = false := zG (by omega)
    clear c4
    by_cases c5 : 0 < (a0.size : Int)
    ·rw [zC c5] at H
     have c5b0 := zF c5
     have c5b1 : decide (0 < a0.size) = true := zF (by omega)
     clear c5
     by_cases c7 : (bt a0 0) = 48
     ·rw [zC c7] at H
      obtain ⟨c7b0, c7b1⟩ := qe c7; clear c7
      have H' := zA H
      clear H
      have p6 : 0 ≤ (0 : Int) := (by omega)
      have q6 : 0 < a0.size := (by have : (0 : Int) < (a0.size : Int) := zB qA; omega)
      have hx6 : ∀ h : 0 < a0.size, ((a0[0]'h).toNat : Int) = bt a0 0 := bt_at a0 0
      clear p6
      have qi6 : (0 < (a0.size : Int)) = True := eq_true (zB qA)
      replace q6 := eq_true q6
      go_wp2
      go_meet
      case rel => exact ⟨_, (decide ((a0.size : Int) > 1)), qT, H', ⟨qO⟩, qD⟩
     ·rw [zD c7] at H
      obtain ⟨c7b0, c7b1⟩ := qn c7
      have H' := zA H
      clear H
      have p6 : 0 ≤ (0 : Int) := (by omega)
      have q6 : 0 < a0.size := (by have : (0 : Int) < (a0.size : Int) := zB qA; omega)
      have hx6 : ∀ h : 0 < a0.size, ((a0[0]'h).toNat : Int) = bt a0 0 := bt_at a0 0
      clear p6
      have qi6 : (0 < (a0.size : Int)) = True := eq_true (zB qA)
      replace q6 := eq_true q6
      go_wp2
      go_meet
      case rel => exact ⟨_, (false), qT, H', ⟨qO⟩, qD⟩
    ·rw [zD c5] at H
     exact absurd H (by simp)
 case rest =>
  clear HC2
  try clear p2; try clear c3; try clear c3b0 c3b1; try clear c4; try clear c4b0 c4b1; try clear c5; try clear c5b0 c5b1; try clear c6; try clear p6; try clear q6; try clear hx6; try clear qi6; try clear c7; try clear c7b0 c7b1
  obtain ⟨kq, x23_1, rfl, HA, HJ1, ⟨mc1, rfl⟩⟩ := hcut
  cases kq with
  | zero => exact absurd HA.out (by simp [cubbyref08_Number.j0])
  | succ kj1 =>
   have H := HA.out
   clear HA
   simp only [cubbyref08_Number.j0] at H
   by_cases c8 : x23_1 = true
   ·subst c8
    have H1 : (some (0, false)) = some (r1, r2) := by rw [zC rfl] at H; exact H
    clear H
    have H := H1
    clear H1
    simp only [Option.some.injEq, Prod.mk.injEq] at H
    obtain ⟨rfl, rfl⟩ := H
    go_wp2
    go_ret2
    exact ⟨by first | rfl | (simp; done) | (simp [*]; done), qD⟩
   ·replace c8 := Bool.eq_false_iff.mpr c8
    subst c8
    have H1 : (cubbyref08_Number.l0 kj1 a0 0 0) = some (r1, r2) := by rw [zD (show ¬ (false = true) by decide)] at H; exact H
    clear H
    have H := H1
    clear H1
    have H' := zA H
    clear H
    go_wp2
    go_loopg [4, 5] kj1 (fun kq v4 v5 w' => ∃ (x4_2 : Int) (x5_2 : Int), v4 = .int .i64 x4_2 ∧ v5 = .int .i64 x5_2 ∧ Aside0 (cubbyref08_Number.l0 kq a0 x4_2 x5_2 = some (r1, r2)) ∧ Aside0 (kq ≤ kj1) ∧ Drawn0 w w')
    case atStart => exact ⟨(0), (0), qT, qT, H', ⟨Nat.le_refl _⟩, qD⟩
    case round =>
     clear H'
     try clear c1; try clear p2; try clear c3; try clear c3b0 c3b1; try clear c4; try clear c4b0 c4b1; try clear c5; try clear c5b0 c5b1; try clear c6; try clear p6; try clear q6; try clear hx6; try clear qi6; try clear c7; try clear c7b0 c7b1; try clear c8
     obtain ⟨x4_2, x5_2, rfl, rfl, HA, HK2, ⟨m2, rfl⟩⟩ := hrel
     cases gk with
     | zero => exact absurd HA.out (by simp [cubbyref08_Number.l0])
     | succ k2 =>
      have H := HA.out
      clear HA
      simp only [cubbyref08_Number.l0] at H
      by_cases c9 : x5_2 < (a0.size : Int)
      ·rw [zC c9] at H
       have c9b0 := zF c9
       clear c9
       by_cases c10 : 0 ≤ x5_2
       ·rw [zC c10] at H
        have c10b0 := zF c10
        clear c10
        by_cases c12 : (bt a0 x5_2) < 48
        ·rw [zC c12] at H
         have c12b0 := zF c12
         clear c12
         simp only [Option.some.injEq, Prod.mk.injEq] at H
         obtain ⟨rfl, rfl⟩ := H
         have p11 : 0 ≤ (x5_2 : Int) := zB qA
         have q11 : x5_2 < (a0.size : Int) := zB qA
         have hx11 := bt_at a0 x5_2
         replace p11 := eq_true p11
         replace q11 := eq_true q11
         go_wp2
         go_ret2
         exact ⟨by first | rfl | (simp; done) | (simp [*]; done), qD⟩
        ·rw [zD c12] at H
         have c12b0 := zG c12
         clear c12
         by_cases c14 : (bt a0 x5_2) > 57
         ·rw [zC c14] at H
          have c14b0 : decide (57 < (bt a0 x5_2)) = true := zF c14
          clear c14
          simp only [Option.some.injEq, Prod.mk.injEq] at H
          obtain ⟨rfl, rfl⟩ := H
          have p11 : 0 ≤ (x5_2 : Int) := zB qA
          have q11 : x5_2 < (a0.size : Int) := zB qA
          have hx11 := bt_at a0 x5_2
          replace p11 := eq_true p11
          replace q11 := eq_true q11
          have p13 : 0 ≤ (x5_2 : Int) := zB qA
          have q13 : x5_2 < (a0.size : Int) := zB qA
          have hx13 := bt_at a0 x5_2
          replace p13 := eq_true p13
          replace q13 := eq_true q13
          go_wp2
          go_ret2
          exact ⟨by first | rfl | (simp; done) | (simp [*]; done), qD⟩
         ·rw [zD c14] at H
          have c14b0 : decide (57 < (bt a0 x5_2)) = false := zG c14
          clear c14
          have H' := zA H
          clear H
          have p11 : 0 ≤ (x5_2 : Int) := zB qA
          have q11 : x5_2 < (a0.size : Int) := zB qA
          have hx11 := bt_at a0 x5_2
          replace p11 := eq_true p11
          replace q11 := eq_true q11
          have p13 : 0 ≤ (x5_2 : Int) := zB qA
          have q13 : x5_2 < (a0.size : Int) := zB qA
          have hx13 := bt_at a0 x5_2
          replace p13 := eq_true p13
          replace q13 := eq_true q13
          have p15 : 0 ≤ (x5_2 : Int) := zB qA
          have q15 : x5_2 < (a0.size : Int) := zB qA
          have hx15 := bt_at a0 x5_2
          replace p15 := eq_true p15
          replace q15 := eq_true q15
          go_wp2
          go_roundg k2
          case measure => have := HJ1.out; have := HK2.out; omega
          case rel => exact ⟨(wrap64 ((wrap64 (x4_2 * 10)) + (((bt a0 x5_2) - 48) % 256))), (wrap64 (x5_2 + 1)), qT, qT, H', ⟨by have := HJ1.out; have := HK2.out; omega⟩, qD⟩
       ·rw [zD c10] at H
        exact absurd H (by simp)
      ·rw [zD c9] at H
       have c9b0 := zG c9
       clear c9
       simp only [Option.some.injEq, Prod.mk.injEq] at H
       obtain ⟨rfl, rfl⟩ := H
       go_wp2
       go_ret2
       exact ⟨by first | rfl | (simp; done) | (simp [*]; done), qD⟩
end Go.Proofs.YtniknpjeknmpjaaDoor.Q
namespace Go.Proofs.YtniknpjeknmpjaaDoor.PlainNum
open Go Go.RowKit Go.Proofs.YtniknpjeknmpjaaDoorW.PrintWords Go.Proofs.YtniknpjeknmpjaaDoorW.PrintMore Go.Proofs.YtniknpjeknmpjaaDoor.Q Go.Proofs.YtniknpjeknmpjaaDoor.Plain
set_option linter.unusedVariables false
theorem dec_small {u : Nat} (h : u < 10) : Lib.decDigits u = [UInt8.ofNat (48 + u)] := Lib.decDigits_one h
theorem dec_big {u : Nat} (h : ¬ u < 10) : Lib.decDigits u = Lib.decDigits (u / 10) ++ [UInt8.ofNat (48 + u % 10)] := by rw [Lib.decDigits, dif_neg h]
theorem digit_nat {d : Nat} (h : d < 10) : (UInt8.ofNat (48 + d)).toNat = 48 + d := by simp; omega
theorem dec_mem : ∀ (u : Nat), ∀ b ∈ Lib.decDigits u, 48 ≤ b.toNat ∧ b.toNat ≤ 57 := by
 intro u
 induction u using Nat.strongRecOn with
 | _ u ih =>
  by_cases h : u < 10
  ·rw [dec_small h]; intro b hb; rw [List.mem_singleton.1 hb, digit_nat h]; omega
  ·rw [dec_big h]; intro b hb
   rcases List.mem_append.1 hb with hb | hb
   ·exact ih (u / 10) (by omega) b hb
   ·rw [List.mem_singleton.1 hb, digit_nat (by omega)]; omega
theorem dec_ne (u : Nat) : Lib.decDigits u ≠ [] := by
 by_cases h : u < 10
 ·rw [dec_small h]; simp
 ·rw [dec_big h]; simp
theorem dec_head (u : Nat) (b : UInt8) (l : List UInt8) (h : Lib.decDigits u = b :: l) (h0 : b.toNat = 48) : l = [] := by
 have : ∀ (u : Nat), ∀ b l, Lib.decDigits u = b :: l → 0 < u → b.toNat ≠ 48 := by
  intro u
  induction u using Nat.strongRecOn with
  | _ u ih =>
   intro b l h hu
   by_cases h1 : u < 10
   ·rw [dec_small h1] at h; simp only [List.cons.injEq] at h; rw [← h.1, digit_nat h1]; omega
   ·rw [dec_big h1] at h
    cases hd : Lib.decDigits (u / 10) with
    | nil => exact absurd hd (dec_ne _)
    | cons c r =>
     rw [hd] at h
     simp only [List.cons_append, List.cons.injEq] at h
     rw [← h.1]
     exact ih (u / 10) (by omega) c r hd (by omega)
 by_cases hu : 0 < u
 ·exact absurd h0 (this u b l h hu)
 ·obtain rfl : u = 0 := by omega
  rw [dec_small (by omega)] at h
  simp only [List.cons.injEq] at h
  exact h.2.symm
theorem dec_len : ∀ (k u : Nat), u < 10 ^ (k + 1) → (Lib.decDigits u).length ≤ k + 1
 | 0, u, h => by rw [dec_small (by simpa using h)]; simp
 | k + 1, u, h => by
  by_cases h1 : u < 10
  ·rw [dec_small h1]; simp
  ·have := dec_len k (u / 10) (by rw [Nat.pow_succ] at h; omega)
   rw [dec_big h1]; simp; omega
theorem from_snoc : ∀ (l : List UInt8) (acc n : Nat) (d : Nat), Lib.decFrom acc l = some n → d < 10 → Lib.decFrom acc (l ++ [UInt8.ofNat (48 + d)]) = some (n * 10 + d)
 | [], acc, n, d, h, hd => by
  simp only [Lib.decFrom, Option.some.injEq] at h
  subst h
  have : Lib.digitVal (UInt8.ofNat (48 + d)) = some d := by unfold Lib.digitVal; rw [digit_nat hd, zC (by omega)]; congr 1; omega
  simp only [List.nil_append, Lib.decFrom, this]
 | b :: l, acc, n, d, h, hd => by
  simp only [List.cons_append, Lib.decFrom] at h ⊢
  cases hv : Lib.digitVal b with
  | none => rw [hv] at h; simp at h
  | some v => rw [hv] at h; simp only at h ⊢; exact from_snoc l _ n d h hd
theorem dec_val : ∀ (u : Nat), Lib.decFrom 0 (Lib.decDigits u) = some u := by
 intro u
 induction u using Nat.strongRecOn with
 | _ u ih =>
  by_cases h : u < 10
  ·rw [dec_small h]; have := from_snoc [] 0 0 u rfl h; simpa using this
  ·rw [dec_big h, from_snoc _ 0 _ (u % 10) (ih (u / 10) (by omega)) (by omega)]; congr 1; omega
theorem dec_atoi {u : Nat} (h : u < 10000000000) : Lib.atoiAll (Lib.decDigits u) = .ok (u : Int) := by
 have hl := dec_len 9 u (by simpa using h)
 rw [Lib.atoiAll_short _ (by omega)]
 have hv := dec_val u
 have hm := dec_mem u
 cases hd : Lib.decDigits u with
 | nil => exact absurd hd (dec_ne u)
 | cons b r =>
  rw [hd] at hv hm
  have hb := hm b List.mem_cons_self
  have e1 : (b == 45) = false := by rw [beq_eq_false_iff_ne]; intro e; subst e; simp at hb
  have e2 : (b == 43) = false := by rw [beq_eq_false_iff_ne]; intro e; subst e; simp at hb
  unfold Lib.atoi
  simp only [e1, e2, Bool.false_eq_true, if_false, Lib.decNat, List.isEmpty_cons, hv, Option.map_some, Lib.NumEnd.ofOption]
def num (n : Int) : ByteArray := ⟨(Lib.decDigits n.toNat).toArray⟩
theorem num_list (n : Int) : (num n).data.toList = Lib.decDigits n.toNat := by simp [num]
theorem itoa_num {n : Int} (h : 0 ≤ n) : (⟨(Lib.itoa n).toArray⟩ : ByteArray) = num n := by
 unfold num Lib.itoa
 rw [zD (by omega)]
theorem numOf_num {n : Int} (h0 : 0 ≤ n) (h1 : n < 2147483648) : numOf (num n) = some n := by
 have h := dec_atoi (u := n.toNat) (by omega)
 rw [← num_list, Int.toNat_of_nonneg h0] at h
 rw [numOf_ok h, zC ⟨h0, h1, itoa_num h0⟩]
theorem numOf_some {t : ByteArray} {v : Int} (h : numOf t = some v) : 0 ≤ v ∧ v < 2147483648 ∧ t = num v := by
 unfold numOf at h
 split at h
 ·split at h
  ·rename_i hc
   obtain rfl := zI h
   exact ⟨hc.1, hc.2.1, by rw [← hc.2.2, itoa_num hc.1]⟩
  ·cases h
 ·cases h
theorem num_size {n : Int} (h1 : n < 2147483648) : (num n).size ≤ 10 := by
 have := dec_len 9 n.toNat (by have e10 : (10 : Nat) ^ (9 + 1) = 10000000000 := (by decide); omega)
 show (num n).data.size ≤ 10
 rw [← Array.length_toList, num_list]
 exact this
theorem ba_ext {a b : ByteArray} (h : a.data.toList = b.data.toList) : a = b := toList_inj.1 (by rw [toList_data, toList_data, h])
theorem bt_get {s : ByteArray} {j : Nat} (h : j < s.data.toList.length) : bt s (j : Int) = ((s.data.toList[j]).toNat : Int) := by
 have hs : j < s.size := by simpa using h
 unfold bt
 rw [dif_pos (by simpa using hs)]
 simp
 rfl
theorem number_loop (s : ByteArray) (hs : s.size ≤ 10) (hd : ∀ b ∈ s.data.toList, 48 ≤ b.toNat ∧ b.toNat ≤ 57) : ∀ (d j acc v : Nat), s.data.toList.length - j = d → j ≤ s.data.toList.length → acc < 10 ^ j → Lib.decFrom acc (s.data.toList.drop j) = some v →
 Ev (fun k => cubbyref08_Number.l0 k s (acc : Int) (j : Int)) ((v : Int), decide ((v : Int) ≤ 2147483647)) := by
 have hsl : s.data.toList.length = s.size := by simp
 intro d
 induction d with
 | zero =>
  intro j acc v hj hjl ha hv
  rw [List.drop_eq_nil_of_le (by omega)] at hv
  simp only [Lib.decFrom, Option.some.injEq] at hv
  subst hv
  refine ⟨1, fun k hk => ?_⟩
  obtain ⟨q, rfl⟩ : ∃ q, k = q + 1 := ⟨k - 1, by omega⟩
  simp only [cubbyref08_Number.l0]
  rw [zD (by omega)]
 | succ d ih =>
  intro j acc v hj hjl ha hv
  have hlt : j < s.data.toList.length := by omega
  rw [List.drop_eq_getElem_cons hlt] at hv
  have hb := hd _ (List.getElem_mem hlt)
  have hbt := bt_get hlt
  generalize s.data.toList[j] = b at hv hb hbt
  have hdv : Lib.digitVal b = some (b.toNat - 48) := by unfold Lib.digitVal; rw [zC hb]
  simp only [Lib.decFrom, hdv] at hv
  have h10 : (10 : Nat) ^ (j + 1) ≤ 10 ^ 10 := Nat.pow_le_pow_right (by decide) (by omega)
  have h10' : (10 : Nat) ^ 10 = 10000000000 := by decide
  have ha2 : acc * 10 + (b.toNat - 48) < 10 ^ (j + 1) := by rw [Nat.pow_succ]; omega
  refine Ev.step (fun k => ?_) (ih (j + 1) (acc * 10 + (b.toNat - 48)) v (by omega) (by omega) ha2 hv)
  simp only [cubbyref08_Number.l0]
  have ha3 : acc * 10 < 10000000000 := by omega
  rw [zC (by omega), zC (by omega), hbt, zD (by omega), zD (by omega), wrap_nat (by omega), wrap_id (i := (acc : Int) * 10) (by omega) (by omega), show ((b.toNat : Int) - 48) % 256 = ((b.toNat - 48 : Nat) : Int) by omega, wrap_id (by omega) (by omega)]
  rfl
theorem number_num {n : Int} (h0 : 0 ≤ n) (h1 : n < 2147483648) : Ev (fun k => cubbyref08_Number.f k (num n)) (n, true) := by
 obtain ⟨m, rfl⟩ : ∃ m : Nat, n = m := ⟨n.toNat, by omega⟩
 have hsz := num_size h1
 have hl := num_list (m : Int)
 rw [Int.toNat_natCast] at hl
 have hne := dec_ne m
 have hpos : 0 < (num (m : Int)).size := by
  rw [← hl] at hne
  have := List.length_pos_iff.2 hne
  simpa using this
 have h := number_loop (num m) hsz (by rw [hl]; exact dec_mem m) _ 0 0 m rfl (by omega) (by simp) (by rw [List.drop_zero, hl]; exact dec_val m)
 rw [show (decide ((m : Int) ≤ 2147483647)) = true from zF (by omega)] at h
 have hb0 : bt (num (m : Int)) 0 = 48 → ¬ ((num (m : Int)).size : Int) > 1 := by
  intro hb
  have hlt : 0 < (num (m : Int)).data.toList.length := by simpa using hpos
  have hg := bt_get hlt
  cases hd : Lib.decDigits m with
  | nil => exact absurd hd (dec_ne m)
  | cons b r =>
   have e : (num (m : Int)).data.toList[0] = b := by simp only [hl, hd, List.getElem_cons_zero]
   rw [e] at hg
   have hr := dec_head m b r hd (by have : bt (num (m : Int)) ((0 : Nat) : Int) = 48 := hb; omega)
   have : (num (m : Int)).data.toList.length = 1 := by rw [hl, hd, hr]; rfl
   have : (num (m : Int)).size = 1 := by simpa using this
   omega
 refine Ev.congr (f := fun k => cubbyref08_Number.j0 k (num m) false) (fun k => ?_) (Ev.step (fun k => ?_) h)
 ·unfold cubbyref08_Number.f
  rw [zD (by omega), zD (by omega), zC (by omega)]
  by_cases hb : bt (num (m : Int)) 0 = 48
  ·rw [zC hb, zG (hb0 hb)]
  ·rw [zD hb]
 ·simp only [cubbyref08_Number.j0]
  rw [zD (by simp)]
  rfl
theorem number_end (s : ByteArray) (hs : s.size ≤ 10) : ∀ (d j acc : Nat), s.data.toList.length - j = d → j ≤ s.data.toList.length → acc < 10 ^ j → Lib.decFrom 0 (s.data.toList.take j) = some acc →
 ∃ r : Int × Bool, Ev (fun k => cubbyref08_Number.l0 k s (acc : Int) (j : Int)) r ∧ (r.2 = true → (0 ≤ r.1 ∧ r.1 < 2147483648) ∧ Lib.decFrom 0 s.data.toList = some r.1.toNat) := by
 have hsl : s.data.toList.length = s.size := by simp
 intro d
 induction d with
 | zero =>
  intro j acc hj hjl ha hv
  refine ⟨((acc : Int), decide ((acc : Int) ≤ 2147483647)), ⟨1, fun k hk => ?_⟩, fun h => ?_⟩
  ·obtain ⟨q, rfl⟩ : ∃ q, k = q + 1 := ⟨k - 1, by omega⟩
   simp only [cubbyref08_Number.l0]
   rw [zD (by omega)]
  ·have := zB h
   refine ⟨by simp only; omega, ?_⟩
   rw [List.take_of_length_le (by omega)] at hv
   exact hv
 | succ d ih =>
  intro j acc hj hjl ha hv
  have hlt : j < s.data.toList.length := by omega
  have hbt := bt_get hlt
  have hgt : s.data.toList[j]? = some s.data.toList[j] := List.getElem?_eq_getElem hlt
  generalize s.data.toList[j] = b at hbt hgt
  have stop : (b.toNat : Int) < 48 ∨ (b.toNat : Int) > 57 → ∃ r : Int × Bool, Ev (fun k => cubbyref08_Number.l0 k s (acc : Int) (j : Int)) r ∧ (r.2 = true → (0 ≤ r.1 ∧ r.1 < 2147483648) ∧ Lib.decFrom 0 s.data.toList = some r.1.toNat) := fun hc => by
   refine ⟨(0, false), ⟨1, fun k hk => ?_⟩, fun h => by cases h⟩
   obtain ⟨q, rfl⟩ : ∃ q, k = q + 1 := ⟨k - 1, by omega⟩
   simp only [cubbyref08_Number.l0]
   rw [zC (by omega), zC (by omega), hbt]
   rcases hc with hc | hc
   ·rw [zC hc]
   ·by_cases h1 : (b.toNat : Int) < 48
    ·rw [zC h1]
    ·rw [zD h1, zC hc]
  by_cases h1 : (b.toNat : Int) < 48
  ·exact stop (.inl h1)
  by_cases h2 : (b.toNat : Int) > 57
  ·exact stop (.inr h2)
  have h10 : (10 : Nat) ^ (j + 1) ≤ 10 ^ 10 := Nat.pow_le_pow_right (by decide) (by omega)
  have h10' : (10 : Nat) ^ 10 = 10000000000 := by decide
  have ha2 : acc * 10 + (b.toNat - 48) < 10 ^ (j + 1) := by rw [Nat.pow_succ]; omega
  obtain ⟨r, hr, hr2⟩ := ih (j + 1) (acc * 10 + (b.toNat - 48)) (by omega) (by omega) ha2 (Lib.decFrom_take _ _ _ _ _ _ hv hgt (by unfold Lib.digitVal; rw [zC (by omega)]))
  refine ⟨r, Ev.step (fun k => ?_) hr, hr2⟩
  simp only [cubbyref08_Number.l0]
  have ha3 : acc * 10 < 10000000000 := by omega
  rw [zC (by omega), zC (by omega), hbt, zD h1, zD h2, wrap_nat (by omega), wrap_id (i := (acc : Int) * 10) (by omega) (by omega), show ((b.toNat : Int) - 48) % 256 = ((b.toNat - 48 : Nat) : Int) by omega, wrap_id (by omega) (by omega)]
  rfl
theorem number_total (s : ByteArray) : ∃ r : Int × Bool, Ev (fun k => cubbyref08_Number.f k s) r ∧ (r.2 = true → (0 ≤ r.1 ∧ r.1 < 2147483648) ∧ Lib.decFrom 0 s.data.toList = some r.1.toNat ∧ 1 ≤ s.size ∧ (bt s 0 = 48 → s.size = 1)) := by
 have no : ∀ (g : Nat → Option (Int × Bool)), (∀ k, g k = cubbyref08_Number.j0 k s true) → ∃ r : Int × Bool, Ev g r ∧ (r.2 = true → (0 ≤ r.1 ∧ r.1 < 2147483648) ∧ Lib.decFrom 0 s.data.toList = some r.1.toNat ∧ 1 ≤ s.size ∧ (bt s 0 = 48 → s.size = 1)) := fun g hg =>
  ⟨(0, false), ⟨1, fun k hk => by obtain ⟨q, rfl⟩ : ∃ q, k = q + 1 := ⟨k - 1, by omega⟩; rw [hg]; simp only [cubbyref08_Number.j0]; rw [zC trivial]⟩, fun h => by cases h⟩
 by_cases h1 : (s.size : Int) < 1
 ·exact no _ (fun k => by unfold cubbyref08_Number.f; rw [zC h1])
 by_cases h2 : (s.size : Int) > 10
 ·exact no _ (fun k => by unfold cubbyref08_Number.f; rw [zD h1, zC h2])
 obtain ⟨r, hr, hr2⟩ := number_end s (by omega) _ 0 0 rfl (by omega) (by simp) rfl
 have go : ∀ (g : Nat → Option (Int × Bool)), (bt s 0 = 48 → s.size = 1) → (∀ k, g k = cubbyref08_Number.j0 k s false) → ∃ r : Int × Bool, Ev g r ∧ (r.2 = true → (0 ≤ r.1 ∧ r.1 < 2147483648) ∧ Lib.decFrom 0 s.data.toList = some r.1.toNat ∧ 1 ≤ s.size ∧ (bt s 0 = 48 → s.size = 1)) := fun g hz hg =>
  ⟨r, Ev.congr (f := fun k => cubbyref08_Number.j0 k s false) hg (Ev.step (fun k => by simp only [cubbyref08_Number.j0]; rw [zD (by simp)]; rfl) hr), fun h => ⟨(hr2 h).1, (hr2 h).2, by omega, hz⟩⟩
 by_cases hb : bt s 0 = 48
 ·by_cases h3 : (s.size : Int) > 1
  ·exact no _ (fun k => by unfold cubbyref08_Number.f; rw [zD h1, zD h2, zC (by omega), zC hb, zF h3])
  ·exact go _ (fun _ => by omega) (fun k => by unfold cubbyref08_Number.f; rw [zD h1, zD h2, zC (by omega), zC hb, zG h3])
 ·exact go _ (fun h => absurd h hb) (fun k => by unfold cubbyref08_Number.f; rw [zD h1, zD h2, zC (by omega), zD hb])
theorem dec_back (n : Nat) : ∀ (l : List UInt8) (m : Nat), l.length = n → l ≠ [] → (∀ b r, l = b :: r → b.toNat = 48 → r = []) → Lib.decFrom 0 l = some m → Lib.decDigits m = l := by
 induction n with
 | zero => intro l m hl hne; exact absurd (List.eq_nil_of_length_eq_zero hl) hne
 | succ n ih =>
  intro l m hl hne hz hm
  have hlt : n < l.length := by omega
  obtain ⟨d, hd⟩ := Lib.digit_of_decFrom l 0 m hm n l[n] (List.getElem?_eq_getElem hlt)
  obtain ⟨q, hq⟩ := Lib.decFrom_prefix l 0 m hm n
  have hs := Lib.decFrom_take l n 0 q l[n] d hq (List.getElem?_eq_getElem hlt) hd
  rw [List.take_of_length_le (by omega), hm] at hs
  injection hs with hs
  have hsp : l = l.take n ++ [l[n]] := by
   conv => lhs; rw [← List.take_append_drop n l]
   rw [List.drop_eq_getElem_cons hlt, List.drop_eq_nil_of_le (by omega)]
  have hb : l[n].toNat = 48 + d ∧ d < 10 := by
   unfold Lib.digitVal at hd
   split at hd
   ·injection hd with hd; omega
   ·cases hd
  have hbb : l[n] = UInt8.ofNat (48 + d) := by rw [← hb.1]; simp
  generalize l[n] = c at hsp hb hbb hd
  by_cases h0 : n = 0
  ·subst h0
   have : q = 0 := by simpa [Lib.decFrom] using hq.symm
   subst this
   have e : m = d := by omega
   rw [e, dec_small hb.2, hsp]
   simpa using hbb.symm
  ·have hq0 : q ≠ 0 := by
    intro e
    subst e
    have := ih (l.take n) 0 (by simp; omega) (by intro h; have := congrArg List.length h; rw [List.length_take, List.length_nil] at this; omega) ?_ hq
    ·have h1 : Lib.decDigits 0 = [UInt8.ofNat 48] := dec_small (by decide)
     rw [h1] at this
     have hl1 := congrArg List.length this
     simp at hl1
     have := hz (UInt8.ofNat 48) [c] (by rw [hsp, ← this]; rfl) (by decide)
     cases this
    ·intro b r hbr hb48
     have := hz b (r ++ [c]) (by rw [hsp, hbr]; rfl) hb48
     simp at this
   have hbig : ¬ m < 10 := by omega
   rw [dec_big hbig, show m / 10 = q by omega, show m % 10 = d by omega, ih (l.take n) q (by simp; omega) (by intro h; have := congrArg List.length h; rw [List.length_take, List.length_nil] at this; omega) ?_ hq, ← hbb]
   ·exact hsp.symm
   ·intro b r hbr hb48
    have := hz b (r ++ [c]) (by rw [hsp, hbr]; rfl) hb48
    simp at this
theorem number_all (s : ByteArray) : ∃ x : Int, Ev (fun k => cubbyref08_Number.f k s) (match numOf s with | some v => (v, true) | none => (x, false)) := by
 cases hn : numOf s with
 | some v =>
  obtain ⟨h0, h1, rfl⟩ := numOf_some hn
  exact ⟨0, number_num h0 h1⟩
 | none =>
  obtain ⟨⟨x, b⟩, he, hb⟩ := number_total s
  cases b with
  | false => exact ⟨x, he⟩
  | true =>
   obtain ⟨⟨h0, h1⟩, hd, hs1, hz⟩ := hb rfl
   have hsl : s.data.toList.length = s.size := by simp
   have hne : s.data.toList ≠ [] := fun h => by rw [h] at hsl; simp at hsl; omega
   have hbk := dec_back _ s.data.toList x.toNat rfl hne (fun b r hbr hb48 => ?_) hd
   ·have : s = num x := ba_ext (by rw [num_list]; exact hbk.symm)
    rw [this, numOf_num h0 h1] at hn
    cases hn
   ·have hlt : 0 < s.data.toList.length := by omega
    have hg := bt_get hlt
    have e : s.data.toList[0] = b := by simp only [hbr, List.getElem_cons_zero]
    rw [e] at hg
    have h1 : s.size = 1 := hz (by show bt s ((0 : Nat) : Int) = 48; omega)
    rw [hbr] at hsl
    simp at hsl
    exact List.eq_nil_of_length_eq_zero (by omega)
end Go.Proofs.YtniknpjeknmpjaaDoor.PlainNum
namespace Go.Proofs.YtniknpjeknmpjaaDoor.Q
open Go.RowKit Go.Proofs.YtniknpjeknmpjaaDoorW.PrintWords Go.Proofs.YtniknpjeknmpjaaDoorW.PrintLast Go.Proofs.YtniknpjeknmpjaaDoorW.PrintMore
attribute [local go_sem] max2_int min2_int max_two min_two max_three min_three max_four min_four
set_option linter.unusedVariables false
set_option linter.unusedSimpArgs false

def cubbyref08_words.l0 : Nat → ByteArray → List ByteArray → Int → Int → Option (List ByteArray)
 | 0, _, _, _, _ => none
 | k + 1, x0, x3, x4, x5 => if x5 ≤ (x0.size : Int) then (if x5 = (x0.size : Int) then (if 0 ≤ x4 then (if x4 ≤ x5 then (if x3.length < 8796093022208 then (cubbyref08_words.l0 k x0 (x3 ++ [x0.extract (x4 : Int).toNat (x5 : Int).toNat]) (wrap64 (x5 + 1)) (wrap64 (x5 + 1))) else (none)) else (none)) else (none)) else (if 0 ≤ x5 then (if x5 < (x0.size : Int) then (if (bt x0 x5) = 32 then (if 0 ≤ x4 then (if x4 ≤ x5 then (if x3.length < 8796093022208 then (cubbyref08_words.l0 k x0 (x3 ++ [x0.extract (x4 : Int).toNat (x5 : Int).toNat]) (wrap64 (x5 + 1)) (wrap64 (x5 + 1))) else (none)) else (none)) else (none)) else (cubbyref08_words.l0 k x0 x3 x4 (wrap64 (x5 + 1)))) else (none)) else (none))) else (some x3)
def cubbyref08_words.f (k : Nat) (a0 : ByteArray) : Option (List ByteArray) := cubbyref08_words.l0 k a0 (([] : List ByteArray)) 0 0
set_option maxHeartbeats 8000000 in
set_option maxRecDepth 100000 in
theorem cubbyref08_words.calls (k : Nat) (a0 : ByteArray) (r : List ByteArray) (w : World) (h : cubbyref08_words.f k a0 = some r) :
 Calls Tryd.prog 43 #[.string a0] w fun e w' => ∃ v0_ : Value, e = .returned (v0_) ∧ Kd.R Kd.string 9 w' w.heap.size (fun _ => True) v0_ r ∧ Below w.heap.size w w' := by
 have HB := zA (Below.refl w.heap.size w)
 have H := h; clear h; unfold cubbyref08_words.f at H
 obtain ⟨y161, hy161⟩ : ∃ y_ : List ByteArray, y_ = (([] : List ByteArray)) := ⟨_, rfl⟩
 replace H : (cubbyref08_words.l0 k a0 y161 0 0) = some r := by (try rw [hy161]); first | with_reducible exact H | exact (zJ _ _).symm.trans H | exact H
 have Ny161 := zA hy161
 clear hy161
 have H' := zA H
 clear H
 go_enter Tryd.func43, Tryd.ntmps43
 go_wp2_with (first | ((with_reducible refine gate_dst (N := 6) rfl ?_); refine Kd.R_lit Kd.string _ 9 (by rfl) (N := 6) (by rfl) (xs := ([] : List ByteArray)) (inner := []) (ok := fun _ => True) (okp := fun _ => True) ?hr ?hp (fun _ hk => hk) trivial (Below.refl _ _) (Nat.le_refl _) (by simp) ?_; (case hr => go_simp <;> rfl); (case hp => exact (Reps.none _ _)); intro v162 w2 ho3 hb hg_ hnew_; clear hg_ hnew_; (first | rw [← Ny161.out] at ho3 | (simp only [Int.reduceToNat] at ho3; rw [← Ny161.out] at ho3)); have HO163 := zA (Kd.R_lower ho3 (below_size qB)); replace HB := qH hb; clear hb ho3))
 go_loopg [3, 4, 5] k (fun kq v3 v4 v5 w' => ∃ (x3_1 : List ByteArray) (x4_1 : Int) (x5_1 : Int), v4 = .int .i64 x4_1 ∧ v5 = .int .i64 x5_1 ∧ Aside0 (cubbyref08_words.l0 kq a0 x3_1 x4_1 x5_1 = some r) ∧ Aside0 (kq ≤ k) ∧ Aside0 (Kd.R Kd.string 9 w' w.heap.size (fun _ => True) v3 x3_1) ∧ Aside0 (Below w.heap.size w w'))
 case atStart => exact ⟨(y161), (0), (0), qT, qT, H', ⟨Nat.le_refl _⟩, ⟨qR HO163.out⟩, ⟨qB⟩⟩
 case round =>
  clear H'
  try clear p2
  obtain ⟨x3_1, x4_1, x5_1, rfl, rfl, HA, HK1, HO_3, HB⟩ := hrel
  cases gk with
  | zero => exact absurd HA.out (by simp [cubbyref08_words.l0])
  | succ k1 =>
   have H := HA.out
   clear HA
   simp only [cubbyref08_words.l0] at H
   by_cases c4 : x5_1 ≤ (a0.size : Int)
   ·rw [zC c4] at H
    have c4b0 := zF c4
    clear c4
    by_cases c5 : x5_1 = (a0.size : Int)
    ·rw [zC c5] at H
     obtain ⟨c5b0, c5b1⟩ := qe c5; clear c5
     by_cases c6 : 0 ≤ x4_1
     ·rw [zC c6] at H
      have c6b0 := eq_true c6
      have c6b1 := zF c6
      clear c6
      by_cases c7 : x4_1 ≤ x5_1
      ·rw [zC c7] at H
       have c7b0 := eq_true c7
       have c7b1 := zF c7
       clear c7
       have c8b0 := eq_true (zB qA : x5_1 ≤ (a0.size : Int))
       by_cases c9 : x3_1.length < 8796093022208
       ·rw [zC c9] at H
        have LMc9 := zA c9
        clear c9
        obtain ⟨y164, hy164⟩ : ∃ y_ : List ByteArray, y_ = (x3_1 ++ [a0.extract (x4_1 : Int).toNat (x5_1 : Int).toNat]) := ⟨_, rfl⟩
        replace H : (cubbyref08_words.l0 k1 a0 y164 (wrap64 (x5_1 + 1)) (wrap64 (x5_1 + 1))) = some r := by (try rw [hy164]); first | with_reducible exact H | exact (zJ _ _).symm.trans H | exact H
        have Ny164 := zA hy164
        clear hy164
        have H' := zA H
        clear H
        go_wp2_with (first | ((with_reducible refine gate_builtin (b := .append) (xs := #[.tmp 23, .tmp 28]) rfl ?_); at_builtin; refine Kd.R_append Kd.string (w0 := w) w.heap.size rfl (.tmp 23) (.tmp 28) 67 9 (.string ⟨#[]⟩) 16 rfl Tryd.underlying67 info9 rfl (by decide) (by omega) u3 x3_1 (a0.extract (x4_1 : Int).toNat (x5_1 : Int).toNat) [.string (a0.extract (x4_1 : Int).toNat (x5_1 : Int).toNat)] (fun _ => True) (fun _ => False) rfl rfl ?aP (fun _ hk => hk.elim) ?aF ?aO ?aB ?aS ?aL ?_; (case aP => exact rfl); (case aB => exact qB); (case aF => exact (fun _ _ => trivial)); (case aO => exact (qR HO_3.out)); (case aS => exact (below_size qB)); (case aL => have := LMc9.out; omega); intro v165 w10 ho hb hg hat; rw [← Ny164.out] at ho; replace HB := zA (hb); have HO166 := zA (ho); clear HO_3; clear ho hb hg hat))
        go_roundg k1
        case measure => have := HK1.out; omega
        case rel => exact ⟨(y164), (wrap64 (x5_1 + 1)), (wrap64 (x5_1 + 1)), qT, qT, H', ⟨by have := HK1.out; omega⟩, ⟨qR HO166.out⟩, ⟨qB⟩⟩
       ·rw [zD c9] at H
        exact absurd H (by simp)
      ·rw [zD c7] at H
       exact absurd H (by simp)
     ·rw [zD c6] at H
      exact absurd H (by simp)
    ·rw [zD c5] at H
     obtain ⟨c5b0, c5b1⟩ := qn c5
     by_cases c11 : 0 ≤ x5_1
     ·rw [zC c11] at H
      have c11b0 := zF c11
      clear c11
      by_cases c12 : x5_1 < (a0.size : Int)
      ·rw [zC c12] at H
       have c12b0 := zF c12
       clear c12
       by_cases c14 : (bt a0 x5_1) = 32
       ·rw [zC c14] at H
        obtain ⟨c14b0, c14b1⟩ := qe c14; clear c14
        by_cases c15 : 0 ≤ x4_1
        ·rw [zC c15] at H
         have c15b0 := eq_true c15
         have c15b1 := zF c15
         clear c15
         by_cases c16 : x4_1 ≤ x5_1
         ·rw [zC c16] at H
          have c16b0 := eq_true c16
          have c16b1 := zF c16
          clear c16
          have c17b0 := eq_true (zB qA : x5_1 ≤ (a0.size : Int))
          by_cases c18 : x3_1.length < 8796093022208
          ·rw [zC c18] at H
           have LMc18 := zA c18
           clear c18
           obtain ⟨y167, hy167⟩ : ∃ y_ : List ByteArray, y_ = (x3_1 ++ [a0.extract (x4_1 : Int).toNat (x5_1 : Int).toNat]) := ⟨_, rfl⟩
           replace H : (cubbyref08_words.l0 k1 a0 y167 (wrap64 (x5_1 + 1)) (wrap64 (x5_1 + 1))) = some r := by (try rw [hy167]); first | with_reducible exact H | exact (zJ _ _).symm.trans H | exact H
           have Ny167 := zA hy167
           clear hy167
           have H' := zA H
           clear H
           have p13 : 0 ≤ (x5_1 : Int) := zB qA
           have q13 : x5_1 < (a0.size : Int) := zB qA
           have hx13 := bt_at a0 x5_1
           replace p13 := eq_true p13
           replace q13 := eq_true q13
           go_wp2_with (first | ((with_reducible refine gate_builtin (b := .append) (xs := #[.tmp 23, .tmp 28]) rfl ?_); at_builtin; refine Kd.R_append Kd.string (w0 := w) w.heap.size rfl (.tmp 23) (.tmp 28) 67 9 (.string ⟨#[]⟩) 16 rfl Tryd.underlying67 info9 rfl (by decide) (by omega) u3 x3_1 (a0.extract (x4_1 : Int).toNat (x5_1 : Int).toNat) [.string (a0.extract (x4_1 : Int).toNat (x5_1 : Int).toNat)] (fun _ => True) (fun _ => False) rfl rfl ?aP (fun _ hk => hk.elim) ?aF ?aO ?aB ?aS ?aL ?_; (case aP => exact rfl); (case aB => exact qB); (case aF => exact (fun _ _ => trivial)); (case aO => exact (qR HO_3.out)); (case aS => exact (below_size qB)); (case aL => have := LMc18.out; omega); intro v168 w19 ho hb hg hat; rw [← Ny167.out] at ho; replace HB := zA (hb); have HO169 := zA (ho); clear HO_3; clear ho hb hg hat))
           go_roundg k1
           case measure => have := HK1.out; omega
           case rel => exact ⟨(y167), (wrap64 (x5_1 + 1)), (wrap64 (x5_1 + 1)), qT, qT, H', ⟨by have := HK1.out; omega⟩, ⟨qR HO169.out⟩, ⟨qB⟩⟩
          ·rw [zD c18] at H
           exact absurd H (by simp)
         ·rw [zD c16] at H
          exact absurd H (by simp)
        ·rw [zD c15] at H
         exact absurd H (by simp)
       ·rw [zD c14] at H
        obtain ⟨c14b0, c14b1⟩ := qn c14
        have H' := zA H
        clear H
        have p13 : 0 ≤ (x5_1 : Int) := zB qA
        have q13 : x5_1 < (a0.size : Int) := zB qA
        have hx13 := bt_at a0 x5_1
        replace p13 := eq_true p13
        replace q13 := eq_true q13
        go_wp2
        go_roundg k1
        case measure => have := HK1.out; omega
        case rel => exact ⟨(x3_1), (x4_1), (wrap64 (x5_1 + 1)), qT, qT, H', ⟨by have := HK1.out; omega⟩, ⟨qR HO_3.out⟩, ⟨qB⟩⟩
      ·rw [zD c12] at H
       exact absurd H (by simp)
     ·rw [zD c11] at H
      exact absurd H (by simp)
   ·rw [zD c4] at H
    have c4b0 := zG c4
    clear c4
    obtain rfl := zI H
    go_wp2
    go_ret
    exact ⟨_, qE, qR HO_3.out, qB⟩
end Go.Proofs.YtniknpjeknmpjaaDoor.Q
namespace Go.Proofs.YtniknpjeknmpjaaDoor.PlainNum
open Go Go.RowKit Go.Proofs.YtniknpjeknmpjaaDoorW.PrintWords Go.Proofs.YtniknpjeknmpjaaDoorW.PrintMore Go.Proofs.YtniknpjeknmpjaaDoor.Q Go.Proofs.YtniknpjeknmpjaaDoor.Plain
set_option linter.unusedVariables false
def wordsL : List UInt8 → List (List UInt8)
 | [] => [[]]
 | b :: l => if b = 32 then [] :: wordsL l else match wordsL l with
  | w :: r => (b :: w) :: r
  | [] => [[b]]
theorem wordsL_one : ∀ {a : List UInt8}, (32 : UInt8) ∉ a → wordsL a = [a]
 | [], _ => rfl
 | b :: a, h => by
  have h1 : ¬ b = 32 := fun e => h (by rw [e]; exact List.mem_cons_self)
  unfold wordsL
  rw [zD h1, wordsL_one (fun hm => h (List.mem_cons_of_mem _ hm))]
theorem wordsL_cons : ∀ {a : List UInt8} (b : List UInt8), (32 : UInt8) ∉ a → wordsL (a ++ 32 :: b) = a :: wordsL b
 | [], b, _ => by simp [wordsL]
 | c :: a, b, h => by
  have h1 : ¬ c = 32 := fun e => h (by rw [e]; exact List.mem_cons_self)
  simp only [List.cons_append, wordsL, zD h1, wordsL_cons b (fun hm => h (List.mem_cons_of_mem _ hm))]
def bytesOfL (ws : List ByteArray) : List (List UInt8) := ws.map fun w => w.data.toList
theorem bytes_inj {ws vs : List ByteArray} (h : bytesOfL ws = bytesOfL vs) : ws = vs := by
 exact (List.map_inj_right (f := fun w : ByteArray => w.data.toList) (fun x y hxy => ba_ext hxy)).1 h
theorem ex_list (s : ByteArray) (i j : Nat) : (s.extract i j).data.toList = (s.data.toList.drop i).take (j - i) := by
 rw [ByteArray.data_extract, Array.toList_extract]
 first | done | rfl | simp [List.extract]
theorem index_none : ∀ {l : List UInt8}, Lib.indexByte l 32 = -1 → (32 : UInt8) ∉ l
 | [], _ => by simp
 | b :: l, h => by
  unfold Lib.indexByte at h
  split at h
  ·simp at h
  ·rename_i hb
   have hge := Lib.indexByte_ge l 32
   split at h
   ·rename_i h2
    have := index_none (by simpa using h2)
    intro hm
    rcases List.mem_cons.1 hm with h3 | h3
    ·exact hb (by simp [h3])
    ·exact this h3
   ·rename_i h2
    have h3 : Lib.indexByte l 32 ≠ -1 := by simpa using h2
    omega
theorem index_some : ∀ {l : List UInt8} {i : Nat}, Lib.indexByte l 32 = (i : Int) → i < l.length ∧ l = l.take i ++ 32 :: l.drop (i + 1) ∧ (32 : UInt8) ∉ l.take i
 | [], i, h => by simp only [Lib.indexByte] at h; omega
 | b :: l, i, h => by
  unfold Lib.indexByte at h
  split at h
  ·rename_i hb
   obtain rfl : i = 0 := by omega
   have : b = 32 := by simpa using hb
   subst this
   simp
  ·rename_i hb
   have hge := Lib.indexByte_ge l 32
   split at h
   ·omega
   ·rename_i h2
    have h3 : Lib.indexByte l 32 ≠ -1 := by simpa using h2
    obtain ⟨q, hq⟩ : ∃ q : Nat, Lib.indexByte l 32 = q := ⟨(Lib.indexByte l 32).toNat, by omega⟩
    obtain rfl : i = q + 1 := by omega
    obtain ⟨h4, h5, h6⟩ := index_some hq
    refine ⟨by simp; omega, ?_, ?_⟩
    ·rw [List.take_succ_cons, List.drop_succ_cons, List.cons_append, ← h5]
    ·rw [List.take_succ_cons]
     intro hm
     rcases List.mem_cons.1 hm with h7 | h7
     ·exact hb (by simp [h7])
     ·exact h6 h7
theorem splitB_words : ∀ (k : Nat) (s : ByteArray), s.data.toList.count 32 ≤ k → bytesOfL (Lib.splitB blank1 0 k s) = wordsL s.data.toList
 | 0, s, h => by
  have hn : (32 : UInt8) ∉ s.data.toList := fun hm => by have := List.count_pos_iff.2 hm; omega
  rw [wordsL_one hn]; rfl
 | k + 1, s, h => by
  have hi : Lib.indexB s blank1 = Lib.indexByte s.data.toList 32 := by show Lib.index s.data.toList [32] = _; rw [Lib.index_one]
  unfold Lib.splitB
  rw [hi]
  have hge := Lib.indexByte_ge s.data.toList 32
  by_cases h1 : Lib.indexByte s.data.toList 32 = -1
  ·rw [zC (by rw [h1]; rfl), wordsL_one (index_none h1)]; rfl
  ·obtain ⟨i, hq⟩ : ∃ i : Nat, Lib.indexByte s.data.toList 32 = i := ⟨(Lib.indexByte s.data.toList 32).toNat, by omega⟩
   obtain ⟨h2, h3, h4⟩ := index_some hq
   rw [zD (by simpa using h1), hq, Int.toNat_natCast]
   have hsz : s.size = s.data.toList.length := by simp
   have e1 : (s.extract 0 (i + 0)).data.toList = s.data.toList.take i := by rw [ex_list]; simp
   have e2 : (s.extract (i + blank1.size) s.size).data.toList = s.data.toList.drop (i + 1) := by
    rw [ex_list, hsz]
    show (s.data.toList.drop (i + 1)).take _ = _
    have hb1 : blank1.size = 1 := rfl
    rw [List.take_of_length_le (by rw [List.length_drop, hb1]; omega)]
   have hc : (s.data.toList.drop (i + 1)).count 32 ≤ k := by
    have := congrArg (List.count 32) h3
    rw [List.count_append, List.count_cons_self] at this
    omega
   have ih := splitB_words k (s.extract (i + blank1.size) s.size) (by rw [e2]; exact hc)
   have hw := wordsL_cons (s.data.toList.drop (i + 1)) h4
   rw [← h3] at hw
   rw [hw, ← e2, ← ih]
   show (s.extract 0 (i + 0)).data.toList :: _ = _
   rw [e1]
   rfl
theorem wordsOf_bytes (s : ByteArray) : bytesOfL (wordsOf s) = wordsL s.data.toList := by
 refine splitB_words _ s ?_
 show _ ≤ Lib.count s.data.toList [32]
 rw [Lib.count_one]
 exact Nat.le_refl _
theorem wordsOf_of {s : ByteArray} {ws : List ByteArray} (h : bytesOfL ws = wordsL s.data.toList) : wordsOf s = ws := bytes_inj ((wordsOf_bytes s).trans h.symm)
theorem refwords_loop (s : ByteArray) (hs : s.size ≤ 1000000) : ∀ (d i f : Nat) (out : List ByteArray), s.size + 1 - i = d → i ≤ s.size + 1 → f ≤ i → out.length ≤ i → (i ≤ s.size → (32 : UInt8) ∉ (s.data.toList.drop f).take (i - f)) →
 ∃ r, Ev (fun k => cubbyref08_words.l0 k s out (f : Int) (i : Int)) r ∧ bytesOfL r = bytesOfL out ++ (if i ≤ s.size then wordsL (s.data.toList.drop f) else []) := by
 have hsz : s.size = s.data.toList.length := by simp
 intro d
 induction d with
 | zero =>
  intro i f out hd hi hf ho hn
  refine ⟨out, ⟨1, fun k hk => ?_⟩, by rw [zD (by omega), List.append_nil]⟩
  obtain ⟨q, rfl⟩ : ∃ q, k = q + 1 := ⟨k - 1, by omega⟩
  simp only [cubbyref08_words.l0]
  rw [zD (by omega)]
 | succ d ih =>
  intro i f out hd hi hf ho hn
  have hie : i ≤ s.size := by omega
  have hex : (s.extract f i).data.toList = (s.data.toList.drop f).take (i - f) := ex_list s f i
  have hnn := hn hie
  by_cases hend : i = s.size
  ·obtain ⟨r, hr, hr2⟩ := ih (i + 1) (i + 1) (out ++ [s.extract f i]) (by omega) (by omega) (Nat.le_refl _) (by simp; omega) (fun h => absurd h (by omega))
   refine ⟨r, Ev.step (fun k => ?_) hr, ?_⟩
   ·simp only [cubbyref08_words.l0]
    rw [zC (by omega), zC (by omega), zC (by omega), zC (by omega), zC (by omega), wrap_nat (by omega), Int.toNat_natCast, Int.toNat_natCast]
   ·rw [hr2, zD (by omega), List.append_nil, zC hie]
    have e : (s.data.toList.drop f).take (i - f) = s.data.toList.drop f := List.take_of_length_le (by simp; omega)
    rw [e] at hnn hex
    rw [wordsL_one hnn]
    simp only [bytesOfL, List.map_append, List.map_cons, List.map_nil, hex]
  ·have hlt : i < s.data.toList.length := by omega
   have hbt := bt_get hlt
   have hsplit : s.data.toList.drop f = (s.data.toList.drop f).take (i - f) ++ s.data.toList[i] :: s.data.toList.drop (i + 1) := by
    have h1 := (List.take_append_drop (i - f) (s.data.toList.drop f)).symm
    rw [List.drop_drop, show f + (i - f) = i by omega, List.drop_eq_getElem_cons hlt] at h1
    exact h1
   by_cases hb : s.data.toList[i] = 32
   ·obtain ⟨r, hr, hr2⟩ := ih (i + 1) (i + 1) (out ++ [s.extract f i]) (by omega) (by omega) (Nat.le_refl _) (by simp; omega) (fun h => by simp)
    refine ⟨r, Ev.step (fun k => ?_) hr, ?_⟩
    ·simp only [cubbyref08_words.l0]
     rw [zC (by omega), zD (by omega), zC (by omega), zC (by omega), hbt, hb, zC (by decide), zC (by omega), zC (by omega), zC (by omega), wrap_nat (by omega), Int.toNat_natCast, Int.toNat_natCast]
    ·rw [hr2, zC (by omega), zC hie]
     rw [hb] at hsplit
     rw [hsplit, wordsL_cons _ hnn]
     simp only [bytesOfL, List.map_append, List.map_cons, List.map_nil, hex, List.append_assoc, List.cons_append, List.nil_append]
   ·obtain ⟨r, hr, hr2⟩ := ih (i + 1) f out (by omega) (by omega) (by omega) (by omega) (fun h => by
     have e : (s.data.toList.drop f).take (i + 1 - f) = (s.data.toList.drop f).take (i - f) ++ [s.data.toList[i]] := by
      rw [show i + 1 - f = (i - f) + 1 by omega, List.take_succ_eq_append_getElem (by simp; omega)]
      simp only [List.getElem_drop, show f + (i - f) = i by omega]
     rw [e]
     intro hm
     rcases List.mem_append.1 hm with h1 | h1
     ·exact hnn h1
     ·exact hb (List.mem_singleton.1 h1).symm)
    refine ⟨r, Ev.step (fun k => ?_) hr, ?_⟩
    ·simp only [cubbyref08_words.l0]
     have hne : ¬ ((s.data.toList[i]).toNat : Int) = 32 := fun e => hb (by
      have : (s.data.toList[i]).toNat = 32 := by omega
      exact UInt8.toNat_inj.1 this)
     rw [zC (by omega), zD (by omega), zC (by omega), zC (by omega), hbt, zD hne, wrap_nat (by omega)]
    ·rw [hr2, zC hie, zC (by omega)]
theorem refwords_ev (s : ByteArray) (hs : s.size ≤ 1000000) : Ev (fun k => cubbyref08_words.f k s) (wordsOf s) := by
 obtain ⟨r, hr, hr2⟩ := refwords_loop s hs _ 0 0 [] rfl (by omega) (Nat.le_refl _) (Nat.zero_le _) (fun _ => by simp)
 rw [zC (by omega), List.drop_zero] at hr2
 rw [wordsOf_of (ws := r) (by rw [hr2]; rfl)]
 exact hr
end Go.Proofs.YtniknpjeknmpjaaDoor.PlainNum
namespace Go.Proofs.YtniknpjeknmpjaaDoor.Q
open Go.RowKit Go.Proofs.YtniknpjeknmpjaaDoorW.PrintWords Go.Proofs.YtniknpjeknmpjaaDoorW.PrintLast Go.Proofs.YtniknpjeknmpjaaDoorW.PrintMore
attribute [local go_sem] max2_int min2_int max_two min_two max_three min_three max_four min_four
set_option linter.unusedVariables false
set_option linter.unusedSimpArgs false

def cubbyref08_read.l0 : Nat → List ByteArray → Int → Int → List Int → ByteArray → Int → Option (List Int × ByteArray × Int)
 | 0, _, _, _, _, _, _ => none
 | k + 1, x0, x1, x2, x9, x10, x11 => if x11 < x1 then (if x11 = x2 then (if 0 ≤ (wrap64 (x11 + 1)) then (if (wrap64 (x11 + 1)) < (x0.length : Int) then ((cubbyref07_Name.f k (rdOf ByteArray.empty x0 (wrap64 (x11 + 1)))).bind fun t174 => (if t174 = true then (cubbyref08_read.l0 k x0 x1 x2 x9 (rdOf ByteArray.empty x0 (wrap64 (x11 + 1))) (wrap64 (x11 + 1))) else (some (([] : List Int), (⟨#[]⟩ : ByteArray), 80)))) else (none)) else (none)) else (if 0 ≤ (wrap64 (x11 + 1)) then (if (wrap64 (x11 + 1)) < (x0.length : Int) then ((cubbyref08_Number.f k (rdOf ByteArray.empty x0 (wrap64 (x11 + 1)))).bind fun bt177 => (if bt177.2 = true then (if x9.length < 17592186044416 then (cubbyref08_read.l0 k x0 x1 x2 (x9 ++ [bt177.1]) x10 (wrap64 (x11 + 1))) else (none)) else (some (([] : List Int), (⟨#[]⟩ : ByteArray), 81)))) else (none)) else (none))) else (some (x9, x10, 0))
def cubbyref08_read.f (k : Nat) (l0 : List ByteArray) (a1 : Int) (a2 : Int) : Option (List Int × ByteArray × Int) := if (l0.length : Int) = (wrap64 (a1 + 1)) then (cubbyref08_read.l0 k l0 a1 a2 (([] : List Int)) (⟨#[]⟩ : ByteArray) 0) else (some (([] : List Int), (⟨#[]⟩ : ByteArray), 80))
set_option maxHeartbeats 8000000 in
set_option maxRecDepth 100000 in
theorem cubbyref08_read.calls (k : Nat) (A0 : Option Addr) (c0 : Nat) (l0 : List ByteArray) (a1 : Int) (a2 : Int) (r1 : List Int) (r2 : ByteArray) (r3 : Int) (w : World) (hr0 : Kd.C Kd.string w A0 l0.length l0) (hc0 : l0.length ≤ c0) (h : cubbyref08_read.f k l0 a1 a2 = some (r1, r2, r3)) :
 Calls Tryd.prog 44 #[.slice A0 l0.length c0, .int .i64 a1, .int .i64 a2] w fun e w' => ∃ v0_ : Value, e = .returned (.tuple #[v0_, .string r2, .int .i64 r3]) ∧ Kd.R (Kd.int .i64) 3 w' w.heap.size (fun _ => True) v0_ r1 ∧ Below w.heap.size w w' := by
 have HR0 := zA hr0
 have HC0 := zA hc0
 clear hr0 hc0
 have HB := zA (Below.refl w.heap.size w)
 have H := h; clear h; unfold cubbyref08_read.f at H
 by_cases c4 : (l0.length : Int) = (wrap64 (a1 + 1))
 ·rw [zC c4] at H
  obtain ⟨c4b0, c4b1⟩ := qe c4; clear c4
  obtain ⟨y170, hy170⟩ : ∃ y_ : List Int, y_ = (([] : List Int)) := ⟨_, rfl⟩
  replace H : (cubbyref08_read.l0 k l0 a1 a2 y170 (⟨#[]⟩ : ByteArray) 0) = some (r1, r2, r3) := by (try rw [hy170]); first | with_reducible exact H | exact (zJ _ _).symm.trans H | exact H
  have Ny170 := zA hy170
  clear hy170
  have H' := zA H
  clear H
  go_enter Tryd.func44, Tryd.ntmps44
  go_wp2_with (first | ((with_reducible refine gate_dst (N := 19) rfl ?_); refine Kd.R_lit (Kd.int .i64) _ 3 (by rfl) (N := 19) (by rfl) (xs := ([] : List Int)) (inner := []) (ok := fun _ => True) (okp := fun _ => True) ?hr ?hp (fun _ hk => hk) trivial (Below.refl _ _) (Nat.le_refl _) (by simp) ?_; (case hr => go_simp <;> rfl); (case hp => exact (Reps.none _ _)); intro v171 w5 ho6 hb hg_ hnew_; clear hg_ hnew_; (first | rw [← Ny170.out] at ho6 | (simp only [Int.reduceToNat] at ho6; rw [← Ny170.out] at ho6)); have HO172 := zA (Kd.R_lower ho6 (below_size qB)); replace HB := qH hb; clear hb ho6))
  go_loopg [9, 10, 11] k (fun kq v9 v10 v11 w' => ∃ (x9_1 : List Int) (x10_1 : ByteArray) (x11_1 : Int), v10 = .string x10_1 ∧ v11 = .int .i64 x11_1 ∧ Aside0 (cubbyref08_read.l0 kq l0 a1 a2 x9_1 x10_1 x11_1 = some (r1, r2, r3)) ∧ Aside0 (kq ≤ k) ∧ Aside0 (Kd.R (Kd.int .i64) 3 w' w.heap.size (fun _ => True) v9 x9_1) ∧ Aside0 (Below w.heap.size w w'))
  case atStart => exact ⟨(y170), ((⟨#[]⟩ : ByteArray)), (0), qT, qT, H', ⟨Nat.le_refl _⟩, ⟨qR HO172.out⟩, ⟨qB⟩⟩
  case round =>
   clear H'
   try clear p2; try clear c4b0 c4b1; try clear p6
   obtain ⟨x9_1, x10_1, x11_1, rfl, rfl, HA, HK1, HO_9, HB⟩ := hrel
   cases gk with
   | zero => exact absurd HA.out (by simp [cubbyref08_read.l0])
   | succ k1 =>
    have H := HA.out
    clear HA
    simp only [cubbyref08_read.l0] at H
    by_cases c7 : x11_1 < a1
    ·rw [zC c7] at H
     have c7b0 := zF c7
     clear c7
     by_cases c8 : x11_1 = a2
     ·rw [zC c8] at H
      obtain ⟨c8b0, c8b1⟩ := qe c8; clear c8
      obtain ⟨ji9, hji9⟩ : ∃ j_ : Int, (wrap64 (x11_1 + 1)) = j_ := ⟨_, rfl⟩
      replace H : (if 0 ≤ (ji9) then (if (ji9) < (l0.length : Int) then ((cubbyref07_Name.f k1 (rdOf ByteArray.empty l0 (ji9))).bind fun t174 => (if t174 = true then (cubbyref08_read.l0 k1 l0 a1 a2 x9_1 (rdOf ByteArray.empty l0 (ji9)) ji9) else (some (([] : List Int), (⟨#[]⟩ : ByteArray), 80)))) else (none)) else (none)) = some (r1, r2, r3) := by first | (rw [hji9] at H; exact H) | (simp only [hji9] at H ⊢; exact H)
      have hji9w : (IntKind.i64.wrap (x11_1 + 1)) = ji9 := (i64_w _).trans hji9
      by_cases c10 : 0 ≤ (ji9)
      ·rw [zC c10] at H
       have c10b0 := zF c10
       clear c10
       by_cases c11 : (ji9) < (l0.length : Int)
       ·rw [zC c11] at H
        have c11b0 := zF c11
        clear c11
        replace H := qb H; obtain ⟨t174, A12, H⟩ := H
        by_cases c13 : t174 = true
        ·subst c13
         have H1 : (cubbyref08_read.l0 k1 l0 a1 a2 x9_1 (rdOf ByteArray.empty l0 (ji9)) ji9) = some (r1, r2, r3) := by rw [zC rfl] at H; exact H
         clear H
         have H := H1
         clear H1
         have H' := zA H
         clear H
         have p173 : 0 ≤ ((ji9) : Int) := zB qA
         have q173 : (ji9) < (l0.length : Int) := zB qA
         obtain ⟨ad173, e173, hx173_0⟩ := Kd.at_string HR0.out (ji9) p173 q173
         cases e173
         replace hx173_0 := (HB.out.cell (zE w _ hx173_0)).trans hx173_0
         replace p173 := eq_true p173
         replace q173 := eq_true q173
         go_wp2_with (first | ((with_reducible refine gate_callee (f := 34) rfl ?_); refine goesL_ (some 33) rfl rfl Tryd.func34 (by kernel_rfl) rfl #[.string (rdOf ByteArray.empty l0 (ji9))] rfl (by (try simp only [List.map_toArray, List.map_cons, List.map_nil]); first | done | (simp only [hji9]; rfl) | rfl | (simp only [List.length_drop, List.length_take]; rfl)) ?_; (with_reducible refine (cubbyref07_Name.calls k1 (rdOf ByteArray.empty l0 (ji9)) true _ A12.out).mono ?_); rintro e w' ⟨rfl, ⟨nd, rfl⟩⟩; refine ⟨_, rfl, ?_⟩; have p175 : 0 ≤ ((ji9) : Int) := zB qA; have q175 : (ji9) < (l0.length : Int) := zB qA; obtain ⟨ad175, e175, hx175_0⟩ := Kd.at_string HR0.out (ji9) p175 q175; obtain rfl : ad173 = ad175 := (by injection e175); replace hx175_0 := (HB.out.cell (zE w _ hx175_0)).trans hx175_0; replace p175 := eq_true p175; replace q175 := eq_true q175))
         go_roundg k1
         case measure => have := HK1.out; omega
         case rel => exact ⟨(x9_1), (rdOf ByteArray.empty l0 (ji9)), (ji9), (by first | rfl | (simp; done) | (simp only [← hji9] <;> (first | rfl | simp)) | (simp [*]; done)), (by first | rfl | (simp; done) | (simp only [← hji9] <;> (first | rfl | simp)) | (simp [*]; done)), H', ⟨by have := HK1.out; omega⟩, ⟨qR HO_9.out⟩, ⟨qB⟩⟩
        ·replace c13 := Bool.eq_false_iff.mpr c13
         subst c13
         have H1 : (some (([] : List Int), (⟨#[]⟩ : ByteArray), 80)) = some (r1, r2, r3) := by rw [zD (show ¬ (false = true) by decide)] at H; exact H
         clear H
         have H := H1
         clear H1
         simp only [Option.some.injEq, Prod.mk.injEq] at H
         obtain ⟨rfl, rfl, rfl⟩ := H
         have p173 : 0 ≤ ((ji9) : Int) := zB qA
         have q173 : (ji9) < (l0.length : Int) := zB qA
         obtain ⟨ad173, e173, hx173_0⟩ := Kd.at_string HR0.out (ji9) p173 q173
         cases e173
         replace hx173_0 := (HB.out.cell (zE w _ hx173_0)).trans hx173_0
         replace p173 := eq_true p173
         replace q173 := eq_true q173
         go_wp2_with (first | ((with_reducible refine gate_callee (f := 34) rfl ?_); refine goesL_ (some 33) rfl rfl Tryd.func34 (by kernel_rfl) rfl #[.string (rdOf ByteArray.empty l0 (ji9))] rfl (by (try simp only [List.map_toArray, List.map_cons, List.map_nil]); first | done | (simp only [hji9]; rfl) | rfl | (simp only [List.length_drop, List.length_take]; rfl)) ?_; (with_reducible refine (cubbyref07_Name.calls k1 (rdOf ByteArray.empty l0 (ji9)) false _ A12.out).mono ?_); rintro e w' ⟨rfl, ⟨nd, rfl⟩⟩; refine ⟨_, rfl, ?_⟩))
         go_ret3
         exact ⟨_, by first | rfl | (simp [errW_none, errW_some] <;> rfl) | (simp only [← hji9]; first | rfl | (simp [errW_none, errW_some] <;> rfl)) | (simp [*, errW_none, errW_some] <;> rfl), by first | exact Kd.R_nil _ _ _ _ _ | exact Kd.N_nil _ _ _ _ _ | exact Kd.V_nil _ _ _ _ _ | exact Kd.Q_nil _ _ _ _ _ | exact Kd.S_nil _ _ _ _ _, qB⟩
       ·rw [zD c11] at H
        exact absurd H (by simp)
      ·rw [zD c10] at H
       exact absurd H (by simp)
     ·rw [zD c8] at H
      obtain ⟨c8b0, c8b1⟩ := qn c8
      obtain ⟨ji14, hji14⟩ : ∃ j_ : Int, (wrap64 (x11_1 + 1)) = j_ := ⟨_, rfl⟩
      replace H : (if 0 ≤ (ji14) then (if (ji14) < (l0.length : Int) then ((cubbyref08_Number.f k1 (rdOf ByteArray.empty l0 (ji14))).bind fun bt177 => (if bt177.2 = true then (if x9_1.length < 17592186044416 then (cubbyref08_read.l0 k1 l0 a1 a2 (x9_1 ++ [bt177.1]) x10_1 ji14) else (none)) else (some (([] : List Int), (⟨#[]⟩ : ByteArray), 81)))) else (none)) else (none)) = some (r1, r2, r3) := by first | (rw [hji14] at H; exact H) | (simp only [hji14] at H ⊢; exact H)
      have hji14w : (IntKind.i64.wrap (x11_1 + 1)) = ji14 := (i64_w _).trans hji14
      by_cases c15 : 0 ≤ (ji14)
      ·rw [zC c15] at H
       have c15b0 := zF c15
       clear c15
       by_cases c16 : (ji14) < (l0.length : Int)
       ·rw [zC c16] at H
        have c16b0 := zF c16
        clear c16
        replace H := Option.bind_eq_some_iff.mp H
        obtain ⟨⟨t177, t178⟩, A170, H⟩ := H
        replace H : (if t178 = true then (if x9_1.length < 17592186044416 then (cubbyref08_read.l0 k1 l0 a1 a2 (x9_1 ++ [t177]) x10_1 ji14) else (none)) else (some (([] : List Int), (⟨#[]⟩ : ByteArray), 81))) = some (r1, r2, r3) := H
        have A17 := zA A170
        clear A170
        by_cases c18 : t178 = true
        ·subst c18
         have H1 : (if x9_1.length < 17592186044416 then (cubbyref08_read.l0 k1 l0 a1 a2 (x9_1 ++ [t177]) x10_1 ji14) else (none)) = some (r1, r2, r3) := by rw [zC rfl] at H; exact H
         clear H
         have H := H1
         clear H1
         by_cases c19 : x9_1.length < 17592186044416
         ·rw [zC c19] at H
          have LMc19 := zA c19
          clear c19
          obtain ⟨y179, hy179⟩ : ∃ y_ : List Int, y_ = (x9_1 ++ [t177]) := ⟨_, rfl⟩
          replace H : (cubbyref08_read.l0 k1 l0 a1 a2 y179 x10_1 ji14) = some (r1, r2, r3) := by (try rw [hy179]); first | with_reducible exact H | exact (zJ _ _).symm.trans H | exact H
          have Ny179 := zA hy179
          clear hy179
          have H' := zA H
          clear H
          have p176 : 0 ≤ ((ji14) : Int) := zB qA
          have q176 : (ji14) < (l0.length : Int) := zB qA
          obtain ⟨ad176, e176, hx176_0⟩ := Kd.at_string HR0.out (ji14) p176 q176
          cases e176
          replace hx176_0 := (HB.out.cell (zE w _ hx176_0)).trans hx176_0
          replace p176 := eq_true p176
          replace q176 := eq_true q176
          go_wp2_with (first | ((with_reducible refine gate_callee (f := 60) rfl ?_); refine goesL_ (some 46) rfl rfl Tryd.func60 (by kernel_rfl) rfl #[.string (rdOf ByteArray.empty l0 (ji14))] rfl (by (try simp only [List.map_toArray, List.map_cons, List.map_nil]); first | done | (simp only [hji14]; rfl) | rfl | (simp only [List.length_drop, List.length_take]; rfl)) ?_; (with_reducible refine (cubbyref08_Number.calls k1 (rdOf ByteArray.empty l0 (ji14)) t177 true _ A17.out).mono ?_); rintro e w' ⟨rfl, ⟨nd, rfl⟩⟩; refine ⟨_, rfl, ?_⟩) | ((with_reducible refine gate_builtin (b := .append) (xs := #[.tmp 51, .tmp 53]) rfl ?_); at_builtin; refine Kd.R_append (Kd.int .i64) (w0 := w) w.heap.size rfl (.tmp 51) (.tmp 53) 41 3 (.int .i64 0) 8 rfl Tryd.underlying41 info3 rfl (by decide) (by omega) u9 x9_1 t177 [.int .i64 t177] (fun _ => True) (fun _ => False) rfl rfl ?aP (fun _ hk => hk.elim) ?aF ?aO ?aB ?aS ?aL ?_; (case aP => exact rfl); (case aB => exact qB); (case aF => exact (fun _ _ => trivial)); (case aO => exact (qR HO_9.out)); (case aS => exact (below_size qB)); (case aL => have := LMc19.out; omega); intro v180 w20 ho hb hg hat; rw [← Ny179.out] at ho; replace HB := zA (hb); have HO181 := zA (ho); clear HO_9; clear ho hb hg hat))
          go_roundg k1
          case measure => have := HK1.out; omega
          case rel => exact ⟨(y179), (x10_1), (ji14), qT, (by first | rfl | (simp; done) | (simp only [← hji14] <;> (first | rfl | simp)) | (simp [*]; done)), H', ⟨by have := HK1.out; omega⟩, ⟨qR HO181.out⟩, ⟨qB⟩⟩
         ·rw [zD c19] at H
          exact absurd H (by simp)
        ·replace c18 := Bool.eq_false_iff.mpr c18
         subst c18
         have H1 : (some (([] : List Int), (⟨#[]⟩ : ByteArray), 81)) = some (r1, r2, r3) := by rw [zD (show ¬ (false = true) by decide)] at H; exact H
         clear H
         have H := H1
         clear H1
         simp only [Option.some.injEq, Prod.mk.injEq] at H
         obtain ⟨rfl, rfl, rfl⟩ := H
         have p176 : 0 ≤ ((ji14) : Int) := zB qA
         have q176 : (ji14) < (l0.length : Int) := zB qA
         obtain ⟨ad176, e176, hx176_0⟩ := Kd.at_string HR0.out (ji14) p176 q176
         cases e176
         replace hx176_0 := (HB.out.cell (zE w _ hx176_0)).trans hx176_0
         replace p176 := eq_true p176
         replace q176 := eq_true q176
         go_wp2_with (first | ((with_reducible refine gate_callee (f := 60) rfl ?_); refine goesL_ (some 46) rfl rfl Tryd.func60 (by kernel_rfl) rfl #[.string (rdOf ByteArray.empty l0 (ji14))] rfl (by (try simp only [List.map_toArray, List.map_cons, List.map_nil]); first | done | (simp only [hji14]; rfl) | rfl | (simp only [List.length_drop, List.length_take]; rfl)) ?_; (with_reducible refine (cubbyref08_Number.calls k1 (rdOf ByteArray.empty l0 (ji14)) t177 false _ A17.out).mono ?_); rintro e w' ⟨rfl, ⟨nd, rfl⟩⟩; refine ⟨_, rfl, ?_⟩))
         go_ret3
         exact ⟨_, by first | rfl | (simp [errW_none, errW_some] <;> rfl) | (simp only [← hji14]; first | rfl | (simp [errW_none, errW_some] <;> rfl)) | (simp [*, errW_none, errW_some] <;> rfl), by first | exact Kd.R_nil _ _ _ _ _ | exact Kd.N_nil _ _ _ _ _ | exact Kd.V_nil _ _ _ _ _ | exact Kd.Q_nil _ _ _ _ _ | exact Kd.S_nil _ _ _ _ _, qB⟩
       ·rw [zD c16] at H
        exact absurd H (by simp)
      ·rw [zD c15] at H
       exact absurd H (by simp)
    ·rw [zD c7] at H
     have c7b0 := zG c7
     clear c7
     simp only [Option.some.injEq, Prod.mk.injEq] at H
     obtain ⟨rfl, rfl, rfl⟩ := H
     go_wp2
     go_ret3
     exact ⟨_, qE, qR HO_9.out, qB⟩
 ·rw [zD c4] at H
  obtain ⟨c4b0, c4b1⟩ := qn c4
  simp only [Option.some.injEq, Prod.mk.injEq] at H
  obtain ⟨rfl, rfl, rfl⟩ := H
  go_enter Tryd.func44, Tryd.ntmps44
  go_wp2
  go_ret3
  exact ⟨_, qE, by first | exact Kd.R_nil _ _ _ _ _ | exact Kd.N_nil _ _ _ _ _ | exact Kd.V_nil _ _ _ _ _ | exact Kd.Q_nil _ _ _ _ _ | exact Kd.S_nil _ _ _ _ _, qB⟩
end Go.Proofs.YtniknpjeknmpjaaDoor.Q
namespace Go.Proofs.YtniknpjeknmpjaaDoor.PlainNum
open Go Go.RowKit Go.Proofs.YtniknpjeknmpjaaDoorW.PrintWords Go.Proofs.YtniknpjeknmpjaaDoorW.PrintMore Go.Proofs.YtniknpjeknmpjaaDoor.Q Go.Proofs.YtniknpjeknmpjaaDoor.Plain Go.Proofs.YtniknpjeknmpjaaDoor.PlainName
set_option linter.unusedVariables false
def readL (name : Int) : Nat → List ByteArray → List Int → ByteArray → List Int × ByteArray × Int
 | _, [], out, s => (out, s, 0)
 | i, t :: r, out, s => if (i : Int) = name then (if nameOk t = true then readL name (i + 1) r out t else ([], ⟨#[]⟩, 80)) else match numOf t with
  | some v => readL name (i + 1) r (out ++ [v]) s
  | none => ([], ⟨#[]⟩, 81)
theorem rdOf_get (ws : List ByteArray) {j : Nat} {t : ByteArray} (h : ws[j]? = some t) : rdOf ByteArray.empty ws (j : Int) = t := by
 unfold rdOf; rw [Int.toNat_natCast, List.getD_eq_getElem?_getD, h]; rfl
theorem readL_ev (ws : List ByteArray) (many : Nat) (name : Int) (hl : ws.length = many + 1) (hm : many ≤ 100000) : ∀ (d i : Nat) (out : List Int) (s : ByteArray), many - i = d → i ≤ many → out.length ≤ i →
 Ev (fun k => cubbyref08_read.l0 k ws (many : Int) name out s (i : Int)) (readL name i (ws.drop (i + 1)) out s) := by
 intro d
 induction d with
 | zero =>
  intro i out s hd hi ho
  rw [List.drop_eq_nil_of_le (by omega)]
  refine ⟨1, fun k hk => ?_⟩
  obtain ⟨q, rfl⟩ : ∃ q, k = q + 1 := ⟨k - 1, by omega⟩
  simp only [cubbyref08_read.l0]
  rw [zD (by omega)]
  rfl
 | succ d ih =>
  intro i out s hd hi ho
  have hlt : i + 1 < ws.length := by omega
  have hx := rdOf_get ws (List.getElem?_eq_getElem hlt)
  rw [List.drop_eq_getElem_cons hlt]
  generalize ws[i + 1] = t at hx ⊢
  unfold readL
  by_cases hn : (i : Int) = name
  ·rw [zC hn]
   have h2 : Ev (fun k => (cubbyref07_Name.f k t).bind fun t174 => (if t174 = true then (cubbyref08_read.l0 k ws (many : Int) name out t ((i + 1 : Nat) : Int)) else (some (([] : List Int), (⟨#[]⟩ : ByteArray), 80)))) (if nameOk t = true then readL name (i + 1) (ws.drop (i + 1 + 1)) out t else ([], ⟨#[]⟩, 80)) := by
    refine Ev.bind (refname_ev t) ?_
    cases hk : nameOk t with
    | true => simp only [if_true]; exact ih (i + 1) out t (by omega) (by omega) (by omega)
    | false => exact ⟨0, fun k _ => rfl⟩
   refine Ev.step (fun k => ?_) h2
   simp only [cubbyref08_read.l0]
   rw [zC (by omega), zC hn, wrap_nat (by omega), zC (by omega), zC (by omega), hx]
  ·rw [zD hn]
   obtain ⟨x, hev⟩ := number_all t
   have h2 : Ev (fun k => (cubbyref08_Number.f k t).bind fun bt177 => (if bt177.2 = true then (if out.length < 17592186044416 then (cubbyref08_read.l0 k ws (many : Int) name (out ++ [bt177.1]) s ((i + 1 : Nat) : Int)) else (none)) else (some (([] : List Int), (⟨#[]⟩ : ByteArray), 81)))) (match numOf t with
    | some v => readL name (i + 1) (ws.drop (i + 1 + 1)) (out ++ [v]) s
    | none => ([], ⟨#[]⟩, 81)) := by
    refine Ev.bind hev ?_
    cases numOf t with
    | some v =>
     refine Ev.congr (fun k => ?_) (ih (i + 1) (out ++ [v]) s (by omega) (by omega) (by simp; omega))
     simp only [if_true]
     rw [zC (by omega)]
    | none => exact ⟨0, fun k _ => rfl⟩
   refine Ev.step (fun k => ?_) h2
   simp only [cubbyref08_read.l0]
   rw [zC (by omega), zD hn, wrap_nat (by omega), zC (by omega), zC (by omega), hx]
def readW (ws : List ByteArray) (many : Nat) (name : Int) : List Int × ByteArray × Int := if ws.length = many + 1 then readL name 0 (ws.drop 1) [] ⟨#[]⟩ else ([], ⟨#[]⟩, 80)
theorem read_ev (ws : List ByteArray) (many : Nat) (name : Int) (hm : many ≤ 100000) : Ev (fun k => cubbyref08_read.f k ws (many : Int) name) (readW ws many name) := by
 unfold readW
 by_cases h : ws.length = many + 1
 ·rw [zC h]
  exact Ev.congr (fun k => by unfold cubbyref08_read.f; rw [wrap_nat (by omega), zC (by omega)]; rfl) (readL_ev ws many name h hm _ 0 [] ⟨#[]⟩ rfl (by omega) (by simp))
 ·rw [zD h]
  exact ⟨0, fun k _ => by show cubbyref08_read.f k ws (many : Int) name = _; unfold cubbyref08_read.f; rw [wrap_nat (by omega), zD (by omega)]⟩
end Go.Proofs.YtniknpjeknmpjaaDoor.PlainNum
namespace Go.Proofs.YtniknpjeknmpjaaDoor.Q
open Go.RowKit Go.Proofs.YtniknpjeknmpjaaDoorW.PrintWords Go.Proofs.YtniknpjeknmpjaaDoorW.PrintLast Go.Proofs.YtniknpjeknmpjaaDoorW.PrintMore
attribute [local go_sem] max2_int min2_int max_two min_two max_three min_three max_four min_four
set_option linter.unusedVariables false
set_option linter.unusedSimpArgs false

mutual
def cubbyref08_word.j0 : Nat → Int → Bool → List ByteArray → Bool → Option (ByteArray)
 | 0, _, _, _, _ => none
 | k + 1, x0, x1, x5, x14 => if x14 = true then (if 0 ≤ x0 then (if x0 < (x5.length : Int) then (some (rdOf ByteArray.empty x5 x0)) else (none)) else (none)) else (if x1 = true then (cubbyref08_word.j1 k x0 x1 (x0 == 21)) else (cubbyref08_word.j1 k x0 x1 false))
def cubbyref08_word.j1 : Nat → Int → Bool → Bool → Option (ByteArray)
 | 0, _, _, _ => none
 | k + 1, x0, x1, x23 => if x23 = true then (some (⟨#[102, 101, 116, 99, 104]⟩ : ByteArray)) else (if x1 = true then (if x0 = 22 then (some (⟨#[115, 97, 118, 101]⟩ : ByteArray)) else (some (⟨#[]⟩ : ByteArray))) else (some (⟨#[]⟩ : ByteArray)))
end
def cubbyref08_word.f (k : Nat) (a0 : Int) (a1 : Bool) : Option (ByteArray) := (some (([(⟨#[]⟩ : ByteArray), (⟨#[99, 111, 110, 115, 116]⟩ : ByteArray), (⟨#[99, 111, 112, 121]⟩ : ByteArray), (⟨#[97, 100, 100]⟩ : ByteArray), (⟨#[115, 117, 98]⟩ : ByteArray), (⟨#[109, 117, 108]⟩ : ByteArray), (⟨#[108, 101, 115, 115]⟩ : ByteArray), (⟨#[100, 105, 118]⟩ : ByteArray), (⟨#[108, 111, 97, 100]⟩ : ByteArray), (⟨#[115, 116, 111, 114, 101]⟩ : ByteArray), (⟨#[111, 117, 116]⟩ : ByteArray), (⟨#[99, 97, 108, 108]⟩ : ByteArray), (⟨#[106, 117, 109, 112]⟩ : ByteArray), (⟨#[98, 114, 97, 110, 99, 104]⟩ : ByteArray), (⟨#[114, 101, 116]⟩ : ByteArray)] : List ByteArray) : List ByteArray)).bind fun y182 => (if a0 ≥ 0 then (cubbyref08_word.j0 k a0 a1 y182 (decide (a0 < (y182.length : Int)))) else (cubbyref08_word.j0 k a0 a1 y182 false))
set_option maxHeartbeats 8000000 in
set_option maxRecDepth 100000 in
theorem cubbyref08_word.calls (k : Nat) (a0 : Int) (a1 : Bool) (r : ByteArray) (w : World) (h : cubbyref08_word.f k a0 a1 = some r) :
 Calls Tryd.prog 36 #[.int .i64 a0, .bool a1] w fun e w' => e = .returned (.string r) ∧ Below w.heap.size w w' := by
 have HB := zA (Below.refl w.heap.size w)
 have H := h; clear h; unfold cubbyref08_word.f at H
 obtain ⟨y182, hy182⟩ : ∃ y_ : List ByteArray, y_ = (([(⟨#[]⟩ : ByteArray), (⟨#[99, 111, 110, 115, 116]⟩ : ByteArray), (⟨#[99, 111, 112, 121]⟩ : ByteArray), (⟨#[97, 100, 100]⟩ : ByteArray), (⟨#[115, 117, 98]⟩ : ByteArray), (⟨#[109, 117, 108]⟩ : ByteArray), (⟨#[108, 101, 115, 115]⟩ : ByteArray), (⟨#[100, 105, 118]⟩ : ByteArray), (⟨#[108, 111, 97, 100]⟩ : ByteArray), (⟨#[115, 116, 111, 114, 101]⟩ : ByteArray), (⟨#[111, 117, 116]⟩ : ByteArray), (⟨#[99, 97, 108, 108]⟩ : ByteArray), (⟨#[106, 117, 109, 112]⟩ : ByteArray), (⟨#[98, 114, 97, 110, 99, 104]⟩ : ByteArray), (⟨#[114, 101, 116]⟩ : ByteArray)] : List ByteArray)) := ⟨_, rfl⟩
 replace H : (if a0 ≥ 0 then (cubbyref08_word.j0 k a0 a1 y182 (decide (a0 < (y182.length : Int)))) else (cubbyref08_word.j0 k a0 a1 y182 false)) = some r := by (try rw [hy182]); first | with_reducible exact H | exact (zJ _ _).symm.trans H | exact H
 have Ny182 := zA hy182
 clear hy182
 have HC3 := zA H
 clear H
 go_enter Tryd.func36, Tryd.ntmps36
 go_upto_region 2 with (first | ((with_reducible refine gate_dst (N := 6) rfl ?_); (try (refine gate_guard (by rfl) ?_; dsimp only)); refine Kd.R_lit Kd.string _ 9 (by rfl) (N := 6) (by rfl) (xs := ([(⟨#[]⟩ : ByteArray), (⟨#[99, 111, 110, 115, 116]⟩ : ByteArray), (⟨#[99, 111, 112, 121]⟩ : ByteArray), (⟨#[97, 100, 100]⟩ : ByteArray), (⟨#[115, 117, 98]⟩ : ByteArray), (⟨#[109, 117, 108]⟩ : ByteArray), (⟨#[108, 101, 115, 115]⟩ : ByteArray), (⟨#[100, 105, 118]⟩ : ByteArray), (⟨#[108, 111, 97, 100]⟩ : ByteArray), (⟨#[115, 116, 111, 114, 101]⟩ : ByteArray), (⟨#[111, 117, 116]⟩ : ByteArray), (⟨#[99, 97, 108, 108]⟩ : ByteArray), (⟨#[106, 117, 109, 112]⟩ : ByteArray), (⟨#[98, 114, 97, 110, 99, 104]⟩ : ByteArray), (⟨#[114, 101, 116]⟩ : ByteArray)] : List ByteArray)) (inner := [.string (⟨#[]⟩ : ByteArray), .string (⟨#[99, 111, 110, 115, 116]⟩ : ByteArray), .string (⟨#[99, 111, 112, 121]⟩ : ByteArray), .string (⟨#[97, 100, 100]⟩ : ByteArray), .string (⟨#[115, 117, 98]⟩ : ByteArray), .string (⟨#[109, 117, 108]⟩ : ByteArray), .string (⟨#[108, 101, 115, 115]⟩ : ByteArray), .string (⟨#[100, 105, 118]⟩ : ByteArray), .string (⟨#[108, 111, 97, 100]⟩ : ByteArray), .string (⟨#[115, 116, 111, 114, 101]⟩ : ByteArray), .string (⟨#[111, 117, 116]⟩ : ByteArray), .string (⟨#[99, 97, 108, 108]⟩ : ByteArray), .string (⟨#[106, 117, 109, 112]⟩ : ByteArray), .string (⟨#[98, 114, 97, 110, 99, 104]⟩ : ByteArray), .string (⟨#[114, 101, 116]⟩ : ByteArray)]) (ok := fun _ => True) (okp := fun _ => True) ?hr ?hp (fun _ hk => hk) trivial (Below.refl _ _) (Nat.le_refl _) (by simp) ?_; (case hr => go_simp <;> rfl); (case hp => exact (Reps.one (show Kd.M Kd.string _ _ _ (⟨#[]⟩ : ByteArray) [.string (⟨#[]⟩ : ByteArray)] from rfl) (Reps.one (show Kd.M Kd.string _ _ _ (⟨#[99, 111, 110, 115, 116]⟩ : ByteArray) [.string (⟨#[99, 111, 110, 115, 116]⟩ : ByteArray)] from rfl) (Reps.one (show Kd.M Kd.string _ _ _ (⟨#[99, 111, 112, 121]⟩ : ByteArray) [.string (⟨#[99, 111, 112, 121]⟩ : ByteArray)] from rfl) (Reps.one (show Kd.M Kd.string _ _ _ (⟨#[97, 100, 100]⟩ : ByteArray) [.string (⟨#[97, 100, 100]⟩ : ByteArray)] from rfl) (Reps.one (show Kd.M Kd.string _ _ _ (⟨#[115, 117, 98]⟩ : ByteArray) [.string (⟨#[115, 117, 98]⟩ : ByteArray)] from rfl) (Reps.one (show Kd.M Kd.string _ _ _ (⟨#[109, 117, 108]⟩ : ByteArray) [.string (⟨#[109, 117, 108]⟩ : ByteArray)] from rfl) (Reps.one (show Kd.M Kd.string _ _ _ (⟨#[108, 101, 115, 115]⟩ : ByteArray) [.string (⟨#[108, 101, 115, 115]⟩ : ByteArray)] from rfl) (Reps.one (show Kd.M Kd.string _ _ _ (⟨#[100, 105, 118]⟩ : ByteArray) [.string (⟨#[100, 105, 118]⟩ : ByteArray)] from rfl) (Reps.one (show Kd.M Kd.string _ _ _ (⟨#[108, 111, 97, 100]⟩ : ByteArray) [.string (⟨#[108, 111, 97, 100]⟩ : ByteArray)] from rfl) (Reps.one (show Kd.M Kd.string _ _ _ (⟨#[115, 116, 111, 114, 101]⟩ : ByteArray) [.string (⟨#[115, 116, 111, 114, 101]⟩ : ByteArray)] from rfl) (Reps.one (show Kd.M Kd.string _ _ _ (⟨#[111, 117, 116]⟩ : ByteArray) [.string (⟨#[111, 117, 116]⟩ : ByteArray)] from rfl) (Reps.one (show Kd.M Kd.string _ _ _ (⟨#[99, 97, 108, 108]⟩ : ByteArray) [.string (⟨#[99, 97, 108, 108]⟩ : ByteArray)] from rfl) (Reps.one (show Kd.M Kd.string _ _ _ (⟨#[106, 117, 109, 112]⟩ : ByteArray) [.string (⟨#[106, 117, 109, 112]⟩ : ByteArray)] from rfl) (Reps.one (show Kd.M Kd.string _ _ _ (⟨#[98, 114, 97, 110, 99, 104]⟩ : ByteArray) [.string (⟨#[98, 114, 97, 110, 99, 104]⟩ : ByteArray)] from rfl) (Reps.one (show Kd.M Kd.string _ _ _ (⟨#[114, 101, 116]⟩ : ByteArray) [.string (⟨#[114, 101, 116]⟩ : ByteArray)] from rfl) (Reps.none _ _))))))))))))))))); intro v183 w4 ho5 hb hg_ hnew_; clear hg_ hnew_; (first | rw [← Ny182.out] at ho5 | (simp only [Int.reduceToNat] at ho5; rw [← Ny182.out] at ho5)); have HO184 := zA (Kd.R_lower ho5 (below_size qB)); replace HB := qH hb; clear hb ho5))
 (try simp only [Act.put, List.setIfInBounds_toArray, List.set_cons_zero, List.set_cons_succ])
 go_cut [14] (fun v14 wc => ∃ (kq : Nat) (x14_2 : Bool), v14 = .bool x14_2 ∧ Aside0 (cubbyref08_word.j0 kq a0 a1 y182 x14_2 = some r) ∧ Aside0 (kq ≤ k) ∧ Aside0 (Kd.R Kd.string 9 wc w.heap.size (fun _ => True) v183 y182) ∧ Aside0 (Below w.heap.size w wc))
 case first =>
  have H := HC3.out
  clear HC3
  by_cases c6 : a0 ≥ 0
  ·rw [zC c6] at H
   have c6b0 : decide (0 ≤ a0) = true := zF c6
   clear c6
   (first | rw [c6b0] | (simp only [i64_w, i32_w]; rw [c6b0]) | skip)
   have H' := zA H
   clear H
   obtain ⟨Ao7, co7, eo7⟩ := Kd.R_slice HO184.out
   subst eo7
   go_wp2
   go_meet
   case rel => exact ⟨_, (decide (a0 < (y182.length : Int))), qT, H', ⟨qO⟩, ⟨qR HO184.out⟩, ⟨qB⟩⟩
  ·rw [zD c6] at H
   have c6b0 : decide (0 ≤ a0) = false := zG c6
   clear c6
   (first | rw [c6b0] | (simp only [i64_w, i32_w]; rw [c6b0]) | skip)
   have H' := zA H
   clear H
   go_wp2
   go_meet
   case rel => exact ⟨_, (false), qT, H', ⟨qO⟩, ⟨qR HO184.out⟩, ⟨qB⟩⟩
 case rest =>
  clear HC3
  try clear p2; try clear c3; try clear c6; try clear c6b0
  obtain ⟨kq, x14_2, rfl, HA, HJ2, HO_5, HB⟩ := hcut
  cases kq with
  | zero => exact absurd HA.out (by simp [cubbyref08_word.j0])
  | succ kj2 =>
   have H := HA.out
   clear HA
   simp only [cubbyref08_word.j0] at H
   by_cases c8 : x14_2 = true
   ·subst c8
    have H1 : (if 0 ≤ a0 then (if a0 < (y182.length : Int) then (some (rdOf ByteArray.empty y182 a0)) else (none)) else (none)) = some r := by rw [zC rfl] at H; exact H
    clear H
    have H := H1
    clear H1
    by_cases c9 : 0 ≤ a0
    ·rw [zC c9] at H
     have c9b0 := zF c9
     clear c9
     by_cases c10 : a0 < (y182.length : Int)
     ·rw [zC c10] at H
      have c10b0 := zF c10
      clear c10
      obtain rfl := zI H
      obtain ⟨Ao11, co11, eo11⟩ := Kd.R_slice HO_5.out
      subst eo11
      have p185 : 0 ≤ (a0 : Int) := zB qA
      have q185 : a0 < (y182.length : Int) := zB qA
      obtain ⟨ad185, e185, hx185_0⟩ := Kd.at_string (Kd.R_reads' HO_5.out).2.2 a0 p185 q185
      cases e185
      replace p185 := eq_true p185
      replace q185 := eq_true q185
      go_wp2
      go_ret
      exact ⟨qE, qB⟩
     ·rw [zD c10] at H
      exact absurd H (by simp)
    ·rw [zD c9] at H
     exact absurd H (by simp)
   ·replace c8 := Bool.eq_false_iff.mpr c8
    subst c8
    have H1 : (if a1 = true then (cubbyref08_word.j1 kj2 a0 a1 (a0 == 21)) else (cubbyref08_word.j1 kj2 a0 a1 false)) = some r := by rw [zD (show ¬ (false = true) by decide)] at H; exact H
    clear H
    have H := H1
    clear H1
    have HC12 := zA H
    clear H
    go_upto_region 4 with (fail)
    go_cut [23] (fun v23 wc => ∃ (kq : Nat) (x23_11 : Bool), v23 = .bool x23_11 ∧ Aside0 (cubbyref08_word.j1 kq a0 a1 x23_11 = some r) ∧ Aside0 (kq ≤ kj2) ∧ Aside0 (Below w.heap.size w wc))
    case first =>
     have H := HC12.out
     clear HC12
     by_cases c13 : a1 = true
     ·subst c13
      have H1 : (cubbyref08_word.j1 kj2 a0 true (a0 == 21)) = some r := by rw [zC rfl] at H; exact H
      clear H
      have H := H1
      clear H1
      have H' := zA H
      clear H
      go_wp2
      go_meet
      case rel => exact ⟨_, ((a0 == 21)), qT, H', ⟨by have := HJ2.out; first | omega | exact Nat.le_refl _⟩, ⟨qB⟩⟩
     ·replace c13 := Bool.eq_false_iff.mpr c13
      subst c13
      have H1 : (cubbyref08_word.j1 kj2 a0 false false) = some r := by rw [zD (show ¬ (false = true) by decide)] at H; exact H
      clear H
      have H := H1
      clear H1
      have H' := zA H
      clear H
      go_wp2
      go_meet
      case rel => exact ⟨_, (false), qT, H', ⟨by have := HJ2.out; first | omega | exact Nat.le_refl _⟩, ⟨qB⟩⟩
    case rest =>
     clear HC12
     try clear c1; try clear p1; try clear q1; try clear hx1; try clear p2; try clear c3; try clear c6; try clear c6b0; try clear c8; try clear c9; try clear c9b0; try clear c10; try clear c10b0; try clear c13; try clear hx185_0; try clear p185; try clear q185
     obtain ⟨kq, x23_11, rfl, HA, HJ11, HB⟩ := hcut
     cases kq with
     | zero => exact absurd HA.out (by simp [cubbyref08_word.j1])
     | succ kj11 =>
      have H := HA.out
      clear HA
      simp only [cubbyref08_word.j1] at H
      by_cases c14 : x23_11 = true
      ·subst c14
       have H1 : (some (⟨#[102, 101, 116, 99, 104]⟩ : ByteArray)) = some r := by rw [zC rfl] at H; exact H
       clear H
       have H := H1
       clear H1
       obtain rfl := zI H
       go_wp2
       go_ret
       exact ⟨qE, qB⟩
      ·replace c14 := Bool.eq_false_iff.mpr c14
       subst c14
       have H1 : (if a1 = true then (if a0 = 22 then (some (⟨#[115, 97, 118, 101]⟩ : ByteArray)) else (some (⟨#[]⟩ : ByteArray))) else (some (⟨#[]⟩ : ByteArray))) = some r := by rw [zD (show ¬ (false = true) by decide)] at H; exact H
       clear H
       have H := H1
       clear H1
       by_cases c15 : a1 = true
       ·subst c15
        have H1 : (if a0 = 22 then (some (⟨#[115, 97, 118, 101]⟩ : ByteArray)) else (some (⟨#[]⟩ : ByteArray))) = some r := by rw [zC rfl] at H; exact H
        clear H
        have H := H1
        clear H1
        by_cases c16 : a0 = 22
        ·rw [zC c16] at H
         obtain ⟨c16b0, c16b1⟩ := qe c16; clear c16
         obtain rfl := zI H
         go_wp2
         go_ret
         exact ⟨qE, qB⟩
        ·rw [zD c16] at H
         obtain ⟨c16b0, c16b1⟩ := qn c16
         obtain rfl := zI H
         go_wp2
         go_ret
         exact ⟨qE, qB⟩
       ·replace c15 := Bool.eq_false_iff.mpr c15
        subst c15
        have H1 : (some (⟨#[]⟩ : ByteArray)) = some r := by rw [zD (show ¬ (false = true) by decide)] at H; exact H
        clear H
        have H := H1
        clear H1
        obtain rfl := zI H
        go_wp2
        go_ret
        exact ⟨qE, qB⟩

mutual
def cubbyref08_numbers.j0 : Nat → Bool → List Int → Int → Bool → Int → Int → Int → Int → ByteArray → List Int → Option (List Int)
 | 0, _, _, _, _, _, _, _, _, _, _ => none
 | k + 1, x1, x5, x8, x9, x187000, x187001, x187002, x187003, x187004, x187005 => if x9 = true then ((some (([x187001, x187002, x187003] : List Int) : List Int)).bind fun y190 => (if x5.length + y190.length < 17592186044416 then (some (x5 ++ y190)) else (none))) else (if x8 = 9 then ((some (([x187002, x187003] : List Int) : List Int)).bind fun y196 => (if x5.length + y196.length < 17592186044416 then (some (x5 ++ y196)) else (none))) else (if x8 = 10 then (cubbyref08_numbers.j1 k x1 x5 x8 (x8 == 10) x187000 x187001 x187002 x187003 x187004 x187005) else (if x8 = 12 then (cubbyref08_numbers.j1 k x1 x5 x8 (x8 == 12) x187000 x187001 x187002 x187003 x187004 x187005) else (cubbyref08_numbers.j1 k x1 x5 x8 (x8 == 14) x187000 x187001 x187002 x187003 x187004 x187005))))
def cubbyref08_numbers.j1 : Nat → Bool → List Int → Int → Bool → Int → Int → Int → Int → ByteArray → List Int → Option (List Int)
 | 0, _, _, _, _, _, _, _, _, _, _ => none
 | k + 1, x1, x5, x8, x33, x187000, x187001, x187002, x187003, x187004, x187005 => if x33 = true then (if x5.length < 17592186044416 then (some (x5 ++ [x187002])) else (none)) else (if x8 = 13 then ((some (([x187002, x187003, x187001] : List Int) : List Int)).bind fun y205 => (if x5.length + y205.length < 17592186044416 then (some (x5 ++ y205)) else (none))) else (if x8 = 11 then (if x5.length < 17592186044416 then ((some (x5 ++ [x187001] : List Int)).bind fun y211 => (if x1 = true then (if y211.length < 17592186044416 then (some (y211 ++ [x187002])) else (none)) else (if y211.length + x187005.length < 17592186044416 then (some (y211 ++ x187005)) else (none)))) else (none)) else ((some (([x187001, x187002] : List Int) : List Int)).bind fun y220 => (if x5.length + y220.length < 17592186044416 then (some (x5 ++ y220)) else (none)))))
end
def cubbyref08_numbers.f (k : Nat) (a0_0 : Int) (a0_1 : Int) (a0_2 : Int) (a0_3 : Int) (a0_4 : ByteArray) (l0_5 : List Int) (a1 : Bool) : Option (List Int) := (some (([] : List Int) : List Int)).bind fun y187 => (if a0_0 = 3 then (cubbyref08_numbers.j0 k a1 y187 a0_0 (a0_0 == 3) a0_0 a0_1 a0_2 a0_3 a0_4 l0_5) else (if a0_0 = 4 then (cubbyref08_numbers.j0 k a1 y187 a0_0 (a0_0 == 4) a0_0 a0_1 a0_2 a0_3 a0_4 l0_5) else (if a0_0 = 5 then (cubbyref08_numbers.j0 k a1 y187 a0_0 (a0_0 == 5) a0_0 a0_1 a0_2 a0_3 a0_4 l0_5) else (if a0_0 = 6 then (cubbyref08_numbers.j0 k a1 y187 a0_0 (a0_0 == 6) a0_0 a0_1 a0_2 a0_3 a0_4 l0_5) else (cubbyref08_numbers.j0 k a1 y187 a0_0 (a0_0 == 7) a0_0 a0_1 a0_2 a0_3 a0_4 l0_5)))))
set_option maxHeartbeats 8000000 in
set_option maxRecDepth 100000 in
theorem cubbyref08_numbers.calls (k : Nat) (a0_0 : Int) (a0_1 : Int) (a0_2 : Int) (a0_3 : Int) (a0_4 : ByteArray) (A0_5 : Option Addr) (c0_5 : Nat) (l0_5 : List Int) (a1 : Bool) (r : List Int) (w : World) (hr0_5 : Kd.C (Kd.int .i64) w A0_5 l0_5.length l0_5) (hc0_5 : l0_5.length ≤ c0_5) (h : cubbyref08_numbers.f k a0_0 a0_1 a0_2 a0_3 a0_4 l0_5 a1 = some r) :
 Calls Tryd.prog 37 #[.agg #[.int .i64 a0_0, .int .i64 a0_1, .int .i64 a0_2, .int .i64 a0_3, .string a0_4, .slice A0_5 l0_5.length c0_5], .bool a1] w fun e w' => ∃ v0_ : Value, e = .returned (v0_) ∧ Kd.R (Kd.int .i64) 3 w' w.heap.size (fun _ => True) v0_ r ∧ Below w.heap.size w w' := by
 have hu43 := Tryd.underlying43
 have HR0_5 := zA hr0_5
 have HC0_5 := zA hc0_5
 clear hr0_5 hc0_5
 have HB := zA (Below.refl w.heap.size w)
 have H := h; clear h; unfold cubbyref08_numbers.f at H
 obtain ⟨y187, hy187⟩ : ∃ y_ : List Int, y_ = (([] : List Int)) := ⟨_, rfl⟩
 replace H : (if a0_0 = 3 then (cubbyref08_numbers.j0 k a1 y187 a0_0 (a0_0 == 3) a0_0 a0_1 a0_2 a0_3 a0_4 l0_5) else (if a0_0 = 4 then (cubbyref08_numbers.j0 k a1 y187 a0_0 (a0_0 == 4) a0_0 a0_1 a0_2 a0_3 a0_4 l0_5) else (if a0_0 = 5 then (cubbyref08_numbers.j0 k a1 y187 a0_0 (a0_0 == 5) a0_0 a0_1 a0_2 a0_3 a0_4 l0_5) else (if a0_0 = 6 then (cubbyref08_numbers.j0 k a1 y187 a0_0 (a0_0 == 6) a0_0 a0_1 a0_2 a0_3 a0_4 l0_5) else (cubbyref08_numbers.j0 k a1 y187 a0_0 (a0_0 == 7) a0_0 a0_1 a0_2 a0_3 a0_4 l0_5))))) = some r := by (try rw [hy187]); first | with_reducible exact H | exact (zJ _ _).symm.trans H | exact H
 have Ny187 := zA hy187
 clear hy187
 have HC3 := zA H
 clear H
 go_enter Tryd.func37, Tryd.ntmps37
 go_upto_if 9 with (first | ((with_reducible refine gate_dst (N := 2) rfl ?_); refine box_event (by rfl) (N := 2) (by rfl) (cs := #[.int .i64 a0_0, .int .i64 a0_1, .int .i64 a0_2, .int .i64 a0_3, .string a0_4, .slice A0_5 l0_5.length c0_5]) (t := 43) ?hr ?_; (case hr => go_simp <;> rfl); intro gb186 hg w4 hbox hb; have BK186 := zA (hbox); have GW186 := qG hg; have GE186 := GW186; replace HB := qH hb; clear hb hbox hg) | ((with_reducible refine gate_dst (N := 6) rfl ?_); refine Kd.R_lit (Kd.int .i64) _ 3 (by rfl) (N := 6) (by rfl) (xs := ([] : List Int)) (inner := []) (ok := fun _ => True) (okp := fun _ => True) ?hr ?hp (fun _ hk => hk) trivial (Below.refl _ _) (Nat.le_refl _) (by simp) ?_; (case hr => go_simp <;> rfl); (case hp => exact (Reps.none _ _)); intro v188 w5 ho6 hb hg_ hnew_; clear hg_ hnew_; (first | rw [← Ny187.out] at ho6 | (simp only [Int.reduceToNat] at ho6; rw [← Ny187.out] at ho6)); have HO189 := zA (Kd.R_lower ho6 (below_size qB)); replace BK186 := qW BK186 hb; replace HB := qH hb; clear hb ho6; have z7_0 := bk6 BK186.out))
 (try simp only [Act.put, List.setIfInBounds_toArray, List.set_cons_zero, List.set_cons_succ])
 go_cut [9] (fun v9 wc => ∃ (kq : Nat) (x9_2 : Bool), v9 = .bool x9_2 ∧ Aside0 (cubbyref08_numbers.j0 kq a1 y187 a0_0 x9_2 a0_0 a0_1 a0_2 a0_3 a0_4 l0_5 = some r) ∧ Aside0 (kq ≤ k) ∧ Aside0 (Kd.R (Kd.int .i64) 3 wc w.heap.size (fun _ => True) v188 y187) ∧ Aside0 (wc.heap[gb186]? = some (.cells #[.int .i64 a0_0, .int .i64 a0_1, .int .i64 a0_2, .int .i64 a0_3, .string a0_4, (.slice A0_5 l0_5.length c0_5)] 43 (0, 0))) ∧ Aside0 (Below w.heap.size w wc))
 case first =>
  have H := HC3.out
  clear HC3
  by_cases c8 : a0_0 = 3
  ·rw [zC c8] at H
   obtain ⟨c8b0, c8b1⟩ := qe c8; clear c8
   (first | rw [c8b0] | (simp only [i64_w, i32_w]; rw [c8b0]) | skip)
   have H' := zA H
   clear H
   go_wp2
   go_meet
   case rel => exact ⟨_, ((a0_0 == 3)), qT, H', ⟨qO⟩, ⟨qR HO189.out⟩, ⟨qK BK186.out⟩, ⟨qB⟩⟩
  ·rw [zD c8] at H
   obtain ⟨c8b0, c8b1⟩ := qn c8
   (first | rw [c8b0] | (simp only [i64_w, i32_w]; rw [c8b0]) | skip)
   by_cases c9 : a0_0 = 4
   ·rw [zC c9] at H
    obtain ⟨c9b0, c9b1⟩ := qe c9; clear c9
    have H' := zA H
    clear H
    go_wp2
    go_meet
    case rel => exact ⟨_, ((a0_0 == 4)), qT, H', ⟨qO⟩, ⟨qR HO189.out⟩, ⟨qK BK186.out⟩, ⟨qB⟩⟩
   ·rw [zD c9] at H
    obtain ⟨c9b0, c9b1⟩ := qn c9
    by_cases c10 : a0_0 = 5
    ·rw [zC c10] at H
     obtain ⟨c10b0, c10b1⟩ := qe c10; clear c10
     have H' := zA H
     clear H
     go_wp2
     go_meet
     case rel => exact ⟨_, ((a0_0 == 5)), qT, H', ⟨qO⟩, ⟨qR HO189.out⟩, ⟨qK BK186.out⟩, ⟨qB⟩⟩
    ·rw [zD c10] at H
     obtain ⟨c10b0, c10b1⟩ := qn c10
     by_cases c11 : a0_0 = 6
     ·rw [zC c11] at H
      obtain ⟨c11b0, c11b1⟩ := qe c11; clear c11
      have H' := zA H
      clear H
      go_wp2
      go_meet
      case rel => exact ⟨_, ((a0_0 == 6)), qT, H', ⟨qO⟩, ⟨qR HO189.out⟩, ⟨qK BK186.out⟩, ⟨qB⟩⟩
     ·rw [zD c11] at H
      obtain ⟨c11b0, c11b1⟩ := qn c11
      have H' := zA H
      clear H
      go_wp2
      go_meet
      case rel => exact ⟨_, ((a0_0 == 7)), qT, H', ⟨qO⟩, ⟨qR HO189.out⟩, ⟨qK BK186.out⟩, ⟨qB⟩⟩
 case rest =>
  clear HC3
  try clear c1; try clear p2; try clear c3; try clear c8; try clear c8b0 c8b1; try clear c9; try clear c9b0 c9b1; try clear c10; try clear c10b0 c10b1; try clear c11; try clear c11b0 c11b1; try clear z7_0
  obtain ⟨kq, x9_2, rfl, HA, HJ2, HO_5, BK186, HB⟩ := hcut
  cases kq with
  | zero => exact absurd HA.out (by simp [cubbyref08_numbers.j0])
  | succ kj2 =>
   have H := HA.out
   clear HA
   simp only [cubbyref08_numbers.j0] at H
   by_cases c12 : x9_2 = true
   ·subst c12
    have H1 : ((some (([a0_1, a0_2, a0_3] : List Int) : List Int)).bind fun y190 => (if y187.length + y190.length < 17592186044416 then (some (y187 ++ y190)) else (none))) = some r := by rw [zC rfl] at H; exact H
    clear H
    have H := H1
    clear H1
    obtain ⟨y190, hy190⟩ : ∃ y_ : List Int, y_ = (([a0_1, a0_2, a0_3] : List Int)) := ⟨_, rfl⟩
    replace H : (if y187.length + y190.length < 17592186044416 then (some (y187 ++ y190)) else (none)) = some r := by (try rw [hy190]); first | with_reducible exact H | exact (zJ _ _).symm.trans H | exact H
    have Ny190 := zA hy190
    clear hy190
    by_cases c13 : y187.length + y190.length < 17592186044416
    ·rw [zC c13] at H
     have LMc13 := zA c13
     clear c13
     obtain ⟨y193, hy193⟩ : ∃ y_ : List Int, y_ = (y187 ++ y190) := ⟨_, rfl⟩
     replace H : (some y193) = some r := by (try rw [hy193]); first | with_reducible exact H | exact (zJ _ _).symm.trans H | exact H
     have Ny193 := zA hy193
     clear hy193
     obtain rfl := zI H
     have z14_0 := bk6 BK186.out
     go_wp2_with (first | ((with_reducible refine gate_dst (N := 22) rfl ?_); refine Kd.R_lit (Kd.int .i64) _ 3 (by rfl) (N := 22) (by rfl) (xs := ([a0_1, a0_2, a0_3] : List Int)) (inner := [.int .i64 a0_1, .int .i64 a0_2, .int .i64 a0_3]) (ok := fun _ => True) (okp := fun _ => True) ?hr ?hp (fun _ hk => hk) trivial (Below.refl _ _) (Nat.le_refl _) (by simp) ?_; (case hr => go_simp <;> rfl); (case hp => exact (Reps.one (show Kd.M (Kd.int .i64) _ _ _ a0_1 [.int .i64 a0_1] from rfl) (Reps.one (show Kd.M (Kd.int .i64) _ _ _ a0_2 [.int .i64 a0_2] from rfl) (Reps.one (show Kd.M (Kd.int .i64) _ _ _ a0_3 [.int .i64 a0_3] from rfl) (Reps.none _ _))))); intro v191 w15 ho16 hb hg_ hnew_; clear hg_ hnew_; (first | rw [← Ny190.out] at ho16 | (simp only [Int.reduceToNat] at ho16; rw [← Ny190.out] at ho16)); have HO192 := zA (Kd.R_lower (Kd.R_new' ho16 (Kd.R_lt (qR HO_5.out))) (below_size qB)); replace HO_5 := zA (Kd.R_elder' (qR HO_5.out) (Kd.R_base ho16) hb); replace BK186 := qW BK186 hb; replace HB := qH hb; clear hb ho16; obtain ⟨Ao18, co18, eo18⟩ := Kd.R_slice HO192.out; subst eo18) | ((with_reducible refine gate_builtin (b := .append) (xs := #[.tmp 15, .tmp 22]) rfl ?_); at_builtin; refine Kd.R_append_rows (Kd.int .i64) (w0 := w) w.heap.size rfl (.tmp 15) (.tmp 22) 41 3 (.int .i64 0) 8 rfl Tryd.underlying41 info3 rfl (by decide) (by omega) v188 y187 y190 _ _ _ (fun k_ => some k_ ≠ (.slice Ao18 y190.length co18 : Value).ownBlock) (fun _ => False) rfl rfl ?aO ?aR (fun _ _ h => h) (fun _ h => h.elim) ?aF ?aB ?aS ?aL ?_; (case aR => repeat (first | exact (Kd.R_reads' HO192.out).2.2 | (with_reducible refine Kd.C_alloc ?_ _) | (with_reducible refine Kd.C_drewN ?_ _) | (with_reducible refine Kd.C_drew ?_))); (case aB => exact qB); (case aF => exact (fun k_ hk => Kd.fresh' (Kd.R_lt (qR HO192.out)) k_ hk)); (case aO => exact (by (with_reducible repeat (first | apply Kd.R_alloc | apply Kd.R_drewN | apply Kd.R_drew)); exact Kd.R_mono HO_5.out (fun _ hk => hk.2))); (case aS => exact (below_size qB)); (case aL => have := LMc13.out; omega); intro v194 w17 ho hb hg hat; rw [← Ny193.out] at ho; replace BK186 := zA (blk_grown (qK BK186.out) hg (Kd.R_ne HO_5.out BK186.out (by decide))); replace HO192 := zA (Kd.R_after (ok := (fun _ => True)) (qR HO192.out) hg hat); replace HB := zA (hb); have HO195 := zA (ho); clear HO_5; clear ho hb hg hat))
     go_ret
     exact ⟨_, qE, by (with_reducible repeat (first | apply Kd.R_alloc | apply Kd.R_drewN | apply Kd.R_drew)); exact Kd.R_mono HO195.out (fun _ hk => trivial), qB⟩
    ·rw [zD c13] at H
     exact absurd H (by simp)
   ·replace c12 := Bool.eq_false_iff.mpr c12
    subst c12
    have H1 : (if a0_0 = 9 then ((some (([a0_2, a0_3] : List Int) : List Int)).bind fun y196 => (if y187.length + y196.length < 17592186044416 then (some (y187 ++ y196)) else (none))) else (if a0_0 = 10 then (cubbyref08_numbers.j1 kj2 a1 y187 a0_0 (a0_0 == 10) a0_0 a0_1 a0_2 a0_3 a0_4 l0_5) else (if a0_0 = 12 then (cubbyref08_numbers.j1 kj2 a1 y187 a0_0 (a0_0 == 12) a0_0 a0_1 a0_2 a0_3 a0_4 l0_5) else (cubbyref08_numbers.j1 kj2 a1 y187 a0_0 (a0_0 == 14) a0_0 a0_1 a0_2 a0_3 a0_4 l0_5)))) = some r := by rw [zD (show ¬ (false = true) by decide)] at H; exact H
    clear H
    have H := H1
    clear H1
    by_cases c19 : a0_0 = 9
    ·rw [zC c19] at H
     obtain ⟨c19b0, c19b1⟩ := qe c19; clear c19
     obtain ⟨y196, hy196⟩ : ∃ y_ : List Int, y_ = (([a0_2, a0_3] : List Int)) := ⟨_, rfl⟩
     replace H : (if y187.length + y196.length < 17592186044416 then (some (y187 ++ y196)) else (none)) = some r := by (try rw [hy196]); first | with_reducible exact H | exact (zJ _ _).symm.trans H | exact H
     have Ny196 := zA hy196
     clear hy196
     by_cases c20 : y187.length + y196.length < 17592186044416
     ·rw [zC c20] at H
      have LMc20 := zA c20
      clear c20
      obtain ⟨y199, hy199⟩ : ∃ y_ : List Int, y_ = (y187 ++ y196) := ⟨_, rfl⟩
      replace H : (some y199) = some r := by (try rw [hy199]); first | with_reducible exact H | exact (zJ _ _).symm.trans H | exact H
      have Ny199 := zA hy199
      clear hy199
      obtain rfl := zI H
      have z21_0 := bk6 BK186.out
      go_wp2_with (first | ((with_reducible refine gate_dst (N := 31) rfl ?_); refine Kd.R_lit (Kd.int .i64) _ 3 (by rfl) (N := 31) (by rfl) (xs := ([a0_2, a0_3] : List Int)) (inner := [.int .i64 a0_2, .int .i64 a0_3]) (ok := fun _ => True) (okp := fun _ => True) ?hr ?hp (fun _ hk => hk) trivial (Below.refl _ _) (Nat.le_refl _) (by simp) ?_; (case hr => go_simp <;> rfl); (case hp => exact (Reps.one (show Kd.M (Kd.int .i64) _ _ _ a0_2 [.int .i64 a0_2] from rfl) (Reps.one (show Kd.M (Kd.int .i64) _ _ _ a0_3 [.int .i64 a0_3] from rfl) (Reps.none _ _)))); intro v197 w22 ho23 hb hg_ hnew_; clear hg_ hnew_; (first | rw [← Ny196.out] at ho23 | (simp only [Int.reduceToNat] at ho23; rw [← Ny196.out] at ho23)); have HO198 := zA (Kd.R_lower (Kd.R_new' ho23 (Kd.R_lt (qR HO_5.out))) (below_size qB)); replace HO_5 := zA (Kd.R_elder' (qR HO_5.out) (Kd.R_base ho23) hb); replace BK186 := qW BK186 hb; replace HB := qH hb; clear hb ho23; obtain ⟨Ao25, co25, eo25⟩ := Kd.R_slice HO198.out; subst eo25) | ((with_reducible refine gate_builtin (b := .append) (xs := #[.tmp 26, .tmp 31]) rfl ?_); at_builtin; refine Kd.R_append_rows (Kd.int .i64) (w0 := w) w.heap.size rfl (.tmp 26) (.tmp 31) 41 3 (.int .i64 0) 8 rfl Tryd.underlying41 info3 rfl (by decide) (by omega) v188 y187 y196 _ _ _ (fun k_ => some k_ ≠ (.slice Ao25 y196.length co25 : Value).ownBlock) (fun _ => False) rfl rfl ?aO ?aR (fun _ _ h => h) (fun _ h => h.elim) ?aF ?aB ?aS ?aL ?_; (case aR => repeat (first | exact (Kd.R_reads' HO198.out).2.2 | (with_reducible refine Kd.C_alloc ?_ _) | (with_reducible refine Kd.C_drewN ?_ _) | (with_reducible refine Kd.C_drew ?_))); (case aB => exact qB); (case aF => exact (fun k_ hk => Kd.fresh' (Kd.R_lt (qR HO198.out)) k_ hk)); (case aO => exact (by (with_reducible repeat (first | apply Kd.R_alloc | apply Kd.R_drewN | apply Kd.R_drew)); exact Kd.R_mono HO_5.out (fun _ hk => hk.2))); (case aS => exact (below_size qB)); (case aL => have := LMc20.out; omega); intro v200 w24 ho hb hg hat; rw [← Ny199.out] at ho; replace BK186 := zA (blk_grown (qK BK186.out) hg (Kd.R_ne HO_5.out BK186.out (by decide))); replace HO198 := zA (Kd.R_after (ok := (fun _ => True)) (qR HO198.out) hg hat); replace HB := zA (hb); have HO201 := zA (ho); clear HO_5; clear ho hb hg hat))
      go_ret
      exact ⟨_, qE, by (with_reducible repeat (first | apply Kd.R_alloc | apply Kd.R_drewN | apply Kd.R_drew)); exact Kd.R_mono HO201.out (fun _ hk => trivial), qB⟩
     ·rw [zD c20] at H
      exact absurd H (by simp)
    ·rw [zD c19] at H
     obtain ⟨c19b0, c19b1⟩ := qn c19
     have HC26 := zA H
     clear H
     go_upto_if 33 with (fail)
     go_cut [33] (fun v33 wc => ∃ (kq : Nat) (x33_25 : Bool), v33 = .bool x33_25 ∧ Aside0 (cubbyref08_numbers.j1 kq a1 y187 a0_0 x33_25 a0_0 a0_1 a0_2 a0_3 a0_4 l0_5 = some r) ∧ Aside0 (kq ≤ kj2) ∧ Aside0 (Kd.R (Kd.int .i64) 3 wc w.heap.size (fun _ => True) v188 y187) ∧ Aside0 (wc.heap[gb186]? = some (.cells #[.int .i64 a0_0, .int .i64 a0_1, .int .i64 a0_2, .int .i64 a0_3, .string a0_4, (.slice A0_5 l0_5.length c0_5)] 43 (0, 0))) ∧ Aside0 (Below w.heap.size w wc))
     case first =>
      have H := HC26.out
      clear HC26
      by_cases c27 : a0_0 = 10
      ·rw [zC c27] at H
       obtain ⟨c27b0, c27b1⟩ := qe c27; clear c27
       (first | rw [c27b0] | (simp only [i64_w, i32_w]; rw [c27b0]) | skip)
       have H' := zA H
       clear H
       go_wp2
       go_meet
       case rel => exact ⟨_, ((a0_0 == 10)), qT, H', ⟨by have := HJ2.out; first | omega | exact Nat.le_refl _⟩, ⟨qR HO_5.out⟩, ⟨qK BK186.out⟩, ⟨qB⟩⟩
      ·rw [zD c27] at H
       obtain ⟨c27b0, c27b1⟩ := qn c27
       (first | rw [c27b0] | (simp only [i64_w, i32_w]; rw [c27b0]) | skip)
       by_cases c28 : a0_0 = 12
       ·rw [zC c28] at H
        obtain ⟨c28b0, c28b1⟩ := qe c28; clear c28
        have H' := zA H
        clear H
        go_wp2
        go_meet
        case rel => exact ⟨_, ((a0_0 == 12)), qT, H', ⟨by have := HJ2.out; first | omega | exact Nat.le_refl _⟩, ⟨qR HO_5.out⟩, ⟨qK BK186.out⟩, ⟨qB⟩⟩
       ·rw [zD c28] at H
        obtain ⟨c28b0, c28b1⟩ := qn c28
        have H' := zA H
        clear H
        go_wp2
        go_meet
        case rel => exact ⟨_, ((a0_0 == 14)), qT, H', ⟨by have := HJ2.out; first | omega | exact Nat.le_refl _⟩, ⟨qR HO_5.out⟩, ⟨qK BK186.out⟩, ⟨qB⟩⟩
     case rest =>
      clear HC26
      try clear c1; try clear c2; try clear p2; try clear c3; try clear c8; try clear c8b0 c8b1; try clear c9; try clear c9b0 c9b1; try clear c10; try clear c10b0 c10b1; try clear c11; try clear c11b0 c11b1; try clear c12; try clear c13; try clear c19; try clear c19b0 c19b1; try clear c20; try clear c27; try clear c27b0 c27b1; try clear c28; try clear c28b0 c28b1; try clear z14_0; try clear z21_0; try clear z7_0
      obtain ⟨kq, x33_25, rfl, HA, HJ25, HO_5, BK186, HB⟩ := hcut
      cases kq with
      | zero => exact absurd HA.out (by simp [cubbyref08_numbers.j1])
      | succ kj25 =>
       have H := HA.out
       clear HA
       simp only [cubbyref08_numbers.j1] at H
       by_cases c29 : x33_25 = true
       ·subst c29
        have H1 : (if y187.length < 17592186044416 then (some (y187 ++ [a0_2])) else (none)) = some r := by rw [zC rfl] at H; exact H
        clear H
        have H := H1
        clear H1
        by_cases c30 : y187.length < 17592186044416
        ·rw [zC c30] at H
         have LMc30 := zA c30
         clear c30
         obtain ⟨y202, hy202⟩ : ∃ y_ : List Int, y_ = (y187 ++ [a0_2]) := ⟨_, rfl⟩
         replace H : (some y202) = some r := by (try rw [hy202]); first | with_reducible exact H | exact (zJ _ _).symm.trans H | exact H
         have Ny202 := zA hy202
         clear hy202
         obtain rfl := zI H
         have z31_0 := bk6 BK186.out
         go_wp2_with (first | ((with_reducible refine gate_builtin (b := .append) (xs := #[.tmp 37, .tmp 40]) rfl ?_); at_builtin; refine Kd.R_append (Kd.int .i64) (w0 := w) w.heap.size rfl (.tmp 37) (.tmp 40) 41 3 (.int .i64 0) 8 rfl Tryd.underlying41 info3 rfl (by decide) (by omega) v188 y187 a0_2 [.int .i64 a0_2] (fun _ => True) (fun _ => False) rfl rfl ?aP (fun _ hk => hk.elim) ?aF ?aO ?aB ?aS ?aL ?_; (case aP => exact rfl); (case aB => exact qB); (case aF => exact (fun _ _ => trivial)); (case aO => exact (qR HO_5.out)); (case aS => exact (below_size qB)); (case aL => have := LMc30.out; omega); intro v203 w32 ho hb hg hat; rw [← Ny202.out] at ho; replace BK186 := zA (blk_grown (qK BK186.out) hg (Kd.R_ne HO_5.out BK186.out (by decide))); replace HB := zA (hb); have HO204 := zA (ho); clear HO_5; clear ho hb hg hat))
         go_ret
         exact ⟨_, qE, qR HO204.out, qB⟩
        ·rw [zD c30] at H
         exact absurd H (by simp)
       ·replace c29 := Bool.eq_false_iff.mpr c29
        subst c29
        have H1 : (if a0_0 = 13 then ((some (([a0_2, a0_3, a0_1] : List Int) : List Int)).bind fun y205 => (if y187.length + y205.length < 17592186044416 then (some (y187 ++ y205)) else (none))) else (if a0_0 = 11 then (if y187.length < 17592186044416 then ((some (y187 ++ [a0_1] : List Int)).bind fun y211 => (if a1 = true then (if y211.length < 17592186044416 then (some (y211 ++ [a0_2])) else (none)) else (if y211.length + l0_5.length < 17592186044416 then (some (y211 ++ l0_5)) else (none)))) else (none)) else ((some (([a0_1, a0_2] : List Int) : List Int)).bind fun y220 => (if y187.length + y220.length < 17592186044416 then (some (y187 ++ y220)) else (none))))) = some r := by rw [zD (show ¬ (false = true) by decide)] at H; exact H
        clear H
        have H := H1
        clear H1
        by_cases c33 : a0_0 = 13
        ·rw [zC c33] at H
         obtain ⟨c33b0, c33b1⟩ := qe c33; clear c33
         obtain ⟨y205, hy205⟩ : ∃ y_ : List Int, y_ = (([a0_2, a0_3, a0_1] : List Int)) := ⟨_, rfl⟩
         replace H : (if y187.length + y205.length < 17592186044416 then (some (y187 ++ y205)) else (none)) = some r := by (try rw [hy205]); first | with_reducible exact H | exact (zJ _ _).symm.trans H | exact H
         have Ny205 := zA hy205
         clear hy205
         by_cases c34 : y187.length + y205.length < 17592186044416
         ·rw [zC c34] at H
          have LMc34 := zA c34
          clear c34
          obtain ⟨y208, hy208⟩ : ∃ y_ : List Int, y_ = (y187 ++ y205) := ⟨_, rfl⟩
          replace H : (some y208) = some r := by (try rw [hy208]); first | with_reducible exact H | exact (zJ _ _).symm.trans H | exact H
          have Ny208 := zA hy208
          clear hy208
          obtain rfl := zI H
          have z35_0 := bk6 BK186.out
          go_wp2_with (first | ((with_reducible refine gate_dst (N := 51) rfl ?_); refine Kd.R_lit (Kd.int .i64) _ 3 (by rfl) (N := 51) (by rfl) (xs := ([a0_2, a0_3, a0_1] : List Int)) (inner := [.int .i64 a0_2, .int .i64 a0_3, .int .i64 a0_1]) (ok := fun _ => True) (okp := fun _ => True) ?hr ?hp (fun _ hk => hk) trivial (Below.refl _ _) (Nat.le_refl _) (by simp) ?_; (case hr => go_simp <;> rfl); (case hp => exact (Reps.one (show Kd.M (Kd.int .i64) _ _ _ a0_2 [.int .i64 a0_2] from rfl) (Reps.one (show Kd.M (Kd.int .i64) _ _ _ a0_3 [.int .i64 a0_3] from rfl) (Reps.one (show Kd.M (Kd.int .i64) _ _ _ a0_1 [.int .i64 a0_1] from rfl) (Reps.none _ _))))); intro v206 w36 ho37 hb hg_ hnew_; clear hg_ hnew_; (first | rw [← Ny205.out] at ho37 | (simp only [Int.reduceToNat] at ho37; rw [← Ny205.out] at ho37)); have HO207 := zA (Kd.R_lower (Kd.R_new' ho37 (Kd.R_lt (qR HO_5.out))) (below_size qB)); replace HO_5 := zA (Kd.R_elder' (qR HO_5.out) (Kd.R_base ho37) hb); replace BK186 := qW BK186 hb; replace HB := qH hb; clear hb ho37; obtain ⟨Ao39, co39, eo39⟩ := Kd.R_slice HO207.out; subst eo39) | ((with_reducible refine gate_builtin (b := .append) (xs := #[.tmp 44, .tmp 51]) rfl ?_); at_builtin; refine Kd.R_append_rows (Kd.int .i64) (w0 := w) w.heap.size rfl (.tmp 44) (.tmp 51) 41 3 (.int .i64 0) 8 rfl Tryd.underlying41 info3 rfl (by decide) (by omega) v188 y187 y205 _ _ _ (fun k_ => some k_ ≠ (.slice Ao39 y205.length co39 : Value).ownBlock) (fun _ => False) rfl rfl ?aO ?aR (fun _ _ h => h) (fun _ h => h.elim) ?aF ?aB ?aS ?aL ?_; (case aR => repeat (first | exact (Kd.R_reads' HO207.out).2.2 | (with_reducible refine Kd.C_alloc ?_ _) | (with_reducible refine Kd.C_drewN ?_ _) | (with_reducible refine Kd.C_drew ?_))); (case aB => exact qB); (case aF => exact (fun k_ hk => Kd.fresh' (Kd.R_lt (qR HO207.out)) k_ hk)); (case aO => exact (by (with_reducible repeat (first | apply Kd.R_alloc | apply Kd.R_drewN | apply Kd.R_drew)); exact Kd.R_mono HO_5.out (fun _ hk => hk.2))); (case aS => exact (below_size qB)); (case aL => have := LMc34.out; omega); intro v209 w38 ho hb hg hat; rw [← Ny208.out] at ho; replace BK186 := zA (blk_grown (qK BK186.out) hg (Kd.R_ne HO_5.out BK186.out (by decide))); replace HO207 := zA (Kd.R_after (ok := (fun _ => True)) (qR HO207.out) hg hat); replace HB := zA (hb); have HO210 := zA (ho); clear HO_5; clear ho hb hg hat))
          go_ret
          exact ⟨_, qE, by (with_reducible repeat (first | apply Kd.R_alloc | apply Kd.R_drewN | apply Kd.R_drew)); exact Kd.R_mono HO210.out (fun _ hk => trivial), qB⟩
         ·rw [zD c34] at H
          exact absurd H (by simp)
        ·rw [zD c33] at H
         obtain ⟨c33b0, c33b1⟩ := qn c33
         by_cases c40 : a0_0 = 11
         ·rw [zC c40] at H
          obtain ⟨c40b0, c40b1⟩ := qe c40; clear c40
          by_cases c41 : y187.length < 17592186044416
          ·rw [zC c41] at H
           have LMc41 := zA c41
           clear c41
           obtain ⟨y211, hy211⟩ : ∃ y_ : List Int, y_ = (y187 ++ [a0_1]) := ⟨_, rfl⟩
           replace H : (if a1 = true then (if y211.length < 17592186044416 then (some (y211 ++ [a0_2])) else (none)) else (if y211.length + l0_5.length < 17592186044416 then (some (y211 ++ l0_5)) else (none))) = some r := by (try rw [hy211]); first | with_reducible exact H | exact (zJ _ _).symm.trans H | exact H
           have Ny211 := zA hy211
           clear hy211
           by_cases c42 : a1 = true
           ·subst c42
            have H1 : (if y211.length < 17592186044416 then (some (y211 ++ [a0_2])) else (none)) = some r := by rw [zC rfl] at H; exact H
            clear H
            have H := H1
            clear H1
            by_cases c43 : y211.length < 17592186044416
            ·rw [zC c43] at H
             have LMc43 := zA c43
             clear c43
             obtain ⟨y214, hy214⟩ : ∃ y_ : List Int, y_ = (y211 ++ [a0_2]) := ⟨_, rfl⟩
             replace H : (some y214) = some r := by (try rw [hy214]); first | with_reducible exact H | exact (zJ _ _).symm.trans H | exact H
             have Ny214 := zA hy214
             clear hy214
             obtain rfl := zI H
             have z44_0 := bk6 BK186.out
             go_wp2_with (first | ((with_reducible refine gate_builtin (b := .append) (xs := #[.tmp 55, .tmp 58]) rfl ?_); at_builtin; refine Kd.R_append (Kd.int .i64) (w0 := w) w.heap.size rfl (.tmp 55) (.tmp 58) 41 3 (.int .i64 0) 8 rfl Tryd.underlying41 info3 rfl (by decide) (by omega) v188 y187 a0_1 [.int .i64 a0_1] (fun _ => True) (fun _ => False) rfl rfl ?aP (fun _ hk => hk.elim) ?aF ?aO ?aB ?aS ?aL ?_; (case aP => exact rfl); (case aB => exact qB); (case aF => exact (fun _ _ => trivial)); (case aO => exact (qR HO_5.out)); (case aS => exact (below_size qB)); (case aL => have := LMc41.out; omega); intro v212 w45 ho hb hg hat; rw [← Ny211.out] at ho; replace BK186 := zA (blk_grown (qK BK186.out) hg (Kd.R_ne HO_5.out BK186.out (by decide))); replace HB := zA (hb); have HO213 := zA (ho); clear HO_5; clear ho hb hg hat; have z46_0 := bk6 BK186.out) | ((with_reducible refine gate_builtin (b := .append) (xs := #[.tmp 61, .tmp 64]) rfl ?_); at_builtin; refine Kd.R_append (Kd.int .i64) (w0 := w) w.heap.size rfl (.tmp 61) (.tmp 64) 41 3 (.int .i64 0) 8 rfl Tryd.underlying41 info3 rfl (by decide) (by omega) v212 y211 a0_2 [.int .i64 a0_2] (fun _ => True) (fun _ => False) rfl rfl ?aP (fun _ hk => hk.elim) ?aF ?aO ?aB ?aS ?aL ?_; (case aP => exact rfl); (case aB => exact qB); (case aF => exact (fun _ _ => trivial)); (case aO => exact (qR HO213.out)); (case aS => exact (below_size qB)); (case aL => have := LMc43.out; omega); intro v215 w47 ho hb hg hat; rw [← Ny214.out] at ho; replace BK186 := zA (blk_grown (qK BK186.out) hg (Kd.R_ne HO213.out BK186.out (by decide))); replace HB := zA (hb); have HO216 := zA (ho); clear HO213; clear ho hb hg hat))
             go_ret
             exact ⟨_, qE, qR HO216.out, qB⟩
            ·rw [zD c43] at H
             exact absurd H (by simp)
           ·replace c42 := Bool.eq_false_iff.mpr c42
            subst c42
            have H1 : (if y211.length + l0_5.length < 17592186044416 then (some (y211 ++ l0_5)) else (none)) = some r := by rw [zD (show ¬ (false = true) by decide)] at H; exact H
            clear H
            have H := H1
            clear H1
            by_cases c48 : y211.length + l0_5.length < 17592186044416
            ·rw [zC c48] at H
             have LMc48 := zA c48
             clear c48
             obtain ⟨y217, hy217⟩ : ∃ y_ : List Int, y_ = (y211 ++ l0_5) := ⟨_, rfl⟩
             replace H : (some y217) = some r := by (try rw [hy217]); first | with_reducible exact H | exact (zJ _ _).symm.trans H | exact H
             have Ny217 := zA hy217
             clear hy217
             obtain rfl := zI H
             have z49_0 := bk6 BK186.out
             go_wp2_with (first | ((with_reducible refine gate_builtin (b := .append) (xs := #[.tmp 55, .tmp 58]) rfl ?_); at_builtin; refine Kd.R_append (Kd.int .i64) (w0 := w) w.heap.size rfl (.tmp 55) (.tmp 58) 41 3 (.int .i64 0) 8 rfl Tryd.underlying41 info3 rfl (by decide) (by omega) v188 y187 a0_1 [.int .i64 a0_1] (fun _ => True) (fun _ => False) rfl rfl ?aP (fun _ hk => hk.elim) ?aF ?aO ?aB ?aS ?aL ?_; (case aP => exact rfl); (case aB => exact qB); (case aF => exact (fun _ _ => trivial)); (case aO => exact (qR HO_5.out)); (case aS => exact (below_size qB)); (case aL => have := LMc41.out; omega); intro v212 w50 ho hb hg hat; rw [← Ny211.out] at ho; replace BK186 := zA (blk_grown (qK BK186.out) hg (Kd.R_ne HO_5.out BK186.out (by decide))); replace HB := zA (hb); have HO213 := zA (ho); clear HO_5; clear ho hb hg hat; have z51_0 := bk6 BK186.out) | ((with_reducible refine gate_builtin (b := .append) (xs := #[.tmp 66, .tmp 68]) rfl ?_); at_builtin; refine Kd.R_append_rows (Kd.int .i64) (w0 := w) w.heap.size rfl (.tmp 66) (.tmp 68) 41 3 (.int .i64 0) 8 rfl Tryd.underlying41 info3 rfl (by decide) (by omega) v212 y211 l0_5 _ _ _ (fun _ => True) (fun _ => False) rfl rfl ?aO ?aR (fun _ _ h => h) (fun _ h => h.elim) ?aF ?aB ?aS ?aL ?_; (case aR => exact qCB HR0_5.out); (case aB => exact qB); (case aF => exact (fun _ _ => trivial)); (case aO => exact (qR HO213.out)); (case aS => exact (below_size qB)); (case aL => have := LMc48.out; omega); intro v218 w52 ho hb hg hat; rw [← Ny217.out] at ho; replace BK186 := zA (blk_grown (qK BK186.out) hg (Kd.R_ne HO213.out BK186.out (by decide))); replace HB := zA (hb); have HO219 := zA (ho); clear HO213; clear ho hb hg hat))
             go_ret
             exact ⟨_, qE, qR HO219.out, qB⟩
            ·rw [zD c48] at H
             exact absurd H (by simp)
          ·rw [zD c41] at H
           exact absurd H (by simp)
         ·rw [zD c40] at H
          obtain ⟨c40b0, c40b1⟩ := qn c40
          obtain ⟨y220, hy220⟩ : ∃ y_ : List Int, y_ = (([a0_1, a0_2] : List Int)) := ⟨_, rfl⟩
          replace H : (if y187.length + y220.length < 17592186044416 then (some (y187 ++ y220)) else (none)) = some r := by (try rw [hy220]); first | with_reducible exact H | exact (zJ _ _).symm.trans H | exact H
          have Ny220 := zA hy220
          clear hy220
          by_cases c53 : y187.length + y220.length < 17592186044416
          ·rw [zC c53] at H
           have LMc53 := zA c53
           clear c53
           obtain ⟨y223, hy223⟩ : ∃ y_ : List Int, y_ = (y187 ++ y220) := ⟨_, rfl⟩
           replace H : (some y223) = some r := by (try rw [hy223]); first | with_reducible exact H | exact (zJ _ _).symm.trans H | exact H
           have Ny223 := zA hy223
           clear hy223
           obtain rfl := zI H
           have z54_0 := bk6 BK186.out
           go_wp2_with (first | ((with_reducible refine gate_dst (N := 75) rfl ?_); refine Kd.R_lit (Kd.int .i64) _ 3 (by rfl) (N := 75) (by rfl) (xs := ([a0_1, a0_2] : List Int)) (inner := [.int .i64 a0_1, .int .i64 a0_2]) (ok := fun _ => True) (okp := fun _ => True) ?hr ?hp (fun _ hk => hk) trivial (Below.refl _ _) (Nat.le_refl _) (by simp) ?_; (case hr => go_simp <;> rfl); (case hp => exact (Reps.one (show Kd.M (Kd.int .i64) _ _ _ a0_1 [.int .i64 a0_1] from rfl) (Reps.one (show Kd.M (Kd.int .i64) _ _ _ a0_2 [.int .i64 a0_2] from rfl) (Reps.none _ _)))); intro v221 w55 ho56 hb hg_ hnew_; clear hg_ hnew_; (first | rw [← Ny220.out] at ho56 | (simp only [Int.reduceToNat] at ho56; rw [← Ny220.out] at ho56)); have HO222 := zA (Kd.R_lower (Kd.R_new' ho56 (Kd.R_lt (qR HO_5.out))) (below_size qB)); replace HO_5 := zA (Kd.R_elder' (qR HO_5.out) (Kd.R_base ho56) hb); replace BK186 := qW BK186 hb; replace HB := qH hb; clear hb ho56; obtain ⟨Ao58, co58, eo58⟩ := Kd.R_slice HO222.out; subst eo58) | ((with_reducible refine gate_builtin (b := .append) (xs := #[.tmp 70, .tmp 75]) rfl ?_); at_builtin; refine Kd.R_append_rows (Kd.int .i64) (w0 := w) w.heap.size rfl (.tmp 70) (.tmp 75) 41 3 (.int .i64 0) 8 rfl Tryd.underlying41 info3 rfl (by decide) (by omega) v188 y187 y220 _ _ _ (fun k_ => some k_ ≠ (.slice Ao58 y220.length co58 : Value).ownBlock) (fun _ => False) rfl rfl ?aO ?aR (fun _ _ h => h) (fun _ h => h.elim) ?aF ?aB ?aS ?aL ?_; (case aR => repeat (first | exact (Kd.R_reads' HO222.out).2.2 | (with_reducible refine Kd.C_alloc ?_ _) | (with_reducible refine Kd.C_drewN ?_ _) | (with_reducible refine Kd.C_drew ?_))); (case aB => exact qB); (case aF => exact (fun k_ hk => Kd.fresh' (Kd.R_lt (qR HO222.out)) k_ hk)); (case aO => exact (by (with_reducible repeat (first | apply Kd.R_alloc | apply Kd.R_drewN | apply Kd.R_drew)); exact Kd.R_mono HO_5.out (fun _ hk => hk.2))); (case aS => exact (below_size qB)); (case aL => have := LMc53.out; omega); intro v224 w57 ho hb hg hat; rw [← Ny223.out] at ho; replace BK186 := zA (blk_grown (qK BK186.out) hg (Kd.R_ne HO_5.out BK186.out (by decide))); replace HO222 := zA (Kd.R_after (ok := (fun _ => True)) (qR HO222.out) hg hat); replace HB := zA (hb); have HO225 := zA (ho); clear HO_5; clear ho hb hg hat))
           go_ret
           exact ⟨_, qE, by (with_reducible repeat (first | apply Kd.R_alloc | apply Kd.R_drewN | apply Kd.R_drew)); exact Kd.R_mono HO225.out (fun _ hk => trivial), qB⟩
          ·rw [zD c53] at H
           exact absurd H (by simp)
end Go.Proofs.YtniknpjeknmpjaaDoor.Q
namespace Go.Proofs.YtniknpjeknmpjaaDoor.PlainText
open Go Go.RowKit Go.Proofs.YtniknpjeknmpjaaDoorW.PrintWords Go.Proofs.YtniknpjeknmpjaaDoorW.PrintMore Go.Proofs.YtniknpjeknmpjaaDoor.Q Go.Proofs.YtniknpjeknmpjaaDoor.Plain
set_option linter.unusedVariables false
set_option linter.unusedSimpArgs false
def emp : ByteArray := ⟨#[]⟩
def wordR (op : Int) (code : Bool) : ByteArray := match text_of.f op code with
 | some (_, wd, _, true) => wd
 | _ => emp
def numsR (x : SIns) (code : Bool) : List Int :=
 if 3 ≤ x.f0 ∧ x.f0 ≤ 7 then [x.f1, x.f2, x.f3] else if x.f0 = 9 then [x.f2, x.f3] else if x.f0 = 10 ∨ x.f0 = 12 ∨ x.f0 = 14 then [x.f2] else if x.f0 = 13 then [x.f2, x.f3, x.f1] else if x.f0 = 11 then (if code = true then [x.f1, x.f2] else x.f1 :: x.f5) else [x.f1, x.f2]
theorem op_cases (op : Int) : op = 1 ∨ op = 2 ∨ op = 3 ∨ op = 4 ∨ op = 5 ∨ op = 6 ∨ op = 7 ∨ op = 8 ∨ op = 9 ∨ op = 10 ∨ op = 11 ∨ op = 12 ∨ op = 13 ∨ op = 14 ∨ op = 21 ∨ op = 22 ∨ op = 0 ∨ (op < 0 ∨ 14 < op) ∧ op ≠ 21 ∧ op ≠ 22 := by omega
theorem text_of_none {op : Int} {code : Bool} (h : op = 0 ∨ (op < 0 ∨ 14 < op) ∧ op ≠ 21 ∧ op ≠ 22) : text_of.f op code = some (0, emp, emp, false) := by
 unfold text_of.f
 rw [zD (by omega), zD (by omega), zD (by omega), zD (by omega), zD (by omega), zD (by omega), zD (by omega), zD (by omega), zD (by omega), zD (by omega), zD (by omega), zD (by omega), zD (by omega), zD (by omega), zD (by omega), zD (by omega)]
 rfl
theorem word_ev (op : Int) (code : Bool) : Ev (fun k => cubbyref08_word.f k op code) (wordR op code) := by
 refine ⟨3, fun k hk => ?_⟩
 obtain ⟨q, rfl⟩ : ∃ q, k = q + 3 := ⟨k - 3, by omega⟩
 rcases op_cases op with rfl | rfl | rfl | rfl | rfl | rfl | rfl | rfl | rfl | rfl | rfl | rfl | rfl | rfl | rfl | rfl | rfl | h
 all_goals first
  | (cases code <;> rfl)
  | skip
 have e : wordR op code = emp := by unfold wordR; rw [text_of_none (.inr h)]
 rw [e]
 unfold cubbyref08_word.f
 simp only [zJ]
 have h2 : (op == 21) = false := by simpa using h.2.1
 have go : cubbyref08_word.j0 (q + 3) op code ([(⟨#[]⟩ : ByteArray), (⟨#[99, 111, 110, 115, 116]⟩ : ByteArray), (⟨#[99, 111, 112, 121]⟩ : ByteArray), (⟨#[97, 100, 100]⟩ : ByteArray), (⟨#[115, 117, 98]⟩ : ByteArray), (⟨#[109, 117, 108]⟩ : ByteArray), (⟨#[108, 101, 115, 115]⟩ : ByteArray), (⟨#[100, 105, 118]⟩ : ByteArray), (⟨#[108, 111, 97, 100]⟩ : ByteArray), (⟨#[115, 116, 111, 114, 101]⟩ : ByteArray), (⟨#[111, 117, 116]⟩ : ByteArray), (⟨#[99, 97, 108, 108]⟩ : ByteArray), (⟨#[106, 117, 109, 112]⟩ : ByteArray), (⟨#[98, 114, 97, 110, 99, 104]⟩ : ByteArray), (⟨#[114, 101, 116]⟩ : ByteArray)] : List ByteArray) false = some emp := by
  simp only [cubbyref08_word.j0]
  rw [zD (by simp), h2]
  cases code with
  | false => simp only [cubbyref08_word.j1]; rw [zD (by simp), zD (by simp), zD (by simp)]; rfl
  | true => simp only [cubbyref08_word.j1, if_true, Bool.false_eq_true, if_false]; rw [zD h.2.2]; rfl
 by_cases h0 : op ≥ 0
 ·rw [zC h0, zG (by show ¬ op < 15; omega)]
  exact go
 ·rw [zD h0]
  exact go
theorem numbers_ev (x : SIns) (code : Bool) (h5 : x.f5.length ≤ 1000) : Ev (fun k => cubbyref08_numbers.f k x.f0 x.f1 x.f2 x.f3 x.f4 x.f5 code) (numsR x code) := by
 obtain ⟨x0, x1, x2, x3, x4, x5⟩ := x
 dsimp only at h5 ⊢
 refine ⟨3, fun k hk => ?_⟩
 obtain ⟨q, rfl⟩ : ∃ q, k = q + 3 := ⟨k - 3, by omega⟩
 have h6 : 1 + x5.length < 17592186044416 := by omega
 have hoth : (x0 < 3 ∨ x0 = 8 ∨ 14 < x0) → cubbyref08_numbers.f (q + 3) x0 x1 x2 x3 x4 x5 code = some (numsR ⟨x0, x1, x2, x3, x4, x5⟩ code) := fun h => by
  unfold numsR cubbyref08_numbers.f
  dsimp only
  simp only [zJ]
  rw [zD (by omega), zD (by omega), zD (by omega), zD (by omega), zD (by omega), zD (by omega), zD (by omega), zD (by omega), zD (by omega)]
  rw [show (x0 == 7) = false from by simpa using (by omega : ¬ x0 = 7)]
  simp only [cubbyref08_numbers.j0]
  rw [zD (by simp), zD (by omega), zD (by omega), zD (by omega), show (x0 == 14) = false from by simpa using (by omega : ¬ x0 = 14)]
  simp only [cubbyref08_numbers.j1]
  rw [zD (by simp), zD (by omega), zD (by omega)]
  rfl
 rcases op_cases x0 with rfl | rfl | rfl | rfl | rfl | rfl | rfl | rfl | rfl | rfl | rfl | rfl | rfl | rfl | rfl | rfl | rfl | h
 all_goals first
  | exact hoth (by omega)
  | rfl
  | skip
 cases code with
 | true => rfl
 | false =>
  have e : cubbyref08_numbers.f (q + 3) 11 x1 x2 x3 x4 x5 false = if 1 + x5.length < 17592186044416 then some (x1 :: x5) else none := rfl
  show cubbyref08_numbers.f (q + 3) 11 x1 x2 x3 x4 x5 false = _
  rw [e, zC h6]
  rfl
end Go.Proofs.YtniknpjeknmpjaaDoor.PlainText
