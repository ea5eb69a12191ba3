/- For every input the law TextOne returns true, and its arguments read behind the call as they did: no condition. -/
import Derived.Lib.Builder
import Derived.Lib.OthersKept
import Derived.Deep.RegionWith
import Derived.Lib.ItoaNum
import Derived.Lib.ItoaMem
import Derived.Test.YtniknpjeknmpjaaGreatDoorRows
import Derived.WalkKit
import Derived.ProofKit
import Derived.OpenShut
import Derived.ShutString
import Derived.ChangeOld
import Derived.Below
import Derived.SizedLaws
import Derived.Test.YtniknpjeknmpjaaGreatDoorCards
import Derived.Test.YtniknpjeknmpjaaGreatDoorTie
import Derived.LaidMore
import Derived.Lay
import Derived.SevenTiedAt
import Derived.Stop.Joined
import Derived.Lib.LaidU8
import Derived.Test.YtniknpjeknmpjaaGreatDoorMTextOne1
import Derived.Test.YtniknpjeknmpjaaGreatDoorMTextOne2
import Derived.Test.YtniknpjeknmpjaaGreatDoorMTextOne3
namespace Go.Proofs.YtniknpjeknmpjaaGreatDoor.Q
open Go.RowKit Go.Shelf Go.Proofs.YtniknpjeknmpjaaGreatDoor.Plain Go.Proofs.YtniknpjeknmpjaaGreatDoor.PlainName Go.Proofs.YtniknpjeknmpjaaGreatDoor.PlainNum Go.Proofs.YtniknpjeknmpjaaGreatDoor.PlainText Go.Proofs.YtniknpjeknmpjaaGreatDoorW.PrintWords Go.Proofs.YtniknpjeknmpjaaGreatDoorW.PrintLast Go.Proofs.YtniknpjeknmpjaaGreatDoorW.PrintMore
set_option linter.unusedVariables false
set_option linter.unusedSimpArgs false
attribute [local go_sem] Oper.semAt_some
structure RP (w0 : World) (n : Nat) (st : PS) (vh vb : Value) (w : World) : Prop where
 hr : Kd.R (Kd.int .i64) 3 w w0.heap.size (fun _ => True) vh st.head
 hs : Kd.S (Kd.slice 44 kIns) 41 w w0.heap.size (fun _ => True) vb st.blocks
 bl : Below w0.heap.size w0 w
 hh : 1 ≤ st.heads ∧ st.heads ≤ 100
 hb : st.blocks.length ≤ n
 hbb : ∀ b ∈ st.blocks, b.length ≤ n
theorem RP.below {w0 w w' : World} {n : Nat} {st : PS} {vh vb : Value} (h : RP w0 n st vh vb w) (hb : Below w.heap.size w w') : RP w0 n st vh vb w' :=
 ⟨Kd.R_below h.hr hb, Kd.S_below h.hs hb, below_step h.bl hb, h.hh, h.hb, h.hbb⟩
def outName (R : Int × Int × PS) : ByteArray := if R.2.1 = 0 then R.2.2.name else ⟨#[]⟩
def outHead (R : Int × Int × PS) : List Int := if R.2.1 = 0 then R.2.2.head else []
def outBlocks (R : Int × Int × PS) : List (List SIns) := if R.2.1 = 0 then R.2.2.blocks else []
theorem results_tmp5 {fn : Func} {t1 t2 t3 t4 t5 : Tmp} (h : fn.results = #[.tmp t1, .tmp t2, .tmp t3, .tmp t4, .tmp t5]) (tmps : Array Value) (P : Program) (w : World) :
 (results fn tmps).run P w = .ok (.tuple #[tmps.getD t1 undef, tmps.getD t2 undef, tmps.getD t3 undef, tmps.getD t4 undef, tmps.getD t5 undef]) w := by
 simp [results, h]
theorem toList_nil {s : ByteArray} : s.toList = [] ↔ s.size = 0 := by
 rw [toList_data]
 constructor
 ·intro h
  have : s.data.toList.length = s.size := by simp
  rw [← this, h]; rfl
 ·intro h
  exact List.eq_nil_of_length_eq_zero (by simpa using h)
theorem topP_code (s : PS) (ws : List ByteArray) : (topP s ws).2.code = s.code := by
 unfold topP
 repeat' split
 all_goals rfl
theorem topP_fst (s : PS) (ws : List ByteArray) : (topP s ws).2.first = s.first := by
 unfold topP
 repeat' split
 all_goals rfl
theorem byOf_block {w0 : ByteArray} {code : Bool} (h : w0.toList = [98, 108, 111, 99, 107]) : byOf w0 code = none := by
 cases hb : byOf w0 code with
 | none => rfl
 | some r =>
  obtain ⟨j, _, _, h3⟩ := byFrom_some hb
  obtain ⟨q1, q2, q3, q4, q5⟩ := isBy_some h3
  rw [toList_data] at h
  rw [h] at q2
  have : opWord [98, 108, 111, 99, 107] = 0 := by decide
  rw [this] at q2
  rw [q2, text_of_none (.inl rfl)] at q4
  simp at q4
theorem lineP_b1 (s : PS) {w0 : ByteArray} (b : ByteArray) (r : List ByteArray) (h : w0.toList = [98, 108, 111, 99, 107]) : lineP s (w0 :: b :: r) = (80, s) := by
 have e : ¬ (w0.toList = [98, 108, 111, 99, 107] ∧ b :: r = []) := fun h => by cases h.2
 unfold lineP
 simp only [zD e, byOf_block h]
theorem lineP_b0 (s : PS) {w0 : ByteArray} (h : w0.toList = [98, 108, 111, 99, 107]) : lineP s [w0] = (0, { s with blocks := s.blocks ++ [[]] }) := by
 have e : w0.toList = [98, 108, 111, 99, 107] ∧ ([] : List ByteArray) = [] := ⟨h, rfl⟩
 exact zC e
theorem lineP_b2 (s : PS) {w0 : ByteArray} (rest : List ByteArray) (h : ¬ w0.toList = [98, 108, 111, 99, 107]) (hb : s.blocks = []) : lineP s (w0 :: rest) = (80, s) := by
 have e : ¬ (w0.toList = [98, 108, 111, 99, 107] ∧ rest = []) := fun h2 => h h2.1
 unfold lineP
 simp only [zD e, zC hb]
 cases byOf w0 s.code <;> rfl
theorem eqnl (s : ByteArray) (n : Nat) (h : s.size ≠ 0 ∨ n = 0) : ((s.toList == []) = true ∧ (s.toList != []) = false ∧ n = 0) ∨ ((s.toList == []) = false ∧ (s.toList != []) = true ∧ ¬ s.size = 0) := by
 by_cases hz : s.size = 0
 ·exact .inl ⟨by simpa using toList_nil.2 hz, by simpa using toList_nil.2 hz, h.resolve_left (fun e => e hz)⟩
 ·have : ¬ s.toList = [] := fun e => hz (toList_nil.1 e)
  exact .inr ⟨by simpa using this, by simpa using this, hz⟩
def refparse.T20 : Bool × List (List Nat × List Nat) := (true, [([], []), ([], []), ([], []), ([], []), ([2, 3], [2, 3]), ([4], [4]), ([], []), ([6], [6]), ([5, 7], [5, 7]), ([0, 1, 0, 1, 2, 3, 4, 5, 6, 7, 8], [0, 1]), ([9, 8, 8, 0, 1, 2, 3, 4, 5, 6, 7, 8], [8, 9])])
def refparse.B20 : List Nat := [0, 0, 0, 0, 12, 28, 0, 64, 252, 511, 1023]
theorem refparse.tab20 : rtab .any (opsOf Tryz.f27 20) = refparse.T20 := by kernel_rfl
theorem refparse.bits20 : waitsOk refparse.T20.2 refparse.B20 = true := by kernel_rfl
set_option maxHeartbeats 8000000 in
set_option maxRecDepth 100000 in
theorem refparse_calls (st0 : PS) (hh0 : st0.head = []) (hb0 : st0.blocks = []) (hn0 : st0.name = ⟨#[]⟩) (hhd0 : 1 ≤ st0.heads ∧ st0.heads ≤ 100) (s0 : ByteArray) (hsz0 : s0.size ≤ 90000) (many : Int) (hm : many = st0.heads + 1) (w : World) :
 Calls Tryz.prog 27 #[.string s0, .string st0.first, .int .i64 many, .bool st0.code] w fun e w' => ∃ v1 v2 : Value, e = .returned (.tuple #[.string (outName (parseAll st0 s0)), v1, v2, .int .i64 (parseAll st0 s0).1, .int .i64 (parseAll st0 s0).2.1]) ∧ Kd.R (Kd.int .i64) 3 w' w.heap.size (fun _ => True) v1 (outHead (parseAll st0 s0)) ∧ Kd.S (Kd.slice 44 kIns) 41 w' w.heap.size (fun _ => True) v2 (outBlocks (parseAll st0 s0)) ∧ Below w.heap.size w w' := by
 obtain ⟨R, hR⟩ : ∃ R, R = parseAll st0 s0 := ⟨_, rfl⟩
 rw [← hR]
 have HR := zA hR
 clear hR
 have HB := zA (Below.refl w.heap.size w)
 go_enter Tryz.func27, Tryz.ntmps27
 go_wp2_with (first
  | ((with_reducible refine gate_dst (N := 25) rfl ?_); refine Kd.R_lit (Kd.int .i64) _ 3 (by rfl) (N := 25) (by rfl) (xs := ([] : List Int)) (inner := []) (ok := fun _ => True) (okp := fun _ => True) ?hr ?hp (fun _ hk => hk) trivial (Below.refl _ _) (Nat.le_refl _) (by simp) ?_; (case hr => go_simp <;> rfl); (case hp => exact (Reps.none _ _)); intro v25 w2 ho hb hg_ hnew_; clear hg_ hnew_; have HH := zA (Kd.R_lower ho HB.out.size); replace HB := zA (below_step HB.out hb); clear ho hb)
  | ((with_reducible refine gate_dst (N := 26) rfl ?_); refine Kd.S_lit (Kd.slice 44 kIns) _ 41 (by rfl) (N := 26) (by rfl) (xs := ([] : List (List SIns))) (inner := []) (ok := fun _ => True) (okp := fun _ => True) ?hr ?hp (fun _ hk => hk) trivial (Below.refl _ _) (Nat.le_refl _) (by simp) ?_; (case hr => go_simp <;> rfl); (case hp => exact (Reps.none _ _)); intro v26 w3 ho hb hg_ hnew_; clear hg_ hnew_; have HBl := zA (Kd.S_lower ho HB.out.size); replace HH := zA (Kd.R_below HH.out hb); replace HB := zA (below_step HB.out hb); clear ho hb))
 have HP := zA (show RP w 0 st0 v25 v26 _ from ⟨by rw [hh0]; exact HH.out, by rw [hb0]; exact HBl.out, HB.out, hhd0, by rw [hb0]; exact Nat.le_refl _, by rw [hb0]; intro b hb; cases hb⟩)
 have HRR := zA (show R = if s0.size = 0 ∧ (0 : Nat) = 0 then (1, 80, st0) else parseR (s0.size + 1) 0 st0 s0 by
  rw [HR.out]; unfold parseAll
  by_cases h : s0.size = 0
  ·rw [zC h, zC ⟨h, rfl⟩]
  ·rw [zD h, zD (fun e => h e.1)])
 have HN0 := zA hn0
 clear hh0 hb0 HH HBl HB HR hn0 hhd0
 go_loopg [0, 13, 14, 15, 16] s0.size (fun kq v0 v13 v14 v15 v16 w' => ∃ (n : Nat) (st : PS) (s : ByteArray) (k : Nat), v0 = .string s ∧ v13 = .string st.name ∧ v16 = .int .i64 (n : Int) ∧ Aside0 (kq = s.size) ∧ Aside0 (RP w n st v14 v15 w') ∧ Aside0 (R = if s.size = 0 ∧ n = 0 then (1, 80, st) else parseR (k + 1) n st s) ∧ Aside0 (s.size ≤ k ∧ n + s.size ≤ 90000) ∧ Aside0 (st.code = st0.code ∧ st.first = st0.first ∧ st.heads = st0.heads))
 case atStart => exact ⟨0, st0, s0, s0.size, rfl, by rw [HN0.out], by first | rfl | simp, ⟨rfl⟩, HP, HRR, ⟨Nat.le_refl _, by omega⟩, ⟨rfl, rfl, rfl⟩⟩
 case round =>
  clear HP HRR
  obtain ⟨n, st, s, k, rfl, rfl, rfl, HQ, HP, HRR, HKs, HSt⟩ := hrel
  obtain ⟨ks1, ks2⟩ := HKs.out
  have HK2 := zA ks1
  clear ks1
  by_cases cE : s.size = 0 ∧ n ≠ 0
  ·have c1a : (s.toList == []) = true := by simpa using toList_nil.2 cE.1
   have c1b : (s.toList != []) = false := by simpa using toList_nil.2 cE.1
   have n1 : ((n : Int) == 0) = false := by simpa using cE.2
   have n2 : decide ((n : Int) = 0) = false := zG (by omega)
   have HRR2 := zA (show R = (0, 0, st) by
    rw [HRR.out, zD (fun h => cE.2 h.2)]
    unfold parseR
    rw [zC cE.1])
   clear cE
   go_wp2_with fail
   refine bodyPost_ret (results_tmp5 rfl _ _ _) rfl ?_
   rw [HRR2.out]
   exact ⟨_, _, rfl, HP.out.hr, HP.out.hs, HP.out.bl⟩
  ·have nw : (n : Int) ≤ 90000 := by omega
   have HCE := zA cE
   have go : s.size ≠ 0 ∨ n = 0 := by
    by_cases h : s.size = 0
    ·exact .inr (Classical.byContradiction fun hn => cE ⟨h, hn⟩)
    ·exact .inl h
   have HGO := zA go
   clear cE
   have HNO : Aside0 (∀ j, j < 0 → s.data.toList[j]? ≠ some 10) := ⟨fun j hj => absurd hj (Nat.not_lt_zero j)⟩
   have inner : ∀ b : Bool, b = (s.toList != []) → True := fun _ _ => trivial
   clear go
   have fin80 : ∀ {c : Int} {W : World}, R = (c, 80, st) → Below w.heap.size w W → ∃ v1 v2 : Value, Ending.returned (.tuple #[.string ⟨#[]⟩, .slice none 0 0, .slice none 0 0, .int .i64 c, .int .i64 80]) = Ending.returned (.tuple #[.string (outName R), v1, v2, .int .i64 R.1, .int .i64 R.2.1]) ∧ Kd.R (Kd.int .i64) 3 W w.heap.size (fun _ => True) v1 (outHead R) ∧ Kd.S (Kd.slice 44 kIns) 41 W w.heap.size (fun _ => True) v2 (outBlocks R) ∧ Below w.heap.size w W := fun {c W} h hb => by
    rw [h]
    exact ⟨_, _, rfl, Kd.R_nil _ _ _ _ _, Kd.S_nil _ _ _ _ _, hb⟩
   have finE : ∀ {c E : Int} {st' : PS} {W : World}, ¬ E = 0 → R = (c, E, st') → Below w.heap.size w W → ∃ v1 v2 : Value, Ending.returned (.tuple #[.string ⟨#[]⟩, .slice none 0 0, .slice none 0 0, .int .i64 c, .int .i64 E]) = Ending.returned (.tuple #[.string (outName R), v1, v2, .int .i64 R.1, .int .i64 R.2.1]) ∧ Kd.R (Kd.int .i64) 3 W w.heap.size (fun _ => True) v1 (outHead R) ∧ Kd.S (Kd.slice 44 kIns) 41 W w.heap.size (fun _ => True) v2 (outBlocks R) ∧ Below w.heap.size w W := fun {c E st' W} he h hb => by
    rw [h, show outName (c, E, st') = ⟨#[]⟩ from zD he, show outHead (c, E, st') = [] from zD he, show outBlocks (c, E, st') = [] from zD he]
    exact ⟨_, _, rfl, Kd.R_nil _ _ _ _ _, Kd.S_nil _ _ _ _ _, hb⟩
   have HFE := zA @finE
   clear finE
   have HF := zA @fin80
   clear fin80 inner
   have key : ∀ (W : World), True := fun _ => trivial
   clear key
   rcases eqnl s n HGO.out with ⟨c0a, c0b, cn⟩ | ⟨c0a, c0b, hz⟩
   ·subst cn
    have h1 : s.toList = [] := by simpa using c0a
    have hz : s.size = 0 := toList_nil.1 h1
    clear h1
    have HZ := zA (show R = (1, 80, st) by rw [HRR.out, zC ⟨hz, rfl⟩])
    go_wp2_with fail
    go_loopg [17] 0 (fun kq v17 w' => v17 = .int .i64 0 ∧ Aside0 (kq = 0) ∧ Aside0 (RP w 0 st u14 u15 w'))
    case atStart => exact ⟨rfl, ⟨rfl⟩, HP⟩
    case round =>
     clear HP
     obtain ⟨rfl, HK, HP⟩ := hrel
     go_wp2_with fail
     refine bodyPost_ret (results_tmp5 rfl _ _ _) rfl ?_
     exact HF.out HZ.out HP.out.bl
   ·have HZ := zA hz
    go_wp2_with fail
    go_loopg [17] s.size (fun kq v17 w' => ∃ e : Nat, v17 = .int .i64 (e : Int) ∧ Aside0 (kq + e = s.size) ∧ Aside0 (∀ j, j < e → s.data.toList[j]? ≠ some 10) ∧ Aside0 (RP w n st u14 u15 w'))
    case atStart => exact ⟨0, by first | rfl | simp, ⟨rfl⟩, HNO, HP⟩
    case round =>
     clear HP HNO
     obtain ⟨e, rfl, HK, HN, HP⟩ := hrel
     have hsl : s.data.toList.length = s.size := by simp
     have HSl := zA hsl
     clear hsl
     cases gk with
     | zero =>
      have he : e = s.size := by have := HK.out; omega
      have HRR2 := zA (show R = ((n : Int) + 1, 80, st) by
       rw [HRR.out, zD (fun h => HZ.out h.1)]
       unfold parseR
       have hw : wholeB (cutB s).1 = false := cut_none (fun j h => by
        by_cases hj : j < e
        ·exact HN.out j hj h
        ·have := (List.getElem?_eq_some_iff.1 h).1
         have := HSl.out
         omega)
       have hst : stepP n st (cutB s).1 = (80, st) := by unfold stepP; rw [zC hw]
       rw [zD HZ.out, hst]
       exact (zD (show ¬ (80 : Int) = 0 by decide)).trans (by simp))
      subst he
      have d1 := zG (show ¬ ((s.size : Int) < (s.size : Int)) by omega)
      go_wp2_with fail
      refine bodyPost_ret (results_tmp5 rfl _ _ _) rfl ?_
      exact HF.out HRR2.out HP.out.bl
     | succ k1 =>
      have hes : e < s.size := by have := HK.out; omega
      have d1 := zF (show ((e : Int) < (s.size : Int)) by omega)
      have p1 := eq_true (show (0 : Int) ≤ (e : Int) by omega)
      have q1 := eq_true (show ((e : Int) < (s.size : Int)) by omega)
      have hx : ∀ h : e < s.size, ((s[e]'h).toNat : Int) = bt s (e : Int) := fun h => bt_at s (e : Int) h
      by_cases c1 : bt s (e : Int) = 10
      ·obtain ⟨c1a, c1b⟩ := qe c1
       have hge : s.data.toList[e]? = some 10 := by
        have hl : e < s.data.toList.length := by have := HSl.out; omega
        rw [PlainNum.bt_get hl] at c1
        rw [List.getElem?_eq_getElem hl]
        congr 1
        have h10 : (10 : UInt8).toNat = 10 := rfl
        refine UInt8.toNat_inj.1 ?_
        omega
       obtain ⟨hw, ht, h2⟩ := cut_found hge HN.out
       obtain ⟨ws, hws⟩ : ∃ ws, ws = wordsOf (s.extract 0 e) := ⟨_, rfl⟩
       obtain ⟨w0d, rest, hwr⟩ : ∃ a l, ws = a :: l := by
        cases hq : ws with
        | nil => exact absurd (hws.symm.trans hq) (wordsOf_ne _)
        | cons a l => exact ⟨a, l, rfl⟩
       have hlen : rest.length ≤ 90000 := by
        have h1 := splitB_lenle (s.extract 0 e)
        rw [← hws, hwr] at h1
        simp only [List.length_cons, ByteArray.size_extract] at h1
        omega
       have hstep : stepP n st (cutB s).1 = if n = 0 then topP st (w0d :: rest) else lineP st (w0d :: rest) := by
        unfold stepP
        rw [zD (by rw [hw]; decide), ht, ← hws, hwr]
       obtain ⟨k', hk'⟩ : ∃ k', k = k' + 1 := ⟨k - 1, by have := HK2.out; omega⟩
       have HRS := zA (show R = if (stepP n st (cutB s).1).1 = 0 then parseR (k' + 1) (n + 1) (stepP n st (cutB s).1).2 (s.extract (e + 1) s.size) else ((n : Int) + 1, (stepP n st (cutB s).1).1, st) by
        rw [HRR.out, zD (fun h => HZ.out h.1)]
        conv => lhs; unfold parseR
        rw [zD HZ.out, h2, hk']
        rfl)
       rw [hstep] at HRS
       have HWS := zA (hws.symm.trans hwr)
       have HKK := zA hk'
       have HSK := zA (show (stepP n st (cutB s).1).2.heads = st.heads ∧ (stepP n st (cutB s).1).2.blocks.length ≤ n + 1 ∧ ∀ b ∈ (stepP n st (cutB s).1).2.blocks, b.length ≤ n + 1 from stepP_keep n st (cutB s).1 HP.out.hb HP.out.hbb)
       rw [hstep] at HSK
       clear hge hw ht h2 hws hwr hstep hk'
       have HSE := zA (show (s.extract 0 e).size ≤ 90000 by simp only [ByteArray.size_extract]; omega)
       have hs2 : (s.extract (e + 1) s.size).size = s.size - (e + 1) := by simp only [ByteArray.size_extract]; omega
       have HS2 := zA hs2
       clear hs2
       have NX := zA HSt.out
       obtain ⟨q1, q2, q3⟩ := HSt.out
       by_cases cn : n = 0
       ·have CN := zA cn
        have n1a := zF (show (n : Int) + 1 = 1 by omega)
        have n1b : ((n : Int) + 1 == 1) = true := by rw [cn]; rfl
        rw [zC cn] at HRS HSK
        clear cn q1 q2 q3
        by_cases cf : w0d.toList = st0.first.toList
        ·obtain ⟨cfa, cfb⟩ := qe cf
         have CF := zA cf
         clear cf
         obtain ⟨T, hT⟩ : ∃ T, T = topP st (w0d :: rest) := ⟨_, rfl⟩
         rw [← hT] at HRS HSK
         have HTe := zA hT
         clear hT
         go_wp2_with (first
          | (go_at_call 52; refine (refwords_calls (s.extract 0 e) _ HSE.out).mono ?_; rintro e1 w2 ⟨v18, rfl, hv, hb⟩
             obtain ⟨Aw, cw, rfl⟩ := Kd.R_slice hv
             obtain ⟨_, hcw, hC⟩ := Kd.R_reads' hv
             rw [HWS.out] at hC hcw ⊢
             obtain ⟨ad, rfl, hx0⟩ := Kd.at_string hC 0 (by decide) (by first | (simp; done) | (simp; omega))
             have hx0 : w2.cell? ad = some (.string w0d) := hx0
             have HC := zA hC
             have HCW := zA hcw
             replace HP := zA (HP.out.below hb)
             clear hv hb hC hcw)
          | (go_at_call 53; refine (refread_calls st w0d rest (by rw [NX.out.2.1]; exact CF.out) HP.out.hh (some ad) cw _ HC.out HCW.out _ (by rw [NX.out.2.2])).mono ?_; rintro e2 w3 ⟨v19, rfl, hv, hb⟩
             rw [← HTe.out] at hv ⊢
             have HV := zA (Kd.R_lower hv HP.out.bl.size)
             replace HP := zA (HP.out.below hb)
             clear hv hb
             rcases eqne T.1 with ⟨e0, e0a⟩ | ⟨e0, e0a, e0b, e0c⟩))
         ·go_roundg (s.extract (e + 1) s.size).size
          case measure => have := HQ.out; have := HS2.out; omega
          case rel =>
           have hb1 : T.2.blocks = st.blocks := by rw [HTe.out]; exact (topP_keep st _).2
           have hv := HV.out
           rw [zC e0] at hv
           have hR := HRS.out
           rw [zC e0] at hR
           refine ⟨n + 1, T.2, s.extract (e + 1) s.size, k', rfl, rfl, by go_num, ⟨rfl⟩, ⟨hv, by rw [hb1]; exact HP.out.hs, HP.out.bl, by rw [HSK.out.1]; exact HP.out.hh, HSK.out.2.1, HSK.out.2.2⟩, ⟨?_⟩, ⟨?_, ?_⟩, ⟨?_, ?_, ?_⟩⟩
           ·rw [zD (fun h => Nat.succ_ne_zero n h.2)]; exact hR
           ·have := HS2.out; have := HK2.out; have := HKK.out; omega
           ·have := HS2.out; omega
           ·exact ((show T.2.code = st.code by rw [HTe.out]; exact topP_code st _).trans NX.out.1)
           ·exact ((show T.2.first = st.first by rw [HTe.out]; exact topP_fst st _).trans NX.out.2.1)
           ·exact HSK.out.1.trans NX.out.2.2
         ·refine bodyPost_ret (results_tmp5 rfl _ _ _) rfl ?_
          refine HFE.out (st' := st) e0 ?_ HP.out.bl
          rw [HRS.out]
          exact zD e0
        ·obtain ⟨cfa, cfb⟩ := qn cf
         have HT := zA (show R = ((n : Int) + 1, 80, st) by
          have := top_first (s := st) (w0 := w0d) (rest := rest) (by rw [NX.out.2.1]; exact cf)
          rw [HRS.out, this]
          exact zD (show ¬ (80 : Int) = 0 by decide))
         clear cf
         go_wp2_with (first
          | (go_at_call 52; refine (refwords_calls (s.extract 0 e) _ HSE.out).mono ?_; rintro e1 w2 ⟨v18, rfl, hv, hb⟩
             obtain ⟨Aw, cw, rfl⟩ := Kd.R_slice hv
             obtain ⟨_, hcw, hC⟩ := Kd.R_reads' hv
             rw [HWS.out] at hC hcw ⊢
             obtain ⟨ad, rfl, hx0⟩ := Kd.at_string hC 0 (by decide) (by first | (simp; done) | (simp; omega))
             have hx0 : w2.cell? ad = some (.string w0d) := hx0
             have HC := zA hC
             have HCW := zA hcw
             replace HP := zA (HP.out.below hb)
             clear hv hb hC hcw))
         refine bodyPost_ret (results_tmp5 rfl _ _ _) rfl ?_
         exact HF.out HT.out HP.out.bl
       ·have CN := zA cn
        have n1a := zG (show ¬ (n : Int) + 1 = 1 by omega)
        have n1b : ((n : Int) + 1 == 1) = false := by simp; omega
        rw [zD cn] at HRS HSK
        clear cn q1 q2 q3
        obtain ⟨Ab, cbk, eb⟩ := Kd.R_slice (Kd.S_R HP.out.hs)
        subst eb
        have hbl : st.blocks.length ≤ 90000 := by have := HP.out.hb; omega
        by_cases cb : w0d.toList = [98, 108, 111, 99, 107]
        ·obtain ⟨cba, cbb⟩ := qe cb
         have CB := zA cb
         clear cb
         cases rest with
         | cons b r =>
          have l1 : (((b :: r).length : Int) + 1 == 1) = false := by simp; omega
          have l2 : (((b :: r).length : Int) + 1 != 1) = true := by simp; omega
          have l3 := zG (show ¬ ((b :: r).length : Int) + 1 = 1 by simp; omega)
          have HT := zA (show R = ((n : Int) + 1, 80, st) by
           have := lineP_b1 st b r CB.out
           rw [HRS.out, this]
           exact zD (show ¬ (80 : Int) = 0 by decide))
          go_wp2_with (first
           | (go_at_call 52; refine (refwords_calls (s.extract 0 e) _ HSE.out).mono ?_; rintro e1 w2 ⟨v18, rfl, hv, hb⟩
              obtain ⟨Aw, cw, rfl⟩ := Kd.R_slice hv
              obtain ⟨_, hcw, hC⟩ := Kd.R_reads' hv
              rw [HWS.out] at hC hcw ⊢
              obtain ⟨ad, rfl, hx0⟩ := Kd.at_string hC 0 (by decide) (by first | (simp; done) | (simp; omega))
              have hx0 : w2.cell? ad = some (.string w0d) := hx0
              have HC := zA hC
              have HCW := zA hcw
              replace HP := zA (HP.out.below hb)
              clear hv hb hC hcw))
          refine bodyPost_ret (results_tmp5 rfl _ _ _) rfl ?_
          exact HF.out HT.out HP.out.bl
         | nil =>
          have HT : Aside0 (lineP st [w0d] = (0, { st with blocks := st.blocks ++ [[]] })) := ⟨lineP_b0 st CB.out⟩
          go_wp2_with (first
           | (go_at_call 52; refine (refwords_calls (s.extract 0 e) _ HSE.out).mono ?_; rintro e1 w2 ⟨v18, rfl, hv, hb⟩
              obtain ⟨Aw, cw, rfl⟩ := Kd.R_slice hv
              obtain ⟨_, hcw, hC⟩ := Kd.R_reads' hv
              rw [HWS.out] at hC hcw ⊢
              obtain ⟨ad, rfl, hx0⟩ := Kd.at_string hC 0 (by decide) (by first | (simp; done) | (simp; omega))
              have hx0 : w2.cell? ad = some (.string w0d) := hx0
              have HC := zA hC
              have HCW := zA hcw
              replace HP := zA (HP.out.below hb)
              clear hv hb hC hcw)
           | ((with_reducible refine gate_dst (N := 119) rfl ?_); refine Kd.R_lit kIns _ 44 (by rfl) (N := 119) (by rfl) (xs := ([] : List SIns)) (inner := []) (ok := fun _ => True) (okp := fun _ => True) ?hr ?hp (fun _ hk => hk) trivial (Below.refl _ _) (Nat.le_refl _) (by simp) ?_; (case hr => go_simp <;> rfl); (case hp => exact Reps.none _ _); intro v119 w4 ho_ hb_ hg_ hnew_; obtain ⟨A119, c119, rfl⟩ := Kd.R_slice ho_; have HO := zA ho_; have HB1 := zA hb_; clear ho_ hb_ hg_ hnew_)
           | ((with_reducible refine gate_builtin (b := .append) (xs := #[.tmp 118, .tmp 120]) rfl ?_); at_builtin; (refine Kd.S_append (Kd.slice 44 kIns) (w0 := w) w.heap.size rfl (.tmp 118) (.tmp 120) 22 41 (.slice none 0 0) 24 rfl Tryz.underlying22 infoLIns rfl (by decide) (by omega) (.slice Ab st.blocks.length cbk) st.blocks [] [.slice A119 0 c119] (fun _ => True) (fun q => w2.heap.size ≤ q) rfl rfl ⟨_, rfl, Kd.R_lower (Kd.R_mono (Kd.R_bound HO.out) (fun q hq => hq.2.1)) HP.out.bl.size⟩ (fun q hq => ⟨trivial, fun e => by have := Kd.S_lt HP.out.hs q e.symm; omega⟩) (fun _ _ => trivial) (Kd.S_mono (Kd.S_old HP.out.hs HB1.out) (fun q hq => ⟨trivial, by omega⟩)) (below_step HP.out.bl HB1.out) (Nat.le_trans HP.out.bl.size HB1.out.size) ?aL ?_; (case aL => omega)); intro v121 w5 ho_ hb_ hg_ hat_; have HO2 := zA ho_; have HB2 := zA hb_; have HH2 := zA (show Kd.R (Kd.int .i64) 3 w5 w.heap.size (fun _ => True) u14 st.head from Kd.R_over' (Kd.R_below HP.out.hr HB1.out) (fun k hk => by obtain ⟨cs, h⟩ := Kd.S_typed HP.out.hs k hk; exact ⟨cs, blk_below h HB1.out⟩) (by decide) hg_); clear ho_ hb_ hg_ hat_))
          rw [HT.out] at HRS HSK
          go_roundg (s.extract (e + 1) s.size).size
          case measure => have := HQ.out; have := HS2.out; omega
          case rel =>
           have hR := HRS.out
           rw [zC rfl] at hR
           refine ⟨n + 1, { st with blocks := st.blocks ++ [[]] }, s.extract (e + 1) s.size, k', rfl, rfl, by go_num, ⟨rfl⟩, ⟨HH2.out, HO2.out, HB2.out, HP.out.hh, HSK.out.2.1, HSK.out.2.2⟩, ⟨?_⟩, ⟨?_, ?_⟩, NX⟩
           ·rw [zD (fun h => Nat.succ_ne_zero n h.2)]; exact hR
           ·have := HS2.out; have := HK2.out; have := HKK.out; omega
           ·have := HS2.out; omega
        ·obtain ⟨cba, cbb⟩ := qn cb
         have CB := zA cb
         clear cb
         by_cases cl : st.blocks = []
         ·have HT := zA (show R = ((n : Int) + 1, 80, st) by
           rw [HRS.out, lineP_b2 st rest CB.out cl]
           exact zD (show ¬ (80 : Int) = 0 by decide))
          have l0 : st.blocks.length = 0 := by rw [cl]; rfl
          clear cl
          go_wp2_with (first
           | (go_at_call 52; refine (refwords_calls (s.extract 0 e) _ HSE.out).mono ?_; rintro e1 w2 ⟨v18, rfl, hv, hb⟩
              obtain ⟨Aw, cw, rfl⟩ := Kd.R_slice hv
              obtain ⟨_, hcw, hC⟩ := Kd.R_reads' hv
              rw [HWS.out] at hC hcw ⊢
              obtain ⟨ad, rfl, hx0⟩ := Kd.at_string hC 0 (by decide) (by first | (simp; done) | (simp; omega))
              have hx0 : w2.cell? ad = some (.string w0d) := hx0
              have HC := zA hC
              have HCW := zA hcw
              replace HP := zA (HP.out.below hb)
              clear hv hb hC hcw))
          refine bodyPost_ret (results_tmp5 rfl _ _ _) rfl ?_
          exact HF.out HT.out HP.out.bl
         ·obtain ⟨I, hI⟩ : ∃ I, I = insR (w0d :: rest) st0.code := ⟨_, rfl⟩
          have HI := zA hI
          have HLI := zA (lineP_ins st w0d rest (fun h => CB.out h.1) cl)
          rw [NX.out.1, ← hI] at HLI
          clear hI
          have l0 : ((st.blocks.length : Int) == 0) = false := by simpa using cl
          have l1 := zG (show ¬ (st.blocks.length : Int) = 0 by simpa using cl)
          have CL := zA cl
          clear cl
          rcases eqne I.1 with ⟨e0, e0a⟩ | ⟨e0, e0a, e0b, e0c⟩
          ·go_upto_region 20 with (first
           | (go_at_call 52; refine (refwords_calls (s.extract 0 e) _ HSE.out).mono ?_; rintro e1 w2 ⟨v18, rfl, hv, hb⟩
              obtain ⟨Aw, cw, rfl⟩ := Kd.R_slice hv
              obtain ⟨_, hcw, hC⟩ := Kd.R_reads' hv
              rw [HWS.out] at hC hcw ⊢
              obtain ⟨ad, rfl, hx0⟩ := Kd.at_string hC 0 (by decide) (by first | (simp; done) | (simp; omega))
              have hx0 : w2.cell? ad = some (.string w0d) := hx0
              have HC := zA hC
              have HCW := zA hcw
              replace HP := zA (HP.out.below hb)
              clear hv hb hC hcw)
           | (go_at_call 54; refine (refins_calls w0d rest st0.code (by omega) (some ad) cw _ HC.out HCW.out I HI.out).mono ?_; rintro e2 w3 ⟨v5, rfl, hv5, hb⟩
              obtain ⟨A5, c5, rfl⟩ := Kd.R_slice hv5
              have HV5 := zA hv5
              have HP2 := zA hb
              have HPn := zA (HP.out.below hb)
              clear hv5 hb)
           | ((with_reducible refine gate_dst (N := 22) rfl ?_); refine box_event (by rfl) (N := 22) (by rfl) (cs := #[.int .i64 0, .int .i64 0, .int .i64 0, .int .i64 0, .string (⟨#[]⟩ : ByteArray), .slice none 0 0]) (t := 44) ?hr ?_; (case hr => go_simp <;> rfl); intro gx hg w4 hbox hb
              have BX := zA hbox
              have HGx := zA hg
              have HB4 := zA hb
              have zx := bk6 hbox
              clear hbox hg hb))
           have hB6 : Below w3.heap.size w3 ((((((w4.setCell ⟨gx, 0, none⟩ (.int .i64 I.2.f0)).setCell ⟨gx, 1, none⟩ (.int .i64 I.2.f1)).setCell ⟨gx, 2, none⟩ (.int .i64 I.2.f2)).setCell ⟨gx, 3, none⟩ (.int .i64 I.2.f3)).setCell ⟨gx, 4, none⟩ (.string I.2.f4)).setCell ⟨gx, 5, none⟩ (.slice A5 I.2.f5.length c5)) := by
            have hgx : w3.heap.size ≤ gx := Nat.le_of_eq HGx.out.symm
            exact (((((HB4.out.setCell (p := ⟨gx, 0, none⟩) hgx _).setCell (p := ⟨gx, 1, none⟩) hgx _).setCell (p := ⟨gx, 2, none⟩) hgx _).setCell (p := ⟨gx, 3, none⟩) hgx _).setCell (p := ⟨gx, 4, none⟩) hgx _).setCell (p := ⟨gx, 5, none⟩) hgx _
           have hkx : ((((((w4.setCell ⟨gx, 0, none⟩ (.int .i64 I.2.f0)).setCell ⟨gx, 1, none⟩ (.int .i64 I.2.f1)).setCell ⟨gx, 2, none⟩ (.int .i64 I.2.f2)).setCell ⟨gx, 3, none⟩ (.int .i64 I.2.f3)).setCell ⟨gx, 4, none⟩ (.string I.2.f4)).setCell ⟨gx, 5, none⟩ (.slice A5 I.2.f5.length c5)).heap[gx]? = some (.cells #[.int .i64 I.2.f0, .int .i64 I.2.f1, .int .i64 I.2.f2, .int .i64 I.2.f3, .string I.2.f4, .slice A5 I.2.f5.length c5] 44 (0, 0)) :=
            blk_put (blk_put (blk_put (blk_put (blk_put (blk_put BX.out 0 _ rfl) 1 _ rfl) 2 _ rfl) 3 _ rfl) 4 _ rfl) 5 _ rfl
           generalize ((((((w4.setCell ⟨gx, 0, none⟩ (.int .i64 I.2.f0)).setCell ⟨gx, 1, none⟩ (.int .i64 I.2.f1)).setCell ⟨gx, 2, none⟩ (.int .i64 I.2.f2)).setCell ⟨gx, 3, none⟩ (.int .i64 I.2.f3)).setCell ⟨gx, 4, none⟩ (.string I.2.f4)).setCell ⟨gx, 5, none⟩ (.slice A5 I.2.f5.length c5)) = w7 at hB6 hkx ⊢
           have HP7 := zA (HPn.out.below hB6)
           have HR5 := zA (Kd.R_below HV5.out hB6)
           have HKx := zA hkx
           have HB7 := zA hB6
           clear hkx hB6 zx
           have hpos : 0 < st.blocks.length := Nat.pos_of_ne_zero (fun h => CL.out (List.eq_nil_of_length_eq_zero h))
           obtain ⟨adb, cb2, eb2⟩ := Kd.R_slice1 (Kd.S_R HP7.out.hs) hpos
           cases eb2
           obtain ⟨gb, rfl⟩ := Kd.R_head (Kd.S_R HP7.out.hs)
           have hi0 : (0 : Int) ≤ (st.blocks.length : Int) - 1 := by omega
           have hi1 : (st.blocks.length : Int) - 1 < (st.blocks.length : Int) := by omega
           have hw23 : w2.heap.size ≤ w3.heap.size := HP2.out.size
           have hgx3 : w3.heap.size ≤ gx := Nat.le_of_eq HGx.out.symm
           have HSo := zA (Kd.S_old HP.out.hs (below_step HP2.out HB7.out))
           obtain ⟨oki, cv, hcl, hM, hcc, hfz, hoki, hH⟩ := Kd.S_elem HSo.out [] ((st.blocks.length : Int) - 1) hi0 hi1
           obtain ⟨vk, rfl, hrk⟩ := hM
           have hto : ((st.blocks.length : Int) - 1).toNat = st.blocks.length - 1 := by omega
           have hvk : w7.cell? ⟨gb, ((st.blocks.length : Int) - 1).toNat * 1 + 0, none⟩ = some vk := hcc 0 vk rfl
           have hfk : w7.frozen? ⟨gb, ((st.blocks.length : Int) - 1).toNat * 1 + 0, none⟩ = false := hfz 0
           rw [Nat.mul_one, Nat.add_zero, hto] at hvk hfk
           rw [hto] at hrk
           obtain ⟨xk, hxk⟩ : ∃ xk, xk = st.blocks.getD (st.blocks.length - 1) [] := ⟨_, rfl⟩
           rw [← hxk] at hrk
           have hxl : xk.length ≤ 100000 := by
            rw [hxk, List.getD_eq_getElem?_getD, List.getElem?_eq_getElem (by omega)]
            have := HP.out.hbb _ (List.getElem_mem (show st.blocks.length - 1 < st.blocks.length by omega))
            show (st.blocks[st.blocks.length - 1]).length ≤ _
            omega
           obtain ⟨Ak, ck, ek⟩ := Kd.R_slice hrk
           subst ek
           have HH := zA (Kd.H_drew hH)
           have HRk := zA (Kd.R_drew hrk)
           have HR6 := zA (Kd.R_drew HR5.out)
           have HOk := zA hoki
           have HXk := zA hxk
           have HKx8 := zA (blk_drew HKx.out)
           have HTo := zA hto
           have HHd := zA (Kd.R_drew HP7.out.hr)
           obtain ⟨csb, hcsb⟩ := Kd.S_typed HP7.out.hs gb (by simp [Value.ownBlock])
           have HCb8 := zA (blk_drew hcsb)
           have HBl := zA (below_drew HP7.out.bl)
           have hvk8 : w7.drew.cell? ⟨gb, st.blocks.length - 1, none⟩ = some (.slice Ak xk.length ck) := hvk
           have hfk8 : w7.drew.frozen? ⟨gb, st.blocks.length - 1, none⟩ = false := hfk
           have HGb := zA (Kd.S_lt HP.out.hs gb (by simp [Value.ownBlock]))
           have HGo := zA (show w.heap.size ≤ gb from (Kd.S_base HP7.out.hs gb (by simp [Value.ownBlock])))
           have HD7 := zA (show w2.heap.size ≤ w7.drew.heap.size from (below_step HP2.out HB7.out).size)
           have HD2 := zA (show w.heap.size ≤ w2.heap.size from HP.out.bl.size)
           clear hcl hcc hfz hoki hH hrk hvk hfk hto hxk hcsb
           have hl2 := eq_true (show (1 : Int) ≤ (st.blocks.length : Int) by omega)
           refine start_ (n := 11) (S := fun w' => w'.cell? ⟨gb, st.blocks.length - 1, none⟩ = some (.slice Ak xk.length ck) ∧ w'.cell? ⟨gx, 0, none⟩ = some (.int .i64 I.2.f0) ∧ w'.cell? ⟨gx, 1, none⟩ = some (.int .i64 I.2.f1) ∧ w'.cell? ⟨gx, 2, none⟩ = some (.int .i64 I.2.f2) ∧ w'.cell? ⟨gx, 3, none⟩ = some (.int .i64 I.2.f3) ∧ w'.cell? ⟨gx, 4, none⟩ = some (.string I.2.f4) ∧ w'.cell? ⟨gx, 5, none⟩ = some (.slice A5 I.2.f5.length c5)) (ds := [10]) (bA 11 0) (by kernel_rfl) rfl rfl ⟨hvk8, (blk_cell HKx8.out 0).trans rfl, (blk_cell HKx8.out 1).trans rfl, (blk_cell HKx8.out 2).trans rfl, (blk_cell HKx8.out 3).trans rfl, (blk_cell HKx8.out 4).trans rfl, (blk_cell HKx8.out 5).trans rfl⟩ (fun hHeld => ?_); refine with_tabW refparse.tab20 refparse.bits20 (fun HT_ HW_ => ?_)
           have HFk := zA hfk8
           have HVk := zA hvk8
           clear hfk8 hvk8
           generalize hw8 : w7.drew = w8 at HH HRk HR6 HKx8 HHd HCb8 HBl HFk HVk HD7 hHeld ⊢
           clear hw8
           refine pu_ (i := 0) (N := some 77) (bA 11 1) ?_
           refine pu_ (i := 1) (N := some 78) (bA 11 3) ?_
           refine pu_ (i := 2) (N := some 79) (bA 11 7) ?_
           refine pu_ (i := 3) (N := some 80) (bA 11 15) ?_
           refine pu_ (i := 4) (N := some 81) (bA 11 31) ?_
           refine tk_ (i := 5) (N := some 82) (bA 11 63) ?_
           refine tk_ (i := 6) (N := some 83) (bA 11 127) ?_
           refine one_ (i := 7) (N := some 84) (bA 11 255) rfl rfl (one_of HT_.out (by kernel_rfl)) (by decide) (fun K hK => ?_)
           refine value_ (v := .slice (some ⟨w8.heap.size, 0, none⟩) 1 1) (w1 := w8.alloc (.cells #[.int .i64 I.2.f0, .int .i64 I.2.f1, .int .i64 I.2.f2, .int .i64 I.2.f3, .string I.2.f4, .slice A5 I.2.f5.length c5] 44)) rfl rfl (by first | (go_simp; done) | (go_simp; with_reducible rfl)) ?_
           have hba := below_alloc (Below.refl w8.heap.size w8) (.cells #[.int .i64 I.2.f0, .int .i64 I.2.f1, .int .i64 I.2.f2, .int .i64 I.2.f3, .string I.2.f4, .slice A5 I.2.f5.length c5] 44)
           refine hK.out _ _ ⟨(hba.cell (zE _ _ hHeld.1)).trans hHeld.1, (hba.cell (zE _ _ hHeld.2.1)).trans hHeld.2.1, (hba.cell (zE _ _ hHeld.2.2.1)).trans hHeld.2.2.1, (hba.cell (zE _ _ hHeld.2.2.2.1)).trans hHeld.2.2.2.1, (hba.cell (zE _ _ hHeld.2.2.2.2.1)).trans hHeld.2.2.2.2.1, (hba.cell (zE _ _ hHeld.2.2.2.2.2.1)).trans hHeld.2.2.2.2.2.1, (hba.cell (zE _ _ hHeld.2.2.2.2.2.2)).trans hHeld.2.2.2.2.2.2⟩ (fun hHeld2 => ?_)
           clear hK K hHeld hba
           refine norm_ (a' := ?_) ?_ ?_
           rotate_left
           ·show Act.put _ (some 84) _ = _
            simp only [Act.put, List.setIfInBounds_toArray, List.set_cons_zero, List.set_cons_succ, i64_w, i32_w]
            rfl
           have hDw8 : w.heap.size ≤ w8.heap.size := Nat.le_trans HD2.out HD7.out
           refine one_ (i := 8) (N := some 85) (bA 11 511) rfl rfl (one_of HT_.out (by kernel_rfl)) (by decide) (fun K hK => ?_)
           refine Kd.R_append_step kIns (w0 := w8) w.heap.size (by rfl) (.tmp 82) (.tmp 84) 41 44 (.agg #[(.int .i64 0), (.int .i64 0), (.int .i64 0), (.int .i64 0), (.string ⟨#[]⟩), (.slice none 0 0)]) 72 rfl Tryz.underlying41 infoIns rfl (by decide) (by omega) (.slice Ak xk.length ck) xk I.2 [.int .i64 I.2.f0, .int .i64 I.2.f1, .int .i64 I.2.f2, .int .i64 I.2.f3, .string I.2.f4, .slice A5 I.2.f5.length c5] (fun q => oki q ∨ w2.heap.size ≤ q) (fun q => w2.heap.size ≤ q) rfl rfl ?hp ?hokp ?hfresh ?HO (Below.refl _ _) hDw8 (by omega) ?_
           case hp => exact kIns_mkM w8 w.heap.size _ I.2 (Kd.R_lower (Kd.R_mono (Kd.R_bound HR6.out) (fun q hq => hq.2.1)) HD2.out)
           case hokp => exact fun q hq => ⟨.inr hq, fun e => by have := (HOk.out q (HRk.out.1 q e.symm)).1.2; omega⟩
           case hfresh => exact fun q hq => .inr (Nat.le_trans HD7.out hq)
           case HO => exact Kd.R_mono HRk.out (fun q hq => .inl hq)
           intro v85 w9 ho hb9 hg9 _
           obtain ⟨A9, c9, e9⟩ := Kd.R_slice ho
           subst e9
           rw [show (xk ++ [I.2]).length = xk.length + 1 by simp] at ho ⊢
           have hkb : w9.heap[gb]? = w8.heap[gb]? := hg9.block gb (zE _ _ HVk.out) (fun e => (HOk.out gb (HRk.out.1 gb e.symm)).2 rfl)
           have hkg : w9.heap[gx]? = w8.heap[gx]? := hg9.block gx (blk_lt HKx8.out) (fun e => by have := (HOk.out gx (HRk.out.1 gx e.symm)).1.2; omega)
           have HCb := zA (hkb.trans HCb8.out)
           have hv9 : w9.cell? ⟨gb, st.blocks.length - 1, none⟩ = some (.slice Ak xk.length ck) := (World.cell?_of_block (w := w8) hkb).trans HVk.out
           have hf9 : w9.frozen? ⟨gb, st.blocks.length - 1, none⟩ = false := (World.frozen?_of_block (w := w8) hkb).trans HFk.out
           have hkx9 := hkg.trans HKx8.out
           have HR9 := zA (show Kd.R (Kd.int .i64) 3 w9 w.heap.size (fun _ => True) _ st.head from Kd.R_over' HHd.out (fun k hk => Kd.R_typed HRk.out k hk) (by decide) hg9)
           have HB9 := zA hb9
           have HRn := zA ho
           have HH9 := zA (Kd.H_grown HH.out hg9 (fun k hk => HRk.out.1 k hk))
           clear ho hb9 hkb hkg hg9 hHeld2
           refine hK.out _ _ ⟨hv9, (blk_cell hkx9 0).trans rfl, (blk_cell hkx9 1).trans rfl, (blk_cell hkx9 2).trans rfl, (blk_cell hkx9 3).trans rfl, (blk_cell hkx9 4).trans rfl, (blk_cell hkx9 5).trans rfl⟩ (fun hHeld => ?_)
           clear hK K hkx9
           refine norm_ (a' := ?_) ?_ ?_
           rotate_left
           ·show Act.put _ (some 85) _ = _
            simp only [Act.put, List.setIfInBounds_toArray, List.set_cons_zero, List.set_cons_succ, i64_w, i32_w]
            rfl
           refine pu_ (i := 9) (N := some 86) (bA 11 1023) ?_
           refine last_ (i := 10) (N := none) (bA 11 2047) rfl rfl (one_of HT_.out (by kernel_rfl)) (by decide) (fun K hK => ?_)
           refine skip_ (w1 := ?_) (by rfl) rfl ?_ ?_
           rotate_left
           ·first | (go_simp; done) | (go_simp; rfl)
           refine hK.out _ _ ?_
           clear hK K hv9 hf9 hHeld
           refine done_ (done_of HT_.out (by kernel_rfl)) ?_
           have hLI := HLI.out
           rw [zC e0] at hLI
           rw [hLI] at HRS HSK
           clear hLI
           obtain ⟨hS9, hg10⟩ := Kd.S_seg (d := Kd.slice 44 kIns) (ok := fun _ => True) (okg := fun q => w2.heap.size ≤ q) (okp := fun q => oki q ∨ w2.heap.size ≤ q) (Kd.H_mono HH9.out (fun k hk => ⟨trivial, by have := HGb.out; omega⟩)) hi0 hi1 (seg := [.slice A9 (xk.length + 1) c9]) (j := 0) (Nat.le_refl 1) (x' := xk ++ [I.2]) ⟨_, rfl, HRn.out⟩ (fun k hk => hk) (fun k hk => ⟨trivial, by have := HGb.out; omega⟩)
           have hsz : (Kd.slice 44 kIns).sz = 1 := rfl
           rw [hsz, Nat.mul_one, Nat.add_zero, HTo.out] at hS9
           have hS10 : Kd.S (Kd.slice 44 kIns) 41 (w9.setCell ⟨gb, st.blocks.length - 1, none⟩ (.slice A9 (xk.length + 1) c9)) w.heap.size (fun _ => True) (.slice (some ⟨gb, 0, none⟩) st.blocks.length cbk) (st.blocks.set (st.blocks.length - 1) (xk ++ [I.2])) := by simpa only [World.setCells] using hS9
           have HS10 := zA hS10
           have HRz := zA (Kd.R_set HR9.out HCb.out (by decide) (st.blocks.length - 1) (.slice A9 (xk.length + 1) c9))
           have HBz := zA ((HBl.out.trans HB9.out).setCell (p := ⟨gb, st.blocks.length - 1, none⟩) HGo.out (.slice A9 (xk.length + 1) c9))
           clear hS9 hS10 hg10 hsz
           go_wp2_with fail
           go_roundg (s.extract (e + 1) s.size).size
           case measure => have := HQ.out; have := HS2.out; omega
           case rel =>
            have hR := HRS.out
            rw [zC trivial, ← NX.out.1] at hR
            refine ⟨n + 1, { st with blocks := st.blocks.set (st.blocks.length - 1) (st.blocks.getD (st.blocks.length - 1) [] ++ [I.2]) }, s.extract (e + 1) s.size, k', rfl, rfl, by go_num, ⟨rfl⟩, ⟨⟨HRz.out, ?_, HBz.out, HP.out.hh, HSK.out.2.1, HSK.out.2.2⟩⟩, ⟨?_⟩, ⟨?_, ?_⟩, NX⟩
            ·show Kd.S _ _ _ _ _ _ (st.blocks.set (st.blocks.length - 1) (st.blocks.getD (st.blocks.length - 1) [] ++ [I.2]))
             rw [← HXk.out]
             exact HS10.out
            ·rw [zD (fun h => Nat.succ_ne_zero n h.2)]; exact hR
            ·have := HS2.out; have := HK2.out; have := HKK.out; omega
            ·have := HS2.out; omega
          ·have HT := zA (show R = ((n : Int) + 1, I.1, st) by
            rw [HRS.out, HLI.out, zD e0]
            exact zD e0)
           go_upto_region 20 with (first
           | (go_at_call 52; refine (refwords_calls (s.extract 0 e) _ HSE.out).mono ?_; rintro e1 w2 ⟨v18, rfl, hv, hb⟩
              obtain ⟨Aw, cw, rfl⟩ := Kd.R_slice hv
              obtain ⟨_, hcw, hC⟩ := Kd.R_reads' hv
              rw [HWS.out] at hC hcw ⊢
              obtain ⟨ad, rfl, hx0⟩ := Kd.at_string hC 0 (by decide) (by first | (simp; done) | (simp; omega))
              have hx0 : w2.cell? ad = some (.string w0d) := hx0
              have HC := zA hC
              have HCW := zA hcw
              replace HP := zA (HP.out.below hb)
              clear hv hb hC hcw)
           | (go_at_call 54; refine (refins_calls w0d rest st0.code (by omega) (some ad) cw _ HC.out HCW.out I HI.out).mono ?_; rintro e2 w3 ⟨v5, rfl, hv5, hb⟩
              obtain ⟨A5, c5, rfl⟩ := Kd.R_slice hv5
              have HV5 := zA hv5
              have HP2 := zA hb
              have HPn := zA (HP.out.below hb)
              clear hv5 hb)
           | ((with_reducible refine gate_dst (N := 22) rfl ?_); refine box_event (by rfl) (N := 22) (by rfl) (cs := #[.int .i64 0, .int .i64 0, .int .i64 0, .int .i64 0, .string (⟨#[]⟩ : ByteArray), .slice none 0 0]) (t := 44) ?hr ?_; (case hr => go_simp <;> rfl); intro gx hg w4 hbox hb
              have BX := zA hbox
              have HGx := zA hg
              have HB4 := zA hb
              have zx := bk6 hbox
              clear hbox hg hb))
           refine bodyPost_ret (results_tmp5 rfl _ _ _) rfl ?_
           have hgx : w.heap.size ≤ gx := by rw [HGx.out]; exact HPn.out.bl.size
           refine HFE.out (st' := st) e0 HT.out ?_
           exact ((((((below_step HPn.out.bl HB4.out).setCell (p := ⟨gx, 0, none⟩) hgx _).setCell (p := ⟨gx, 1, none⟩) hgx _).setCell (p := ⟨gx, 2, none⟩) hgx _).setCell (p := ⟨gx, 3, none⟩) hgx _).setCell (p := ⟨gx, 4, none⟩) hgx _).setCell (p := ⟨gx, 5, none⟩) hgx _
      ·obtain ⟨c1a, c1b⟩ := qn c1
       have HN2 := zA (show ∀ j, j < e + 1 → s.data.toList[j]? ≠ some 10 from fun j hj h => by
        by_cases hje : j < e
        ·exact HN.out j hje h
        ·have : j = e := by omega
         subst this
         obtain ⟨h1, h2⟩ := List.getElem?_eq_some_iff.1 h
         rw [PlainNum.bt_get h1, h2] at c1
         exact c1 rfl)
       go_wp2_with fail
       go_roundg k1
       case measure => omega
       case rel => exact ⟨e + 1, by go_num, ⟨by have := HK.out; omega⟩, HN2, HP⟩
end Go.Proofs.YtniknpjeknmpjaaGreatDoor.Q
namespace Go.Proofs.YtniknpjeknmpjaaGreatDoor.Q
open Go.RowKit Go.Shelf Go.Proofs.YtniknpjeknmpjaaGreatDoor.Plain Go.Proofs.YtniknpjeknmpjaaGreatDoor.PlainName Go.Proofs.YtniknpjeknmpjaaGreatDoorW.PrintWords Go.Proofs.YtniknpjeknmpjaaGreatDoorW.PrintLast Go.Proofs.YtniknpjeknmpjaaGreatDoorW.PrintMore
set_option linter.unusedVariables false
set_option linter.unusedSimpArgs false
attribute [local go_sem] Oper.semAt_some
def cubbyref08_Parse.f (a0 : ByteArray) : Option (ByteArray × Int × Int × List (List SIns) × Int × Int) := text_Parse.f a0
def cubbyref08_Parse.T4 : Bool × List (List Nat × List Nat) := (true, [([], []), ([], []), ([1], [1]), ([2], [2]), ([], []), ([4], [4]), ([5], [5]), ([], []), ([0, 3, 6, 7], [0, 3, 6, 7]), ([8, 0, 1, 2, 3, 4, 5, 6, 7, 8], [8]), ([9, 0, 1, 2, 3, 4, 5, 6, 7, 8, 9], []), ([10, 0, 1, 2, 3, 4, 5, 6, 7, 8, 9, 10], [])])
def cubbyref08_Parse.B4 : List Nat := [0, 0, 2, 6, 0, 16, 48, 0, 255, 511, 1023, 2047]
theorem cubbyref08_Parse.tab4 : rtab .any (opsOf Tryz.f15 4) = cubbyref08_Parse.T4 := by kernel_rfl
theorem cubbyref08_Parse.bits4 : waitsOk cubbyref08_Parse.T4.2 cubbyref08_Parse.B4 = true := by kernel_rfl
set_option maxHeartbeats 8000000 in
set_option maxRecDepth 100000 in
theorem cubbyref08_Parse.calls (a0 : ByteArray) (r1 : ByteArray) (r2 r3 : Int) (r4 : List (List SIns)) (r5 r6 : Int) (w : World) (h : cubbyref08_Parse.f a0 = some (r1, r2, r3, r4, r5, r6))  :
 Calls Tryz.prog 15 #[.string a0] w fun e w' => ∃ v : Value, e = .returned (.tuple #[.agg #[.string r1, .int .i64 r2, .int .i64 r3, v], .int .i64 r5, .int .i64 r6]) ∧ Kd.R (Kd.slice 44 kIns) 41 w' w.heap.size (fun _ => True) v r4 ∧ Below w.heap.size w w' := by
 unfold cubbyref08_Parse.f text_Parse.f at h
 by_cases hsz : a0.size ≤ 90000
 case neg => rw [zD hsz] at h; cases h
 rw [zC hsz] at h
 have H := zA h
 clear h
 have hrp := refparse_calls psFunc rfl rfl rfl ⟨(by show (1:Int) ≤ 2; decide), (by show (2:Int) ≤ 100; decide)⟩ a0 (by omega) 3 rfl (w.alloc (.cells #[.string ⟨#[]⟩, .int .i64 0, .int .i64 0, .slice none 0 0] 24 (0, 0)))
 change Calls Tryz.prog 27 #[.string a0, .string ⟨#[102, 117, 110, 99]⟩, .int .i64 3, .bool false] _ _ at hrp
 have HRP := zA hrp
 clear hrp
 go_enter Tryz.func15, Tryz.ntmps15
 go_wp2_with fail
 go_at_call 27
 refine HRP.out.mono ?_
 rintro e w2 ⟨v1, v2, rfl, hr, hs, hbl⟩
 clear HRP
 have z2 := bk4 ((hbl.block _ (by simp)).trans (World.alloc_heap_new w _))
 have HBL := zA hbl
 clear hbl
 obtain ⟨E, hE⟩ : ∃ E, E = (parseAll psFunc a0).2.1 := ⟨_, rfl⟩
 obtain ⟨C, hC0⟩ : ∃ C, C = (parseAll psFunc a0).1 := ⟨_, rfl⟩
 obtain ⟨nm, hnm⟩ : ∃ nm, nm = outName (parseAll psFunc a0) := ⟨_, rfl⟩
 rw [← hE, ← hC0, ← hnm]
 have HE := zA hE
 have HC0 := zA hC0
 have HNm := zA hnm
 have HR0 := zA hr
 have HS0 := zA hs
 clear hE hC0 hnm hr hs
 rcases eqne E with ⟨e0, e0a⟩ | ⟨e0, e0a, e0b, e0c⟩
 ·go_upto_region 4 with fail
  have hE0 := HE.out.symm.trans e0
  have hr := HR0.out
  have hs := HS0.out
  have hnm := HNm.out
  rw [show outHead (parseAll psFunc a0) = (parseAll psFunc a0).2.2.head from zC hE0] at hr
  rw [show outBlocks (parseAll psFunc a0) = (parseAll psFunc a0).2.2.blocks from zC hE0] at hs
  rw [show outName (parseAll psFunc a0) = (parseAll psFunc a0).2.2.name from zC hE0] at hnm
  clear HR0 HS0 HNm
  have hhd : ((parseAll psFunc a0).2.2.head.length : Int) = 2 := parseAll_head hE0
  obtain ⟨st2, hst2⟩ : ∃ st2, st2 = (parseAll psFunc a0).2.2 := ⟨_, rfl⟩
  rw [← hst2] at hr hs hhd hnm
  subst hnm
  have hH := H.out
  rw [zC hE0, ← hst2] at hH
  have HH := zA hH
  clear hst2 hH
  have HSR := zA (Kd.S_R hs)
  have hl2 : st2.head.length = 2 := by omega
  obtain ⟨ad, ch, rfl⟩ := Kd.R_slice1 hr (by omega)
  obtain ⟨_, hlc, hC⟩ := Kd.R_reads' hr
  obtain ⟨ad0, q0, hx0⟩ := Kd.at_int hC 0 (by decide) (by omega)
  obtain ⟨ad1, q1, hx1⟩ := Kd.at_int hC 1 (by decide) (by omega)
  cases q0
  cases q1
  rw [hl2] at hlc ⊢
  have hx0 : w2.cell? ad = some (.int .i64 (rd st2.head 0)) := hx0
  have hx1 : w2.cell? { block := ad.block, off := ad.off + 1 } = some (.int .i64 (rd st2.head 1)) := hx1
  obtain ⟨Ab, cb, rfl⟩ := Kd.R_slice (Kd.S_R hs)
  have hbd : w.heap.size + 1 ≤ ad.block := by have := Kd.R_base hr _ rfl; simp at this; omega
  refine start_ (n := 12) (S := fun w' => w'.cell? ad = some (.int .i64 (rd st2.head 0)) ∧ w'.cell? { block := ad.block, off := ad.off + 1 } = some (.int .i64 (rd st2.head 1))) (ds := []) (bA 12 0) (by kernel_rfl) rfl rfl ⟨hx0, hx1⟩ (fun hHeld => ?_); refine with_tabW cubbyref08_Parse.tab4 cubbyref08_Parse.bits4 (fun HT_ HW_ => ?_)
  refine pu_ (i := 0) (N := some 23) (bA 12 1) ?_
  refine pu_ (i := 1) (N := some 24) (bA 12 3) ?_
  refine pu_ (i := 2) (N := some 25) (bA 12 7) ?_
  refine pu_ (i := 4) (N := some 27) (bA 12 23) ?_
  refine pu_ (i := 5) (N := some 28) (bA 12 55) ?_
  refine pu_ (i := 7) (N := some 30) (bA 12 183) ?_
  refine tk_ (i := 3) (N := some 26) (bA 12 191) ?_
  refine tk_ (i := 6) (N := some 29) (bA 12 255) ?_
  refine pu_ (i := 8) (N := some 31) (bA 12 511) ?_
  have z2d : w2.drew.heap[w.heap.size]? = some (.cells #[.string ⟨#[]⟩, .int .i64 0, .int .i64 0, .slice none 0 0] 24 (0, 0)) := (HBL.out.block _ (by simp)).trans (World.alloc_heap_new w _)
  have HZ2 := zA z2d
  replace z2d := bk4 z2d
  refine one_ (i := 9) (N := none) (bA 12 1023) rfl rfl (one_of HT_.out (by kernel_rfl)) (by decide) (fun K hK => ?_)
  refine skip_ (w1 := ?_) (by rfl) rfl ?_ ?_
  rotate_left
  ·first | (go_simp; done) | (go_simp; rfl)
  obtain ⟨hq1, hq2, hq3⟩ := box4 (w := w2) HZ2.out (.string st2.name) (.int .i64 (rd st2.head 0)) (.int .i64 (rd st2.head 1)) (.slice Ab st2.blocks.length cb)
  have HBl := zA (below_drew (box4_below (below_step (below_alloc (Below.refl w.heap.size w) (.cells #[.string ⟨#[]⟩, .int .i64 0, .int .i64 0, .slice none 0 0] 24 (0, 0))) HBL.out) (Nat.le_refl w.heap.size) (.string st2.name) (.int .i64 (rd st2.head 0)) (.int .i64 (rd st2.head 1)) (.slice Ab st2.blocks.length cb)))
  have HSR2 := zA (Kd.R_drew (Kd.R_step (Kd.R_bound HSR.out) (fun k hk hl => hq2 k (by have := hk.2.1; simp at this; omega))))
  have ho : ∀ (W : World) (p : Addr), (∀ k, k ≠ w.heap.size → W.heap[k]? = w2.heap[k]?) → p.block ≠ w.heap.size → W.drew.cell? p = w2.cell? p := fun W p h1 h2 => World.cell?_of_block (h1 _ h2)
  refine hK.out _ _ ⟨(ho _ _ hq2 (by omega)).trans hx0, (ho _ _ hq2 (by show ad.block ≠ _; omega)).trans hx1⟩ (fun hHeld => ?_)
  clear hK K ho hx0 hx1 z2d
  generalize ((((w2.setCell ⟨w.heap.size, 0, none⟩ (.string st2.name)).setCell ⟨w.heap.size, 1, none⟩ (.int .i64 (rd st2.head 0))).setCell ⟨w.heap.size, 2, none⟩ (.int .i64 (rd st2.head 1))).setCell ⟨w.heap.size, 3, none⟩ (.slice Ab st2.blocks.length cb)) = W4 at hq1 hq2 hq3 HBl HSR2 hHeld ⊢
  have y4 := bk4 hq1
  refine pu_ (i := 10) (N := some 3) (bA 12 2047) ?_
  refine pu_ (i := 11) (N := some 4) (bA 12 4095) ?_
  refine done_ (done_of HT_.out (by kernel_rfl)) ?_
  go_wp2_with fail
  refine bodyPost_ret (results_ctt rfl _ _ w.heap.size 24 #[.string st2.name, .int .i64 (rd st2.head 0), .int .i64 (rd st2.head 1), .slice Ab st2.blocks.length cb] (0, 0) _ rfl hq1 Tryz.underlying24 rfl (by kernel_rfl)) rfl ?_
  injection HH.out with he
  simp only [Prod.mk.injEq] at he
  obtain ⟨rfl, rfl, rfl, rfl, rfl, rfl⟩ := he
  exact ⟨_, rfl, Kd.R_mono (Kd.R_lower HSR2.out (by simp)) (fun _ _ => trivial), HBl.out⟩
 ·go_upto_region 4 with fail
  have hE0 : ¬ (parseAll psFunc a0).2.1 = 0 := fun h => e0 (HE.out.trans h)
  have hH := H.out
  rw [zD hE0] at hH
  injection hH with he
  simp only [Prod.mk.injEq] at he
  obtain ⟨rfl, rfl, rfl, rfl, rfl, rfl⟩ := he
  have hz : w2.heap[w.heap.size]? = some (.cells #[.string ⟨#[]⟩, .int .i64 0, .int .i64 0, .slice none 0 0] 24 (0, 0)) := (HBL.out.block _ (by simp)).trans (World.alloc_heap_new w _)
  obtain ⟨hq1, hq2, hq3⟩ := box4 (w := w2) hz (.string ⟨#[]⟩) (.int .i64 0) (.int .i64 0) (.slice none 0 0)
  have hb2 := box4_below (below_step (below_alloc (Below.refl w.heap.size w) _) HBL.out) (Nat.le_refl w.heap.size) (.string ⟨#[]⟩) (.int .i64 0) (.int .i64 0) (.slice none 0 0)
  refine bodyPost_ret (results_ctt rfl _ _ w.heap.size 24 #[.string ⟨#[]⟩, .int .i64 0, .int .i64 0, .slice none 0 0] (0, 0) _ rfl hq1 Tryz.underlying24 rfl (by kernel_rfl)) rfl ?_
  refine ⟨_, ?_, Kd.R_nil _ _ _ _ _, hb2⟩
  rw [← HE.out, ← HC0.out]
  rfl
end Go.Proofs.YtniknpjeknmpjaaGreatDoor.Q
namespace Go.Proofs.YtniknpjeknmpjaaGreatDoor.Q
open Go.RowKit Go.Shelf Go.Proofs.YtniknpjeknmpjaaGreatDoor.Plain Go.Proofs.YtniknpjeknmpjaaGreatDoorW.PrintWords Go.Proofs.YtniknpjeknmpjaaGreatDoorW.PrintLast Go.Proofs.YtniknpjeknmpjaaGreatDoorW.PrintMore
set_option linter.unusedVariables false
set_option linter.unusedSimpArgs false
theorem builderExtra : Builder.Extra Tryz.prog Tryz.lays156_ren :=
 { sizeBuilder := by kernel_rfl, liesBuilder := by kernel_rfl, t5 := Tryz.underlying5, a5 := Tryz.isAgg5, z5 := Tryz.sizeOf5, v5 := Tryz.zeroValue5, infoByte := by kernel_rfl, cellsByte := by kernel_rfl, sizeByte := by kernel_rfl, neB5 := by decide }
structure PrAt (base gp : Nat) (buf : List UInt8) (e : Int) (w : World) : Prop where
 ge : base ≤ gp
 at_ : ∃ (p : Option Addr) (v : Value), w.heap[gp]? = some (.cells #[.pointer p, v, .int .i64 e] 51 (0, 0)) ∧ (p = none ∨ p = some ⟨gp, 0, none⟩) ∧ w.ownsRow base 5 1 v (Lib.byteCells buf).length (Lib.byteCells buf)
theorem PrAt.below {base gp : Nat} {buf : List UInt8} {e : Int} {w w1 : World} (h : PrAt base gp buf e w) (hb : Below w.heap.size w w1) : PrAt base gp buf e w1 := by
 obtain ⟨ge, p, v, hk, hp, ho⟩ := h
 exact ⟨ge, p, v, blk_below hk hb, hp, pw_own_below ho hb⟩
theorem own_ne {base gp : Nat} {w : World} {v : Value} {n : Nat} {bs : List Value} {p : Option Addr} {u : Value} {e : Int} (hk : w.heap[gp]? = some (.cells #[.pointer p, u, .int .i64 e] 51 (0, 0))) (ho : w.ownsRow base 5 1 v n bs) : v.ownBlock ≠ some gp := by
 intro h
 obtain ⟨cells, hc⟩ := own_typed ho gp h
 have := hk.symm.trans hc
 simp at this
set_option maxHeartbeats 1000000 in
set_option maxRecDepth 100000 in
theorem copyCheck_calls {gp : Nat} {buf : List UInt8} {e0 : Int} {w0 w : World} (h : PrAt w0.heap.size gp buf e0 w) (hB : Below w0.heap.size w0 w) :
 Calls Tryz.prog 55 #[.pointer (some ⟨gp, 0, none⟩)] w fun e w' => e = .returned (.tuple #[]) ∧ (∃ v, w'.heap[gp]? = some (.cells #[.pointer (some ⟨gp, 0, none⟩), v, .int .i64 e0] 51 (0, 0)) ∧ w'.ownsRow w0.heap.size 5 1 v (Lib.byteCells buf).length (Lib.byteCells buf)) ∧ Below w0.heap.size w0 w' ∧ Kept w w' (fun k => k = gp) := by
 obtain ⟨ge, p, v, hk, hp, ho⟩ := h
 have hsz : (Tryz.prog.info? 49).map (·.size) = some 2 := by kernel_rfl
 obtain ⟨j, hj, hjs⟩ := Option.map_eq_some_iff.1 hsz
 have hne := own_ne hk ho
 have u1 := run_underlying Tryz.underlying49
 have u2 := run_underlying Tryz.underlying46
 have c0 : w.cell? ⟨gp, 0, none⟩ = some (.pointer p) := (blk_cell hk 0).trans rfl
 have f0 := blk_frozen hk 0
 rcases hp with rfl | rfl
 ·have hsh : w.shape? gp = some (51, 3) := by simp [World.shape?, hk]
  have hl : liesAt Tryz.prog Tryz.prog.depth 51 (3 / Tryz.prog.cellsOf 51) 0 49 1 = true := by kernel_rfl
  have HK := zA hk
  have HO := zA ho
  have HB := zA hB
  have HN := zA hne
  clear hk ho hB hne
  go_enter Tryz.func55, Tryz.ntmps55
  go_wp2
  rw [Lib.run_to_unsafe w ⟨gp, 0, none⟩ Tryz.underlying46 Tryz.underlying114 hj (by rw [hjs]; decide) hsh (Nat.zero_lt_succ 2)]
  simp only [Result.andThen]
  rw [Oper.upon_value]
  go_wp2
  rw [run_callFunc_extern Tryz.func69 (by kernel_rfl) (by kernel_rfl) (by kernel_rfl) (e := Extern.AbiNoEscape.same) (by kernel_rfl)]
  rw [Lib.run_noEscape]
  simp only [Result.andThen]
  rw [Oper.upon_value]
  go_wp2
  rw [Lib.run_from_unsafe w ⟨gp, 0, none⟩ Tryz.underlying114 Tryz.underlying46 hj hsh hl]
  simp only [Result.andThen]
  rw [Oper.upon_value]
  go_wp2
  go_end0
  exact ⟨rfl, ⟨v, blk_put HK.out 0 _ rfl, own_setCell HO.out (p := ⟨gp, 0, none⟩) (fun h => HN.out h.symm) _⟩, below_set HB.out ge, Kept.setCell (S := fun k => k = gp) (Kept.refl _ _) (.inl rfl) _⟩
 ·go_enter Tryz.func55, Tryz.ntmps55
  go_wp2
  rw [Lib.run_neq_ptr_same w _ Tryz.underlying46 hj]
  go_wp2
  go_end0
  exact ⟨rfl, ⟨v, hk, ho⟩, hB, Kept.refl _ _⟩
def KeptT (gp : Nat) (w w' : World) : Prop := w.heap.size ≤ w'.heap.size ∧ ∀ (k : Nat) (o : Obj), w.heap[k]? = some o → (∀ cs fr, o ≠ .cells cs 5 fr) → k ≠ gp → w'.heap[k]? = some o
theorem KeptT.refl (gp : Nat) (w : World) : KeptT gp w w := ⟨Nat.le_refl _, fun _ _ h _ _ => h⟩
theorem KeptT.trans {gp : Nat} {w w1 w2 : World} (h : KeptT gp w w1) (h2 : KeptT gp w1 w2) : KeptT gp w w2 := ⟨Nat.le_trans h.1 h2.1, fun k o hk ht hg => h2.2 k o (h.2 k o hk ht hg) ht hg⟩
theorem KeptT.below {gp : Nat} {w w1 w2 : World} (h : KeptT gp w w1) (hb : Below w1.heap.size w1 w2) : KeptT gp w w2 := h.trans ⟨hb.size, fun k o hk _ _ => blk_below hk hb⟩
theorem KeptT.of_kept {gp : Nat} {w w1 : World} (h : Kept w w1 (fun k => k = gp)) : KeptT gp w w1 := ⟨h.1, fun k o hk _ hg => blk_kept hk h hg⟩
theorem KeptT.set {gp : Nat} {w w1 : World} (h : KeptT gp w w1) (i : Nat) (v : Value) : KeptT gp w (w1.setCell ⟨gp, i, none⟩ v) := h.trans (KeptT.of_kept (Kept.setCell (S := fun k => k = gp) (Kept.refl _ _) (.inl rfl) _))
theorem KeptT.grown {gp : Nat} {w w1 w2 : World} {v : Value} {n : Nat} {bs : List Value} {base : Nat} (h : KeptT gp w w1) (ho : w1.ownsRow base 5 1 v n bs) (hg : w1.grownBy w2 v.ownBlock) : KeptT gp w w2 := by
 refine h.trans ⟨hg.size, fun k o hk ht hgp => (hg.block k (blk_lt hk) (fun e => ?_)).trans hk⟩
 obtain ⟨cells, hc⟩ := own_typed ho k e.symm
 exact ht cells (0, 0) (zI (hk.symm.trans hc))
theorem iter_cells {w : World} {k0 : Nat} {s : ByteArray} {p q : Nat} (hi : w.heap[k0]? = some (.stringIter s p)) {k t : Nat} {cs : Array Value} {fr : Nat × Nat} (hk : w.heap[k]? = some (.cells cs t fr)) : (w.iterAt k0 s q).heap[k]? = some (.cells cs t fr) := by
 refine (Lib.iterAt_other w k0 k s q (fun e => ?_)).trans hk
 subst e
 have := hi.symm.trans hk
 simp at this
set_option maxHeartbeats 2000000 in
set_option maxRecDepth 100000 in
theorem writeString_calls {gp : Nat} {buf : List UInt8} {e0 : Int} {w0 w : World} (h : PrAt w0.heap.size gp buf e0 w) (hB : Below w0.heap.size w0 w) (s : ByteArray) (hl : buf.length + s.size ≤ 140737488355328) :
 Calls Tryz.prog 28 #[.pointer (some ⟨gp, 0, none⟩), .string s] w fun e w' => e = .returned (.tuple #[.int .i64 s.size, .nilIface]) ∧ PrAt w0.heap.size gp (buf ++ s.data.toList) e0 w' ∧ Below w0.heap.size w0 w' ∧ KeptT gp w w' := by
 obtain ⟨i0, hi, hz0, hz1, hz2⟩ := info_parts builderExtra.infoByte
 have hge := h.ge
 have hcc := zA (copyCheck_calls h hB)
 clear h hB
 go_enter Tryz.func28, Tryz.ntmps28
 go_wp2_with (go_at_call 55; refine hcc.out.mono ?_; rintro e w1 ⟨rfl, ⟨v, hk, ho⟩, hB1, hkp⟩; refine Hid.out ?_)
 refine Lib.hid ?_
 have HK := zA hk
 have HO := zA ho
 have HB := zA hB1
 have HT := zA (KeptT.of_kept hkp)
 have hne := own_ne hk ho
 have HNE := zA hne
 have c1 : w1.cell? ⟨gp, 1, none⟩ = some v := (blk_cell hk 1).trans rfl
 clear hcc hkp hk ho hB1 hne
 go_wp2_with (at_builtin; refine Lib.wpList_append_own_string _ rfl _ _ 47 9 rfl w0.heap.size 5 i0 Tryz.underlying47 Tryz.underlying9 hi hz0 hz1 hz2 _ _ _ rfl HO.out s rfl ?c3 ?c4 ?c5 ?_)
 case c3 => have := Lib.byteCells_length buf; unfold maxLen; omega
 case c4 => have := Lib.byteCells_length buf; omega
 case c5 => exact below_size HB.out
 intro v' w2 hown' hgrow _
 have hk2 : w2.heap[gp]? = some (.cells #[.pointer (some ⟨gp, 0, none⟩), v, .int .i64 e0] 51 (0, 0)) := (hgrow.block gp (blk_lt HK.out) (fun e => HNE.out e.symm)).trans HK.out
 have HK2 := zA hk2
 have d1 : w2.cell? ⟨gp, 1, none⟩ = some v := (blk_cell hk2 1).trans rfl
 have f1 : w2.frozen? ⟨gp, 1, none⟩ = false := blk_frozen hk2 1
 have HO2 := zA hown'
 have HB2 := zA (HB.out.grown hgrow (below_size HB.out) (fun k hk => (HO.out.lt k hk).1))
 have HT2 := zA (HT.out.grown HO.out hgrow)
 have hne2 := own_ne hk2 hown'
 obtain ⟨ao, n', cap, rfl⟩ : ∃ ao n' cap, v' = .slice ao n' cap := by
  rcases hown'.2 with ⟨hv, _⟩ | ⟨g, cap, cur, hv, _⟩
  ·exact ⟨_, _, _, hv⟩
  ·exact ⟨_, _, _, hv⟩
 have HNE2 := zA hne2
 clear hne2 hown' hgrow hk2 c1
 go_wp2
 go_ret2
 refine ⟨rfl, ⟨hge, some ⟨gp, 0, none⟩, .slice ao n' cap, blk_put HK2.out 1 _ rfl, .inr rfl, ?_⟩, below_set HB2.out hge, HT2.out.set 1 _⟩
 have e1 : Lib.byteCells (buf ++ s.data.toList) = Lib.byteCells buf ++ Lib.strCells s := by rw [Lib.byteCells_append]; rfl
 rw [e1, List.length_append, Lib.strCells_length]
 exact own_setCell HO2.out (p := ⟨gp, 1, none⟩) (fun h => HNE2.out h.symm) _
set_option maxHeartbeats 2000000 in
set_option maxRecDepth 100000 in
theorem string_calls {gp : Nat} {buf : List UInt8} {e0 : Int} {w0 w : World} (h : PrAt w0.heap.size gp buf e0 w) (hB : Below w0.heap.size w0 w) (h0 : buf ≠ []) :
 Calls Tryz.prog 36 #[.pointer (some ⟨gp, 0, none⟩)] w fun e w' => e = .returned (.string ⟨buf.toArray⟩) ∧ Below w0.heap.size w0 w' := by
 obtain ⟨ge, p, v, hbk, hp, hown⟩ := h
 have hl0 : buf.length ≠ 0 := by simpa using h0
 rw [Lib.byteCells_length] at hown
 obtain ⟨g, cap, cur, rfl, hbg, hg, hnc, hcm, hcs, htake⟩ : ∃ g cap cur, v = .slice (some ⟨g, 0, none⟩) buf.length cap ∧ w0.heap.size ≤ g ∧ w.heap[g]? = some (.cells cur 5 (0, 0)) ∧ buf.length ≤ cap ∧ cap ≤ maxLen ∧ cur.size = cap * 1 ∧ cur.toList.take (buf.length * 1) = Lib.byteCells buf := by
  rcases hown.2 with ⟨_, hz⟩ | ⟨g, cap, cur, hv, r⟩
  ·exact absurd hz hl0
  ·exact ⟨g, cap, cur, hv, r⟩
 have c1 : w.drew.cell? ⟨gp, 1, none⟩ = some (.slice (some ⟨g, 0, none⟩) buf.length cap) := by
  have : w.drew.heap[gp]? = some (.cells #[.pointer p, .slice (some ⟨g, 0, none⟩) buf.length cap, .int .i64 e0] 51 (0, 0)) := hbk
  exact (blk_cell this 1).trans rfl
 have hSD : (Builtin.unsafeSliceData_ #[47] 105 #[.slice (some ⟨g, 0, none⟩) buf.length cap]).run Tryz.prog w.drew = .ok (.pointer (some ⟨g, 0, none⟩)) w.drew :=
  Lib.run_unsafeSliceData_row _ _ _ _ _ _ (by omega)
 have hUS : (Builtin.unsafeString_ #[105, 3] 9 #[.pointer (some ⟨g, 0, none⟩), .int .i64 buf.length]).run Tryz.prog w.drew = .ok (.string ⟨buf.toArray⟩) (w.drew.freeze ⟨g, 0, none⟩ buf.length) := by
  refine Lib.run_unsafeString_row w.drew 105 3 9 5 Tryz.underlying105 (by kernel_rfl) g cur.size (by have hg' : w.drew.heap[g]? = some (.cells cur 5 (0, 0)) := hg; simp [World.shape?, hg']) buf h0 (by omega) (by unfold maxLen at hcm; omega) ?_
  intro j x hx
  exact hown.cells (g := g) rfl j (.int .u8 x.toNat) (by simp [Lib.byteCells, hx])
 have HB := zA (Lib.below_freeze (Below.drew hB) (p := ⟨g, 0, none⟩) hbg buf.length)
 clear hown htake hbk hB hg
 go_enter Tryz.func36, Tryz.ntmps36
 go_wp2
 go_region
 all_goals (go_wp2; go_ret; exact ⟨rfl, HB.out⟩)
theorem joinR_calls {w : World} {base : Nat} {ok : Nat → Prop} {g c : Nat} {xs : List ByteArray} (h : Kd.R Kd.string 9 w base ok (.slice (some ⟨g, 0, none⟩) xs.length c) xs) (hN : xs.length ≤ 140737488355328) (hlen : (Lib.join (xs.map (·.data.toList)) [32]).length ≤ 140737488355328) :
 Calls Tryz.prog 29 #[.slice (some ⟨g, 0, none⟩) xs.length c, .string ⟨#[32]⟩] w fun e w' => e = .returned (.string ⟨(Lib.join (xs.map (·.data.toList)) [32]).toArray⟩) ∧ Below w.heap.size w w' := by
 have hr := Kd.R_reads' h
 refine Any.strings_Join Tryz.lays156 builderExtra g 0 c xs ⟨#[32]⟩ w (fun j x hx => ?_) (Kd.R_lt h g (by simp [Value.ownBlock])) hN hr.2.1 hlen
 have hj := (List.getElem?_eq_some_iff.1 hx).1
 obtain ⟨ad, ea, hc⟩ := Kd.at_string hr.2.2 (j : Int) (by omega) (by omega)
 cases ea
 rw [Nat.zero_add]
 rw [Int.toNat_natCast] at hc
 have e : rdOf ByteArray.empty xs (j : Int) = x := by show xs.getD _ _ = _; rw [Int.toNat_natCast, List.getD_eq_getElem?_getD, hx]; rfl
 rw [e] at hc
 by_cases h0 : j = 0
 ·subst h0; simpa [Addr.add] using hc
 ·simpa [Addr.add, h0] using hc
def keepE (e e1 : Int) : Int := if e = 0 then e1 else e
inductive Part where
 | num (n : Int)
 | nm (s : ByteArray)
def Part.text : Part → List UInt8
 | .num n => Lib.itoa n
 | .nm s => s.data.toList
def Part.err : Part → Int
 | .num n => if n < 0 ∨ 2147483648 ≤ n then 81 else 0
 | .nm _ => 0
def PartAt (gp : Nat) (w : World) (v : Value) : Part → Prop
 | .num n => ∃ b1 b2, v = .func (.func 33) #[] #[.pointer (some ⟨b1, 0, none⟩), .pointer (some ⟨b2, 0, none⟩)] ∧ w.heap[b1]? = some (.cells #[.int .i64 n] 3 (0, 0)) ∧ w.heap[b2]? = some (.cells #[.pointer (some ⟨gp, 0, none⟩)] 45 (0, 0))
 | .nm s => ∃ b, v = .func (.func 32) #[] #[.pointer (some ⟨b, 0, none⟩)] ∧ w.heap[b]? = some (.cells #[.string s] 9 (0, 0))
theorem kept_blk {gp : Nat} {buf : List UInt8} {e : Int} {base : Nat} {w w' : World} (hp : PrAt base gp buf e w) (h : KeptT gp w w') {k t : Nat} {cs : Array Value} (hk : w.heap[k]? = some (.cells cs t (0, 0))) (ht : t ≠ 5) (hn : t ≠ 51) : w'.heap[k]? = some (.cells cs t (0, 0)) := by
 refine h.2 k _ hk (fun c f e => ht (by injection e)) (fun e_ => ?_)
 subst e_
 obtain ⟨_, p, v, h2, _⟩ := hp
 have := hk.symm.trans h2
 simp at this
 exact hn this.2
theorem PartAt.kept {gp : Nat} {buf : List UInt8} {e : Int} {base : Nat} {w w' : World} {v : Value} {p : Part} (hp : PrAt base gp buf e w) (h : KeptT gp w w') (hv : PartAt gp w v p) : PartAt gp w' v p := by
 cases p with
 | num n =>
  obtain ⟨b1, b2, rfl, h1, h2⟩ := hv
  exact ⟨b1, b2, rfl, kept_blk hp h h1 (by decide) (by decide), kept_blk hp h h2 (by decide) (by decide)⟩
 | nm s =>
  obtain ⟨b, rfl, h1⟩ := hv
  exact ⟨b, rfl, kept_blk hp h h1 (by decide) (by decide)⟩
theorem PartAt.below {gp : Nat} {w w' : World} {v : Value} {p : Part} (hb : Below w.heap.size w w') (hv : PartAt gp w v p) : PartAt gp w' v p := by
 cases p with
 | num n =>
  obtain ⟨b1, b2, rfl, h1, h2⟩ := hv
  exact ⟨b1, b2, rfl, blk_below h1 hb, blk_below h2 hb⟩
 | nm s =>
  obtain ⟨b, rfl, h1⟩ := hv
  exact ⟨b, rfl, blk_below h1 hb⟩
section
variable {gp : Nat} {buf : List UInt8} {e0 : Int} {w0 w : World}
set_option maxHeartbeats 2000000 in
set_option maxRecDepth 100000 in
theorem wrong_calls (h : PrAt w0.heap.size gp buf e0 w) (hB : Below w0.heap.size w0 w) (e1 : Int) :
 Calls Tryz.prog 31 #[.pointer (some ⟨gp, 0, none⟩), .int .i64 e1] w fun e w' => e = .returned (.tuple #[]) ∧ PrAt w0.heap.size gp buf (keepE e0 e1) w' ∧ Below w0.heap.size w0 w' ∧ KeptT gp w w' := by
 obtain ⟨ge, p, v, hk, hp, ho⟩ := h
 have HK := zA hk
 have HP := zA hp
 have HO := zA ho
 have HB := zA hB
 have HN := zA (own_ne hk ho)
 have c2 : w.cell? ⟨gp, 2, none⟩ = some (.int .i64 e0) := (blk_cell hk 2).trans rfl
 have f2 := blk_frozen hk 2
 clear hk hp ho hB
 by_cases c : e0 = 0
 ·obtain ⟨ca, cb⟩ := qe c
  have hke : keepE e0 e1 = e1 := zC c
  clear c
  rw [hke]
  clear hke
  go_enter Tryz.func31, Tryz.ntmps31
  go_wp2
  go_end0
  exact ⟨rfl, ⟨ge, p, v, blk_put HK.out 2 _ rfl, HP.out, own_setCell HO.out (p := ⟨gp, 2, none⟩) (fun h => HN.out h.symm) _⟩, below_set HB.out ge, (KeptT.refl gp w).set 2 _⟩
 ·obtain ⟨ca, cb⟩ := qn c
  have hke : keepE e0 e1 = e0 := zD c
  clear c
  rw [hke]
  clear hke
  go_enter Tryz.func31, Tryz.ntmps31
  go_wp2
  go_end0
  exact ⟨rfl, ⟨ge, p, v, HK.out, HP.out, HO.out⟩, HB.out, KeptT.refl gp w⟩
set_option maxHeartbeats 2000000 in
set_option maxRecDepth 100000 in
theorem number_calls (n : Int) : Calls Tryz.prog 18 #[.pointer (some ⟨gp, 0, none⟩), .int .i64 n] w fun e w' => ∃ v, e = .returned v ∧ PartAt gp w' v (.num n) ∧ Below w.heap.size w w' := by
 have hmf : ∀ (fn : Fn) (first cap : Array Value) (w : World), (Instr.makeFunc fn first cap).run Tryz.prog w = .ok (.func fn first cap) w := fun _ _ _ _ => rfl
 go_enter Tryz.func18, Tryz.ntmps18
 go_wp2
 go_ret
 exact ⟨_, rfl, ⟨_, _, rfl, by simpa using blk_new (w.alloc _) _, blk_alloc (blk_new w _) _⟩, below_alloc (below_alloc (Below.refl _ _) _) _⟩
set_option maxHeartbeats 2000000 in
set_option maxRecDepth 100000 in
theorem name_calls (h : PrAt w0.heap.size gp buf e0 w) (hB : Below w0.heap.size w0 w) (s : ByteArray) (b : Bool) (hn : ir_Name.f s = some b) :
 Calls Tryz.prog 17 #[.pointer (some ⟨gp, 0, none⟩), .string s] w fun e w' => ∃ v, e = .returned v ∧ PartAt gp w' v (.nm s) ∧ PrAt w0.heap.size gp buf (if b then e0 else keepE e0 80) w' ∧ Below w0.heap.size w0 w' ∧ KeptT gp w w' := by
 have hmf : ∀ (fn : Fn) (first cap : Array Value) (w : World), (Instr.makeFunc fn first cap).run Tryz.prog w = .ok (.func fn first cap) w := fun _ _ _ _ => rfl
 have HP := zA h
 have HB := zA hB
 have HN := zA hn
 have HT := zA (KeptT.refl gp w)
 clear h hB hn
 go_enter Tryz.func17, Tryz.ntmps17
 cases b with
 | true =>
  go_wp2_with (first
   | ((with_reducible refine gate_dst (N := 3) rfl ?_); refine box_event (by rfl) (N := 3) (by rfl) (cs := #[.string s]) (t := 9) ?hr ?_; (case hr => go_simp <;> rfl); intro gs hg w1 hbox hb; have BS := zA hbox; replace HP := zA (HP.out.below hb); replace HB := zA (below_step HB.out hb); replace HT := zA (HT.out.below hb); clear hb hbox hg; have z1 := bk1 BS.out)
   | (go_at_call 30; refine (ir_Name.calls s true _ HN.out).mono ?_; rintro e w2 ⟨rfl, hb⟩; replace BS := zA (blk_below BS.out hb); replace HP := zA (HP.out.below hb); replace HB := zA (below_step HB.out hb); replace HT := zA (HT.out.below hb); clear hb z1; have z1 := bk1 BS.out))
  go_ret
  exact ⟨_, rfl, ⟨gs, rfl, BS.out⟩, HP.out, HB.out, HT.out⟩
 | false =>
  go_wp2_with (first
   | ((with_reducible refine gate_dst (N := 3) rfl ?_); refine box_event (by rfl) (N := 3) (by rfl) (cs := #[.string s]) (t := 9) ?hr ?_; (case hr => go_simp <;> rfl); intro gs hg w1 hbox hb; have BS := zA hbox; replace HP := zA (HP.out.below hb); replace HB := zA (below_step HB.out hb); replace HT := zA (HT.out.below hb); clear hb hbox hg; have z1 := bk1 BS.out)
   | (go_at_call 30; refine (ir_Name.calls s false _ HN.out).mono ?_; rintro e w2 ⟨rfl, hb⟩; replace BS := zA (blk_below BS.out hb); replace HP := zA (HP.out.below hb); replace HB := zA (below_step HB.out hb); replace HT := zA (HT.out.below hb); clear hb z1; have z1 := bk1 BS.out)
   | (go_at_call 31; refine (wrong_calls HP.out HB.out 80).mono ?_; rintro e w3 ⟨rfl, hp, hb, ht⟩; replace BS := zA (kept_blk HP.out ht BS.out (by decide) (by decide)); replace HP := zA hp; replace HB := zA hb; replace HT := zA (HT.out.trans ht); clear hp hb ht z1; have z1 := bk1 BS.out))
  go_ret
  exact ⟨_, rfl, ⟨gs, rfl, BS.out⟩, HP.out, HB.out, HT.out⟩
theorem keep_zero (e : Int) : keepE e 0 = e := by unfold keepE; split <;> simp_all
set_option maxHeartbeats 2000000 in
set_option maxRecDepth 100000 in
theorem number1_calls (h : PrAt w0.heap.size gp buf e0 w) (hB : Below w0.heap.size w0 w) (hL : LaidW w0) (n : Int) (hn : -9223372036854775808 ≤ n ∧ n ≤ 9223372036854775807) (b1 b2 : Nat) (h1 : w.heap[b1]? = some (.cells #[.int .i64 n] 3 (0, 0))) (h2 : w.heap[b2]? = some (.cells #[.pointer (some ⟨gp, 0, none⟩)] 45 (0, 0))) :
 Calls Tryz.prog 33 #[.pointer (some ⟨b1, 0, none⟩), .pointer (some ⟨b2, 0, none⟩)] w fun e w' => e = .returned (.string ⟨(Lib.itoa n).toArray⟩) ∧ PrAt w0.heap.size gp buf (keepE e0 (Part.err (.num n))) w' ∧ Below w0.heap.size w0 w' ∧ KeptT gp w w' := by
 have HP := zA h
 have HB := zA hB
 have HLd := zA hL
 have HT := zA (KeptT.refl gp w)
 have B1 := zA h1
 have B2 := zA h2
 have z1 := bk1 h1
 have z2 := bk1 h2
 obtain ⟨u, hu⟩ : ∃ u, u = (⟨(Lib.itoa n).toArray⟩ : ByteArray) := ⟨_, rfl⟩
 rw [← hu]
 have HF := zA (show strconv_Itoa_34.f n = some u by unfold strconv_Itoa_34.f; rw [zC hn, hu])
 clear h hB hL h1 h2 hu hn
 by_cases c1 : n < 0 ∨ 2147483648 ≤ n
 ·have he : Part.err (.num n) = 81 := zC c1
  rw [he]
  clear he
  by_cases c2 : n < 0
  all_goals
   first
   | have c2b := zF c2
   | (have c2b := zG c2; have c3b := zF (show 2147483648 ≤ n by omega))
   go_enter Tryz.func33, Tryz.ntmps33
   go_wp2_with (first
    | (go_at_call 31; refine (wrong_calls HP.out HB.out 81).mono ?_; rintro e w3 ⟨rfl, hp, hb, ht⟩; replace B1 := zA (kept_blk HP.out ht B1.out (by decide) (by decide)); replace HP := zA hp; replace HB := zA hb; replace HT := zA (HT.out.trans ht); clear hp hb ht z1 z2; have z1 := bk1 B1.out)
    | (go_at_call 34; refine (strconv_Itoa_34.calls n u _ (HLd.out.below HB.out) HF.out).mono ?_; rintro e w4 ⟨rfl, hb⟩; replace HP := zA (HP.out.below hb); replace HB := zA (below_step HB.out hb); replace HT := zA (HT.out.below hb); clear hb z1))
   go_ret
   exact ⟨rfl, HP.out, HB.out, HT.out⟩
 ·have he : Part.err (.num n) = 0 := zD c1
  rw [he, keep_zero]
  clear he
  have c2b := zG (show ¬ n < 0 by omega)
  have c3b := zG (show ¬ 2147483648 ≤ n by omega)
  clear c1
  go_enter Tryz.func33, Tryz.ntmps33
  go_wp2_with (go_at_call 34; refine (strconv_Itoa_34.calls n u _ (HLd.out.below HB.out) HF.out).mono ?_; rintro e w4 ⟨rfl, hb⟩; replace HP := zA (HP.out.below hb); replace HB := zA (below_step HB.out hb); replace HT := zA (HT.out.below hb); clear hb z1 z2)
  go_ret
  exact ⟨rfl, HP.out, HB.out, HT.out⟩
set_option maxHeartbeats 2000000 in
set_option maxRecDepth 100000 in
theorem name1_calls (s : ByteArray) (b : Nat) (h : w.heap[b]? = some (.cells #[.string s] 9 (0, 0))) :
 Calls Tryz.prog 32 #[.pointer (some ⟨b, 0, none⟩)] w fun e w' => e = .returned (.string s) ∧ w = w' := by
 have z1 := bk1 h
 go_enter Tryz.func32, Tryz.ntmps32
 go_wp2
 go_ret
 exact ⟨rfl, rfl⟩
theorem R_keptT {α : Type} {d : Kd α} {e base : Nat} {ok : Nat → Prop} {v : Value} {xs : List α} {w' : World} (hr : d.R e w base ok v xs) (hp : PrAt w0.heap.size gp buf e0 w) (ht : KeptT gp w w') (hty : ∀ q, q ∈ e :: d.E → q ≠ 5 ∧ q ≠ 51) : d.R e w' base ok v xs := by
 refine Kd.R_mono (Kd.R_step (Kd.R_bound hr) (fun k hk _ => ?_)) (fun k hk => hk.1)
 obtain ⟨_, _, _, q, hq, cells, hc⟩ := hk
 exact (kept_blk hp ht hc (hty q hq).1 (hty q hq).2).trans hc.symm
def Part.str : Part → ByteArray
 | .num n => ⟨(Lib.itoa n).toArray⟩
 | .nm s => s
theorem PrAt.grown {α : Type} {d : Kd α} {t base : Nat} {ok : Nat → Prop} {v : Value} {xs : List α} {w' : World} (hp : PrAt w0.heap.size gp buf e0 w) (hr : d.R t w base ok v xs) (hg : w.grownBy w' v.ownBlock) (h1 : t ≠ 5) (h2 : t ≠ 51) : PrAt w0.heap.size gp buf e0 w' := by
 obtain ⟨ge, p, u, hk, hpp, ho⟩ := hp
 have n1 : ∀ k, v.ownBlock = some k → k ≠ gp := fun k hk' e => by
  obtain ⟨cells, hc⟩ := Kd.R_typed hr k hk'
  subst e
  have := hk.symm.trans hc
  simp at this
  exact h2 this.2.symm
 refine ⟨ge, p, u, (hg.block gp (blk_lt hk) (fun e => n1 gp e.symm rfl)).trans hk, hpp, own_other ho hg ?_⟩
 cases hu : u.ownBlock with
 | none => exact .inl rfl
 | some k =>
  refine .inr (fun e => ?_)
  obtain ⟨c1, h3⟩ := own_typed ho k hu
  obtain ⟨c2, h4⟩ := Kd.R_typed hr k e.symm
  have := h3.symm.trans h4
  simp at this
  exact h1 this.2.symm
theorem KeptT.later {w1 w' : World} (h : KeptT gp w w1) (hb : Below w.heap.size w1 w') : KeptT gp w w' := ⟨Nat.le_trans h.1 hb.size, fun k o hk ht hg => (hb.block k (blk_lt hk)).trans (h.2 k o hk ht hg)⟩
def PartsAt (gp : Nat) (w : World) (A : Option Addr) (ps : List Part) : Prop := ps = [] ∨ ∃ (bp : Nat) (cs : Array Value), A = some ⟨bp, 0, none⟩ ∧ w.heap[bp]? = some (.cells cs 53 (0, 0)) ∧ ∀ (j : Nat) p, ps[j]? = some p → ∃ v, cs[j]? = some v ∧ PartAt gp w v p
theorem PartsAt.kept {A : Option Addr} {ps : List Part} {w' : World} (hp : PrAt w0.heap.size gp buf e0 w) (ht : KeptT gp w w') (h : PartsAt gp w A ps) : PartsAt gp w' A ps := by
 rcases h with h | ⟨bp, cs, e, hk, hc⟩
 ·exact .inl h
 ·exact .inr ⟨bp, cs, e, kept_blk hp ht hk (by decide) (by decide), fun j p hj => by obtain ⟨v, h1, h2⟩ := hc j p hj; exact ⟨v, h1, h2.kept hp ht⟩⟩
theorem PartsAt.below {A : Option Addr} {ps : List Part} {w' : World} (hb : Below w.heap.size w w') (h : PartsAt gp w A ps) : PartsAt gp w' A ps := by
 rcases h with h | ⟨bp, cs, e, hk, hc⟩
 ·exact .inl h
 ·exact .inr ⟨bp, cs, e, blk_below hk hb, fun j p hj => by obtain ⟨v, h1, h2⟩ := hc j p hj; exact ⟨v, h1, h2.below hb⟩⟩
def errsOf (e : Int) (ps : List Part) : Int := ps.foldl (fun e p => keepE e p.err) e
def lineBytes (wd : ByteArray) (ps : List Part) : List UInt8 := Lib.join ((wd :: ps.map Part.str).map (·.data.toList)) [32] ++ [10]
def PartOk : Part → Prop
 | .num n => -9223372036854775808 ≤ n ∧ n ≤ 9223372036854775807
 | .nm _ => True
set_option maxHeartbeats 4000000 in
set_option maxRecDepth 100000 in
theorem line_calls (h : PrAt w0.heap.size gp buf e0 w) (hB : Below w0.heap.size w0 w) (hL : LaidW w0) (wd : ByteArray) (ps : List Part) (A : Option Addr) (c : Nat) (hps : PartsAt gp w A ps) (hok : ∀ p ∈ ps, PartOk p) (hpl : ps.length ≤ 100000) (hlen : (lineBytes wd ps).length ≤ 1000000000) (hbl : buf.length ≤ 1000000000) :
 Calls Tryz.prog 16 #[.pointer (some ⟨gp, 0, none⟩), .string wd, .slice A ps.length c] w fun e w' => e = .returned (.tuple #[]) ∧ PrAt w0.heap.size gp (buf ++ lineBytes wd ps) (errsOf e0 ps) w' ∧ Below w0.heap.size w0 w' ∧ KeptT gp w w' := by
 have HP := zA h
 have HB := zA hB
 have HLd := zA hL
 have HT := zA (KeptT.refl gp w)
 have HQ := zA hps
 have HOk := zA hok
 have HLen := zA hlen
 have HBl := zA hbl
 clear h hB hL hps hok hlen hbl
 go_enter Tryz.func16, Tryz.ntmps16
 have HBw := HB
 have HPw := HP
 go_wp2_with ((with_reducible refine gate_dst (N := 10) rfl ?_); refine Kd.R_lit Kd.string (w0 := w) w.heap.size 9 (by rfl) (N := 10) (by rfl) (xs := [wd]) (inner := [.string wd]) (ok := fun _ => True) (okp := fun _ => True) ?hr ?hp (fun _ hk => hk) trivial (Below.refl _ _) (Nat.le_refl _) (by simp) ?_; (case hr => go_simp <;> rfl); (case hp => exact Reps.one (show Kd.M Kd.string _ _ _ wd [.string wd] from rfl) (Reps.none _ _)); intro v10 w1 ho_ hb_ hg_ hnew_; have HS := zA ho_; replace HP := zA (HP.out.below hb_); replace HT := zA (HT.out.below hb_); replace HB := zA (below_step HB.out hb_); clear ho_ hb_ hg_ hnew_)
 go_loopg [6, 13] ps.length (fun kq v6 v13 w' => ∃ (i : Nat) (e1 : Int) (xs : List ByteArray), v13 = .int .i64 (i : Int) ∧ Aside0 (kq + i = ps.length) ∧ Aside0 (xs = wd :: (ps.take i).map Part.str) ∧ Aside0 (e1 = errsOf e0 (ps.take i)) ∧ Aside0 (Kd.R Kd.string 9 w' w.heap.size (fun _ => True) v6 xs) ∧
  Aside0 (PrAt w0.heap.size gp buf e1 w') ∧ Aside0 (Below w0.heap.size w0 w') ∧ Aside0 (KeptT gp w w'))
 case atStart => exact ⟨0, e0, [wd], by first | rfl | simp, ⟨by omega⟩, ⟨by simp⟩, ⟨by simp [errsOf]⟩, HS, HP, HB, HT⟩
 case round =>
  clear HS HP HB HT
  obtain ⟨i, e1, xs, rfl, HK, HXs, HE, HS, HP, HB, HT⟩ := hrel
  have hxl : xs.length ≤ 200000 := by rw [HXs.out]; simp; omega
  cases gk with
  | zero =>
   have d1b := zG (show ¬ ((i : Int) < (ps.length : Int)) by have := HK.out; omega)
   have d1c := zG (show ¬ (i < ps.length) by have := HK.out; omega)
   have hip : i = ps.length := by have := HK.out; omega
   obtain ⟨g, cg, eg, -, -, -⟩ := Kd.R_form HS.out (by rw [HXs.out]; simp)
   subst eg
   obtain ⟨tx, htx⟩ : ∃ tx, tx = (⟨(Lib.join (xs.map (·.data.toList)) [32]).toArray⟩ : ByteArray) := ⟨_, rfl⟩
   have hlb : lineBytes wd ps = (tx ++ (⟨#[10]⟩ : ByteArray)).data.toList := by
    rw [ByteArray.data_append, Array.toList_append, htx]
    unfold lineBytes
    rw [HXs.out, hip, List.take_length]
    first | done | rfl
   have hts : tx.size + 1 ≤ 1000000000 := by
    have := HLen.out
    rw [hlb, ByteArray.data_append, Array.toList_append, List.length_append] at this
    have e2 : (⟨#[10]⟩ : ByteArray).data.toList.length = 1 := rfl
    have e3 : tx.data.toList.length = tx.size := by simp
    omega
   have htj : (Lib.join (xs.map (·.data.toList)) [32]).length ≤ 140737488355328 := by
    have e3 : tx.data.toList.length = tx.size := by simp
    have e4 : tx.data.toList = Lib.join (xs.map (·.data.toList)) [32] := by rw [htx]
    rw [← e4]; omega
   have HLB := zA hlb
   have HTX := zA htx
   have HJ := zA htj
   have HBl2 := HBl.out
   clear hlb htx htj
   have hsz1 : (9223372036854775807 < tx.size + 1) = False := eq_false (by omega)
   go_wp2_with fail
   have HPd := zA (HP.out.below (below_drew (Below.refl _ _)))
   have HBd := zA (below_step HB.out (below_drew (Below.refl _ _)))
   have HTd := zA (HT.out.below (below_drew (Below.refl _ _)))
   have HSd := zA (Kd.R_drew HS.out)
   clear HP HB HT HS
   go_region_with (first
    | (go_at_call 29; refine (joinR_calls HSd.out (by omega) HJ.out).mono ?_; rw [← HTX.out]; rintro e w5 ⟨rfl, hb⟩; have HP5 := zA (HPd.out.below hb); have HB5 := zA (below_step HBd.out hb); have HT5 := zA (HTd.out.below hb); clear hb)
    | (go_at_call 28; refine (writeString_calls HP5.out HB5.out (tx ++ (⟨#[10]⟩ : ByteArray)) ?hz).mono ?_; (case hz => rw [ByteArray.size_append]; show _ + (_ + 1) ≤ _; omega); rw [← HLB.out]; rintro e w6 ⟨rfl, hp, hb, ht⟩; have HP6 := zA hp; have HB6 := zA hb; have HT6 := zA (HT5.out.trans ht); clear hp hb ht))
   all_goals go_end0
   all_goals exact ⟨rfl, by rw [HE.out, hip, List.take_length] at HP6; exact HP6.out, HB6.out, HT6.out⟩
  | succ k1 =>
   have hi : i < ps.length := by have := HK.out; omega
   have d1b := zF (show ((i : Int) < (ps.length : Int)) by omega)
   have d1c := zF hi
   obtain ⟨p, hp⟩ : ∃ p, ps[i]? = some p := ⟨_, List.getElem?_eq_getElem hi⟩
   obtain ⟨bp, cs, rfl, hk, hcs⟩ : ∃ (bp : Nat) (cs : Array Value), A = some ⟨bp, 0, none⟩ ∧ wr.heap[bp]? = some (.cells cs 53 (0, 0)) ∧ ∀ (j : Nat) p, ps[j]? = some p → ∃ v, cs[j]? = some v ∧ PartAt gp wr v p := by
    rcases HQ.out.kept HPw.out HT.out with h | h
    ·rw [h] at hi; simp at hi
    ·exact h
   obtain ⟨v, hv, hpa⟩ := hcs i p hp
   have hx1 : wr.cell? ⟨bp, i, none⟩ = some v := (blk_cell hk i).trans hv
   have hpok := HOk.out p (List.mem_of_getElem? hp)
   have hnx : Aside0 (wd :: (ps.take (i + 1)).map Part.str = xs ++ [p.str]) := ⟨by rw [HXs.out, List.take_add_one, hp]; simp⟩
   have hne : Aside0 (errsOf e0 (ps.take (i + 1)) = keepE e1 p.err) := ⟨by rw [HE.out, List.take_add_one, hp]; simp [errsOf]⟩
   clear hcs hv hp hk
   cases p with
   | nm s =>
    obtain ⟨b, rfl, h1⟩ := hpa
    have HB1 := zA h1
    clear h1 hpok
    go_wp2_with (first
     | (go_at_call 32; refine (name1_calls s b HB1.out).mono ?_; rintro e w' ⟨rfl, rfl⟩)
     | ((with_reducible refine gate_builtin (b := .append) (xs := #[.tmp 17, .tmp 20]) rfl ?_); at_builtin; (refine Kd.R_append Kd.string (w0 := wr) w.heap.size rfl (.tmp 17) (.tmp 20) 70 9 (.string ⟨#[]⟩) 16 rfl Tryz.underlying70 info9 rfl (by decide) (by omega) u6 xs s [.string s] (fun _ => True) (fun _ => False) rfl rfl ?aP (fun _ hk => hk.elim) ?aF ?aO ?aB ?aS ?aL ?_; (case aP => exact rfl); (case aF => exact fun _ _ => trivial); (case aO => exact HS.out); (case aB => exact Below.refl _ _); (case aS => exact HT.out.1); (case aL => omega); intro v1 w3 ho3 hb3 hg3 _; have HP3 := zA (HP.out.grown HS.out hg3 (by decide) (by decide)); have HS3 := zA ho3; have HT3 := zA (HT.out.later hb3); have HB3 := zA (HB.out.trans (hb3.mono (below_size HBw.out))); clear ho3 hb3 hg3)))
    go_roundg k1
    case measure => have := HK.out; omega
    case rel => exact ⟨i + 1, _, _, by go_num, ⟨by have := HK.out; omega⟩, ⟨hnx.out.symm⟩, ⟨by rw [hne.out]; exact (keep_zero e1).symm⟩, HS3, HP3, HB3, HT3⟩
   | num n =>
    obtain ⟨b1, b2, rfl, h1, h2⟩ := hpa
    have HB1 := zA h1
    have HB2 := zA h2
    have HN := zA (show -9223372036854775808 ≤ n ∧ n ≤ 9223372036854775807 from hpok)
    have hnx : Aside0 (wd :: (ps.take (i + 1)).map Part.str = xs ++ [(⟨(Lib.itoa n).toArray⟩ : ByteArray)]) := hnx
    obtain ⟨u, hu⟩ : ∃ u, u = (⟨(Lib.itoa n).toArray⟩ : ByteArray) := ⟨_, rfl⟩
    rw [← hu] at hnx
    have HU := zA hu
    clear h1 h2 hpok hu
    go_wp2_with (first
     | (go_at_call 33; refine (number1_calls HP.out HB.out HLd.out n HN.out b1 b2 HB1.out HB2.out).mono ?_; rw [← HU.out]; rintro e w2 ⟨rfl, hp2, hb2, ht2⟩; replace HS := zA (R_keptT HS.out HP.out ht2 (by decide)); replace HP := zA hp2; replace HB := zA hb2; replace HT := zA (HT.out.trans ht2); clear hp2 hb2 ht2 hx1)
     | ((with_reducible refine gate_builtin (b := .append) (xs := #[.tmp 17, .tmp 20]) rfl ?_); at_builtin; (refine Kd.R_append Kd.string (w0 := w2) w.heap.size rfl (.tmp 17) (.tmp 20) 70 9 (.string ⟨#[]⟩) 16 rfl Tryz.underlying70 info9 rfl (by decide) (by omega) u6 xs u [.string u] (fun _ => True) (fun _ => False) rfl rfl ?aP (fun _ hk => hk.elim) ?aF ?aO ?aB ?aS ?aL ?_; (case aP => exact rfl); (case aF => exact fun _ _ => trivial); (case aO => exact HS.out); (case aB => exact Below.refl _ _); (case aS => exact HT.out.1); (case aL => omega); intro v1 w3 ho3 hb3 hg3 _; have HP3 := zA (HP.out.grown HS.out hg3 (by decide) (by decide)); have HS3 := zA ho3; have HT3 := zA (HT.out.later hb3); have HB3 := zA (HB.out.trans (hb3.mono (below_size HBw.out))); clear ho3 hb3 hg3)))
    go_roundg k1
    case measure => have := HK.out; omega
    case rel => exact ⟨i + 1, _, _, by go_num, ⟨by have := HK.out; omega⟩, ⟨hnx.out.symm⟩, ⟨hne.out.symm⟩, HS3, HP3, HB3, HT3⟩
end
inductive Clo where
 | num (b1 b2 : Nat)
 | nm (b : Nat)
def encClo : Clo → Value
 | .num b1 b2 => .func (.func 33) #[] #[.pointer (some ⟨b1, 0, none⟩), .pointer (some ⟨b2, 0, none⟩)]
 | .nm b => .func (.func 32) #[] #[.pointer (some ⟨b, 0, none⟩)]
theorem encClo_one : ∀ c : Clo, (encClo c).oneCell' = true
 | .num _ _ => rfl
 | .nm _ => rfl
abbrev kClo : Kd Clo := Kd.scalar encClo encClo_one
theorem infoClo : (Tryz.prog.info? 53).map (fun i => (i.zero, i.size, i.bytes)) = some (some Value.nilFunc, 1, 8) := by kernel_rfl
def fieldParts (x : SIns) (c : UInt8) : List Part :=
 if c = 68 then [.num x.f1] else if c = 65 then [.num x.f2] else if c = 66 then [.num x.f3] else if c = 78 then [.nm x.f4] else if c = 76 then x.f5.map .num else []
def partsOf (x : SIns) (fs : List UInt8) : List Part := fs.flatMap (fieldParts x)
def nameErr (nb : Bool) (e : Int) (fs : List UInt8) : Int := fs.foldl (fun e c => if c = 78 then (if nb then e else keepE e 80) else e) e
structure ClosAt (gp : Nat) (w : World) (cl : List Clo) (ps : List Part) : Prop where
 len : cl.length = ps.length
 at_ : ∀ (j : Nat) (c : Clo) (p : Part), cl[j]? = some c → ps[j]? = some p → PartAt gp w (encClo c) p
theorem ClosAt.snoc {gp : Nat} {w : World} {cl : List Clo} {ps : List Part} {c : Clo} {p : Part} (h : ClosAt gp w cl ps) (hp : PartAt gp w (encClo c) p) : ClosAt gp w (cl ++ [c]) (ps ++ [p]) := by
 refine ⟨by simp [h.len], fun j c' p' h1 h2 => ?_⟩
 rcases Nat.lt_or_ge j cl.length with hj | hj
 ·rw [List.getElem?_append_left hj] at h1
  rw [List.getElem?_append_left (by rw [← h.len]; exact hj)] at h2
  exact h.at_ j c' p' h1 h2
 ·rw [List.getElem?_append_right hj] at h1
  rw [List.getElem?_append_right (by rw [← h.len]; exact hj), ← h.len] at h2
  rcases hq : j - cl.length with _ | q
  ·rw [hq] at h1 h2
   simp only [List.getElem?_cons_zero, Option.some.injEq] at h1 h2
   subst h1; subst h2; exact hp
  ·rw [hq] at h1; simp at h1
theorem ClosAt.kept {gp : Nat} {w w' : World} {cl : List Clo} {ps : List Part} {base : Nat} {buf : List UInt8} {e : Int} (hp : PrAt base gp buf e w) (ht : KeptT gp w w') (h : ClosAt gp w cl ps) : ClosAt gp w' cl ps :=
 ⟨h.len, fun j c p h1 h2 => (h.at_ j c p h1 h2).kept hp ht⟩
theorem ClosAt.below {gp : Nat} {w w' : World} {cl : List Clo} {ps : List Part} (hb : Below w.heap.size w w') (h : ClosAt gp w cl ps) : ClosAt gp w' cl ps :=
 ⟨h.len, fun j c p h1 h2 => (h.at_ j c p h1 h2).below hb⟩
def CellsKept (w w' : World) : Prop := ∀ (k : Nat) (cs : Array Value) (t : TypeId), w.heap[k]? = some (.cells cs t (0, 0)) → w'.heap[k]? = some (.cells cs t (0, 0))
theorem PartAt.cells {gp : Nat} {w w' : World} (hc : CellsKept w w') {v : Value} {p : Part} (h : PartAt gp w v p) : PartAt gp w' v p := by
 cases p with
 | num n => obtain ⟨b1, b2, rfl, h1, h2⟩ := h; exact ⟨b1, b2, rfl, hc _ _ _ h1, hc _ _ _ h2⟩
 | nm s => obtain ⟨b, rfl, h1⟩ := h; exact ⟨b, rfl, hc _ _ _ h1⟩
theorem ClosAt.cells {gp : Nat} {w w' : World} {cl : List Clo} {ps : List Part} (hc : CellsKept w w') (h : ClosAt gp w cl ps) : ClosAt gp w' cl ps := ⟨h.len, fun j c p h1 h2 => (h.at_ j c p h1 h2).cells hc⟩
theorem R_cells {α : Type} {d : Kd α} {e base : Nat} {ok : Nat → Prop} {v : Value} {xs : List α} {w w' : World} (hc : CellsKept w w') (h : d.R e w base ok v xs) : d.R e w' base ok v xs := by
 refine Kd.R_mono (Kd.R_step (Kd.R_bound h) (fun k hk _ => ?_)) (fun k hk => hk.1)
 obtain ⟨_, _, _, q, hq, cells, hk2⟩ := hk
 exact (hc k cells q hk2).trans hk2.symm
theorem PrAt.cells {base gp : Nat} {buf : List UInt8} {e : Int} {w w' : World} (hc : CellsKept w w') (h : PrAt base gp buf e w) : PrAt base gp buf e w' := by
 obtain ⟨ge, p, v, hk, hp, ho⟩ := h
 refine ⟨ge, p, v, hc _ _ _ hk, hp, ?_⟩
 refine ⟨ho.1, ?_⟩
 rcases ho.2 with h | ⟨g, cap, cur, hv, hb, hg, r⟩
 ·exact .inl h
 ·exact .inr ⟨g, cap, cur, hv, hb, hc _ _ _ hg, r⟩
theorem iter_kept {w : World} {k0 : Nat} {s : ByteArray} {p q : Nat} (hi : w.heap[k0]? = some (.stringIter s p)) : CellsKept w (w.iterAt k0 s q) := fun k cs t hk => iter_cells hi hk
theorem ClosAt.grownC {gp base : Nat} {ok : Nat → Prop} {v : Value} {xs : List Clo} {w w' : World} {cl : List Clo} {ps : List Part} (h : ClosAt gp w cl ps) (hr : kClo.R 53 w base ok v xs) (hg : w.grownBy w' v.ownBlock) : ClosAt gp w' cl ps := by
 have keep : ∀ (k tt : Nat) (cs : Array Value), w.heap[k]? = some (.cells cs tt (0, 0)) → tt ≠ 53 → w'.heap[k]? = some (.cells cs tt (0, 0)) := fun k tt cs hk ht => (hg.block k (blk_lt hk) (fun e => by
  obtain ⟨c2, h2⟩ := Kd.R_typed hr k e.symm
  have := hk.symm.trans h2
  simp at this
  exact ht this.2)).trans hk
 refine ⟨h.len, fun j c p h1 h2 => ?_⟩
 have hp := h.at_ j c p h1 h2
 cases p with
 | num n => obtain ⟨b1, b2, e, h3, h4⟩ := hp; exact ⟨b1, b2, e, keep _ _ _ h3 (by decide), keep _ _ _ h4 (by decide)⟩
 | nm s => obtain ⟨b, e, h3⟩ := hp; exact ⟨b, e, keep _ _ _ h3 (by decide)⟩
theorem grown_iter {base : Nat} {ok : Nat → Prop} {v : Value} {xs : List Clo} {w w' : World} {k0 p : Nat} {s : ByteArray} (hr : kClo.R 53 w base ok v xs) (hg : w.grownBy w' v.ownBlock) (hi : w.heap[k0]? = some (.stringIter s p)) : w'.heap[k0]? = some (.stringIter s p) :=
 (hg.block k0 (Array.getElem?_eq_some_iff.1 hi).1 (fun e => by
   obtain ⟨c2, h2⟩ := Kd.R_typed hr k0 e.symm
   have := hi.symm.trans h2
   simp at this)).trans hi
theorem grown_box {base t k : Nat} {cs : Array Value} {ok : Nat → Prop} {v : Value} {xs : List Clo} {w w' : World} (hr : kClo.R 53 w base ok v xs) (hg : w.grownBy w' v.ownBlock) (hk : w.heap[k]? = some (.cells cs t (0, 0))) (ht : t ≠ 53) : w'.heap[k]? = some (.cells cs t (0, 0)) :=
 (hg.block k (blk_lt hk) (fun e => by
   obtain ⟨c2, h2⟩ := Kd.R_typed hr k e.symm
   have := hk.symm.trans h2
   simp at this
   exact ht this.2)).trans hk
theorem parts_of {gp : Nat} {w : World} {base c : Nat} {ok : Nat → Prop} {A : Option Addr} {cl : List Clo} {ps : List Part} (hr : kClo.R 53 w base ok (.slice A cl.length c) cl) (hc : ClosAt gp w cl ps) : PartsAt gp w A ps := by
 rcases Nat.eq_zero_or_pos cl.length with h0 | h0
 ·exact .inl (List.length_eq_zero_iff.1 (hc.len ▸ h0))
 ·obtain ⟨g, cg, eg, -, -, cs, hk⟩ := Kd.R_form hr h0
  injection eg with e1 e2 e3
  subst e1
  refine .inr ⟨g, cs, rfl, hk, fun j p hj => ?_⟩
  have hjl : j < cl.length := by rw [hc.len]; exact (List.getElem?_eq_some_iff.1 hj).1
  refine ⟨encClo cl[j], ?_, hc.at_ j cl[j] p (List.getElem?_eq_getElem hjl) hj⟩
  have hrr := (Kd.R_reads' hr).2.2
  obtain ⟨ad, ea, hh⟩ := hrr.2.2 h0
  cases ea
  obtain ⟨c1, hl1, hk1, hx1⟩ := hh j cl[j] (List.getElem?_eq_getElem hjl)
  have hk1' : c1 = [encClo cl[j]] := hk1
  subst hk1'
  have h2 := hx1 0 _ rfl
  have e : (⟨g, 0, none⟩ : Addr).add (j * kClo.sz + 0) = ⟨g, j, none⟩ := by
   show (⟨g, 0, none⟩ : Addr).add (j * 1 + 0) = _
   rw [Nat.mul_one, Nat.add_zero]; exact add_plain g j
  rw [e] at h2
  exact (blk_cell hk j).symm.trans h2
theorem box_kept {gp k t : Nat} {w w' : World} {cs : Array Value} (ht : KeptT gp w w') (hk : w.heap[k]? = some (.cells cs t (0, 0))) (h1 : t ≠ 5) (h2 : k ≠ gp) : w'.heap[k]? = some (.cells cs t (0, 0)) := ht.2 k _ hk (fun cs' fr e => by injection e with _ e2 _; exact h1 e2) h2
theorem it_kept {gp k p : Nat} {w w' : World} {s : ByteArray} (ht : KeptT gp w w') (hk : w.heap[k]? = some (.stringIter s p)) (h2 : k ≠ gp) : w'.heap[k]? = some (.stringIter s p) := ht.2 k _ hk (fun cs' fr e => by cases e) h2
structure InsSt (gp gx gf k0 : Nat) (cx cf : Array Value) (fs : ByteArray) (buf : List UInt8) (w0 w : World) (i : Nat) (v8 : Value) (cl : List Clo) (ps : List Part) (e1 : Int) (w' : World) : Prop where
 hp0 : gp < w.heap.size
 hx : w.heap.size ≤ gx
 hf : w.heap.size ≤ gf
 hi : w.heap.size ≤ k0
 h0 : w0.heap.size ≤ w.heap.size
 it : w'.heap[k0]? = some (.stringIter fs i)
 row : kClo.R 53 w' w.heap.size (fun _ => True) v8 cl
 cs : ClosAt gp w' cl ps
 pr : PrAt w0.heap.size gp buf e1 w'
 bl : Below w0.heap.size w0 w'
 kt : KeptT gp w w'
 bx : w'.heap[gx]? = some (.cells cx 44 (0, 0))
 bf : w'.heap[gf]? = some (.cells cf 102 (0, 0))
section
variable {gp gx gf k0 : Nat} {cx cf : Array Value} {fs : ByteArray} {buf : List UInt8} {w0 w w1 w2 : World} {i : Nat} {v8 : Value} {cl : List Clo} {ps : List Part} {e1 : Int}
theorem InsSt.next (s : InsSt gp gx gf k0 cx cf fs buf w0 w i v8 cl ps e1 w1) (j : Nat) : InsSt gp gx gf k0 cx cf fs buf w0 w j v8 cl ps e1 (w1.iterAt k0 fs j) where
 hp0 := s.hp0
 hx := s.hx
 hf := s.hf
 hi := s.hi
 h0 := s.h0
 it := Lib.iterAt_heap w1 k0 fs i j s.it
 row := R_cells (iter_kept s.it) s.row
 cs := s.cs.cells (iter_kept s.it)
 pr := s.pr.cells (iter_kept s.it)
 bl := Lib.below_iterAt s.bl (Nat.le_trans s.h0 s.hi) fs j
 kt := ⟨by rw [Lib.iterAt_size]; exact s.kt.1, fun k o hk ht hg => (Lib.iterAt_other w1 k0 k fs j (by have h1 := blk_lt hk; have h2 := s.hi; omega)).trans (s.kt.2 k o hk ht hg)⟩
 bx := iter_cells s.it s.bx
 bf := iter_cells s.it s.bf
theorem InsSt.kept {e2 : Int} (s : InsSt gp gx gf k0 cx cf fs buf w0 w i v8 cl ps e1 w1) (ht : KeptT gp w1 w2) (hp : PrAt w0.heap.size gp buf e2 w2) (hb : Below w0.heap.size w0 w2) : InsSt gp gx gf k0 cx cf fs buf w0 w i v8 cl ps e2 w2 where
 hp0 := s.hp0
 hx := s.hx
 hf := s.hf
 hi := s.hi
 h0 := s.h0
 it := it_kept ht s.it (by have := s.hp0; have := s.hi; omega)
 row := R_keptT s.row s.pr ht (by decide)
 cs := s.cs.kept s.pr ht
 pr := hp
 bl := hb
 kt := s.kt.trans ht
 bx := box_kept ht s.bx (by decide) (by have := s.hp0; have := s.hx; omega)
 bf := box_kept ht s.bf (by decide) (by have := s.hp0; have := s.hf; omega)
theorem InsSt.later (s : InsSt gp gx gf k0 cx cf fs buf w0 w i v8 cl ps e1 w1) (hb : Below w1.heap.size w1 w2) : InsSt gp gx gf k0 cx cf fs buf w0 w i v8 cl ps e1 w2 := s.kept ((KeptT.refl gp w1).below hb) (s.pr.below hb) (below_step s.bl hb)
theorem InsSt.app {v1 : Value} {c : Clo} {p : Part} (s : InsSt gp gx gf k0 cx cf fs buf w0 w i v8 cl ps e1 w1) (hp : PartAt gp w1 (encClo c) p) (ho : kClo.R 53 w2 w.heap.size (fun _ => True) v1 (cl ++ [c])) (hb : Below w.heap.size w1 w2) (hg : w1.grownBy w2 v8.ownBlock) : InsSt gp gx gf k0 cx cf fs buf w0 w i v1 (cl ++ [c]) (ps ++ [p]) e1 w2 where
 hp0 := s.hp0
 hx := s.hx
 hf := s.hf
 hi := s.hi
 h0 := s.h0
 it := grown_iter s.row hg s.it
 row := ho
 cs := (s.cs.snoc hp).grownC s.row hg
 pr := s.pr.grown s.row hg (by decide) (by decide)
 bl := s.bl.trans (hb.mono s.h0)
 kt := s.kt.later hb
 bx := grown_box s.row hg s.bx (by decide)
 bf := grown_box s.row hg s.bf (by decide)
end
theorem partsOf_snoc (x : SIns) (l : List UInt8) (c : UInt8) : partsOf x (l ++ [c]) = partsOf x l ++ fieldParts x c := by simp [partsOf]
theorem partsOf_len (x : SIns) : ∀ l : List UInt8, (partsOf x l).length ≤ l.length * (x.f5.length + 1)
 | [] => by simp [partsOf]
 | c :: l => by
  have h := partsOf_len x l
  have h2 : (fieldParts x c).length ≤ x.f5.length + 1 := by unfold fieldParts; (repeat' split) <;> simp
  have e : partsOf x (c :: l) = fieldParts x c ++ partsOf x l := by simp [partsOf]
  rw [e, List.length_append, List.length_cons, Nat.add_mul]; omega
theorem nameErr_snoc (nb : Bool) (e : Int) (l : List UInt8) (c : UInt8) : nameErr nb e (l ++ [c]) = if c = 78 then (if nb then nameErr nb e l else keepE (nameErr nb e l) 80) else nameErr nb e l := by simp [nameErr, List.foldl_append]
set_option maxHeartbeats 8000000 in
set_option maxRecDepth 100000 in
theorem ins_calls {gp : Nat} {buf : List UInt8} {e0 : Int} {w0 w : World} (h : PrAt w0.heap.size gp buf e0 w) (hB : Below w0.heap.size w0 w) (hL : LaidW w0) (x : SIns) (A5 : Option Addr) (c5 : Nat) (h5 : (Kd.int .i64).C w0 A5 x.f5.length x.f5) (code : Bool) (op : Int) (wd fs : ByteArray) (is : Bool) (hof : text_of.f x.f0 code = some (op, wd, fs, is)) (nb : Bool) (hnb : ir_Name.f x.f4 = some nb)
 (hfs : ∀ b ∈ fs.data.toList, b = 68 ∨ b = 65 ∨ b = 66 ∨ b = 78 ∨ b = 76) (hok : ∀ p ∈ partsOf x fs.data.toList, PartOk p) (hpl : fs.size ≤ 10 ∧ x.f5.length ≤ 9000) (hlen : (lineBytes wd (partsOf x fs.data.toList)).length ≤ 1000000000) (hbl : buf.length ≤ 1000000000) :
 Calls Tryz.prog 35 #[.pointer (some ⟨gp, 0, none⟩), .agg #[.int .i64 x.f0, .int .i64 x.f1, .int .i64 x.f2, .int .i64 x.f3, .string x.f4, .slice A5 x.f5.length c5], .bool code] w fun e w' => e = .returned (.tuple #[]) ∧
  (if is then PrAt w0.heap.size gp (buf ++ lineBytes wd (partsOf x fs.data.toList)) (errsOf (nameErr nb e0 fs.data.toList) (partsOf x fs.data.toList)) w' else PrAt w0.heap.size gp buf (keepE e0 80) w') ∧ Below w0.heap.size w0 w' ∧ KeptT gp w w' := by
 obtain ⟨x0, x1, x2, x3, x4, x5⟩ := x
 dsimp only at h5 hof hnb hpl ⊢
 have HPw := zA h
 have HBw := zA hB
 have HW := zA (Below.refl w.heap.size w)
 have HLd := zA hL
 have H5 := zA h5
 have HOf := zA hof
 have HNb := zA hnb
 have HF := zA hfs
 have HOk := zA hok
 have HLen := zA hlen
 have HBl := zA hbl
 clear h hB hL h5 hof hnb hfs hok hlen hbl
 have huI := Tryz.underlying44
 go_enter Tryz.func35, Tryz.ntmps35
 cases is with
 | false =>
  go_wp2_with (first
   | ((with_reducible refine gate_dst (N := 4) rfl ?_); refine box_event (by rfl) (N := 4) (by rfl) (cs := #[.int .i64 x0, .int .i64 x1, .int .i64 x2, .int .i64 x3, .string x4, .slice A5 x5.length c5]) (t := 44) ?hr ?_; (case hr => go_simp <;> rfl); intro gx hg w1 hbox hb; have BX := zA hbox; have HGx := zA (show w.heap.size ≤ gx by rw [hg]; exact HW.out.size); replace HW := zA (below_step HW.out hb); clear hb hbox hg; have z1 := bk6 BX.out)
   | (go_at_call 59; refine (text_of.calls x0 code op wd fs false _ HOf.out).mono ?_; rintro e w2 ⟨rfl, hb⟩; replace HW := zA (below_step HW.out hb); replace BX := zA (blk_below BX.out hb); clear hb z1)
   | ((with_reducible refine gate_dst (N := 6) rfl ?_); refine box_event (by rfl) (N := 6) (by rfl) (cs := #[.int .i64 0, .string (⟨#[]⟩ : ByteArray), .string (⟨#[]⟩ : ByteArray)]) (t := 102) ?hr ?_; (case hr => go_simp <;> rfl); intro gf hg w3 hbox hb; have BF := zA hbox; have HGf := zA (show w.heap.size ≤ gf by rw [hg]; exact HW.out.size); replace HW := zA (below_step HW.out hb); replace BX := zA (blk_below BX.out hb); have HGn := zA (show gx ≠ gf by have := (Array.getElem?_eq_some_iff.1 BX.out).1; intro e; rw [e] at BX; have := BX.out.symm.trans hbox; simp at this); clear hb hbox hg; have z3 := bk3 BF.out)
   | (go_at_call 31; (have HW4 := zA (((HW.out.setCell (p := ⟨gf, 0, none⟩) HGf.out (.int .i64 op)).setCell (p := ⟨gf, 1, none⟩) HGf.out (.string wd)).setCell (p := ⟨gf, 2, none⟩) HGf.out (.string fs)); refine (wrong_calls (HPw.out.below HW4.out) (below_step HBw.out HW4.out) 80).mono ?_; rintro e w5 ⟨rfl, hp, hb, ht⟩; have HP5 := zA hp; have HB5 := zA hb; have HT5 := zA (((KeptT.refl gp w).below HW4.out).trans ht); clear hp hb ht)))
  (try simp only [Exit.inBlock, Exit.then]); refine bodyPost_ret (results_none rfl _ _ _) rfl ?_
  exact ⟨rfl, HP5.out, HB5.out, HT5.out⟩
 | true =>
  go_wp2_with (first
   | ((with_reducible refine gate_dst (N := 4) rfl ?_); refine box_event (by rfl) (N := 4) (by rfl) (cs := #[.int .i64 x0, .int .i64 x1, .int .i64 x2, .int .i64 x3, .string x4, .slice A5 x5.length c5]) (t := 44) ?hr ?_; (case hr => go_simp <;> rfl); intro gx hg w1 hbox hb; have BX := zA hbox; have HGx := zA (show w.heap.size ≤ gx by rw [hg]; exact HW.out.size); replace HW := zA (below_step HW.out hb); clear hb hbox hg; have z1 := bk6 BX.out)
   | (go_at_call 59; refine (text_of.calls x0 code op wd fs true _ HOf.out).mono ?_; rintro e w2 ⟨rfl, hb⟩; replace HW := zA (below_step HW.out hb); replace BX := zA (blk_below BX.out hb); clear hb z1)
   | ((with_reducible refine gate_dst (N := 6) rfl ?_); refine box_event (by rfl) (N := 6) (by rfl) (cs := #[.int .i64 0, .string (⟨#[]⟩ : ByteArray), .string (⟨#[]⟩ : ByteArray)]) (t := 102) ?hr ?_; (case hr => go_simp <;> rfl); intro gf hg w3 hbox hb; have BF := zA hbox; have HGf := zA (show w.heap.size ≤ gf by rw [hg]; exact HW.out.size); replace HW := zA (below_step HW.out hb); replace BX := zA (blk_below BX.out hb); have HGn := zA (show gx ≠ gf by have := (Array.getElem?_eq_some_iff.1 BX.out).1; intro e; rw [e] at BX; have := BX.out.symm.trans hbox; simp at this); clear hb hbox hg; have z3 := bk3 BF.out)
   | fail)
  have hW4 := ((HW.out.setCell (p := ⟨gf, 0, none⟩) HGf.out (.int .i64 op)).setCell (p := ⟨gf, 1, none⟩) HGf.out (.string wd)).setCell (p := ⟨gf, 2, none⟩) HGf.out (.string fs)
  have hWI : Below w.heap.size w (World.iter (((w3.setCell ⟨gf, 0, none⟩ (.int .i64 op)).setCell ⟨gf, 1, none⟩ (.string wd)).setCell ⟨gf, 2, none⟩ (.string fs)) fs 0) := below_alloc hW4 _
  have hIT : (World.iter (((w3.setCell ⟨gf, 0, none⟩ (.int .i64 op)).setCell ⟨gf, 1, none⟩ (.string wd)).setCell ⟨gf, 2, none⟩ (.string fs)) fs 0).heap[w3.heap.size]? = some (.stringIter fs 0) := by
   have h := World.iter_heap (((w3.setCell ⟨gf, 0, none⟩ (.int .i64 op)).setCell ⟨gf, 1, none⟩ (.string wd)).setCell ⟨gf, 2, none⟩ (.string fs)) fs 0
   rw [show (((w3.setCell ⟨gf, 0, none⟩ (.int .i64 op)).setCell ⟨gf, 1, none⟩ (.string wd)).setCell ⟨gf, 2, none⟩ (.string fs)).heap.size = w3.heap.size by simp [World.setCell]] at h
   exact h
  have hBF : (World.iter (((w3.setCell ⟨gf, 0, none⟩ (.int .i64 op)).setCell ⟨gf, 1, none⟩ (.string wd)).setCell ⟨gf, 2, none⟩ (.string fs)) fs 0).heap[gf]? = some (.cells #[.int .i64 op, .string wd, .string fs] 102 (0, 0)) := blk_alloc (blk_put (blk_put (blk_put BF.out 0 _ rfl) 1 _ rfl) 2 _ rfl) _
  have hBX : (World.iter (((w3.setCell ⟨gf, 0, none⟩ (.int .i64 op)).setCell ⟨gf, 1, none⟩ (.string wd)).setCell ⟨gf, 2, none⟩ (.string fs)) fs 0).heap[gx]? = some (.cells #[.int .i64 x0, .int .i64 x1, .int .i64 x2, .int .i64 x3, .string x4, .slice A5 x5.length c5] 44 (0, 0)) := blk_alloc ((heap_setCell_other _ _ _ _ HGn.out).trans ((heap_setCell_other _ _ _ _ HGn.out).trans ((heap_setCell_other _ _ _ _ HGn.out).trans BX.out))) _
  generalize World.iter (((w3.setCell ⟨gf, 0, none⟩ (.int .i64 op)).setCell ⟨gf, 1, none⟩ (.string wd)).setCell ⟨gf, 2, none⟩ (.string fs)) fs 0 = wI at hWI hIT hBF hBX ⊢
  have HS : Aside0 (InsSt gp gx gf w3.heap.size #[.int .i64 x0, .int .i64 x1, .int .i64 x2, .int .i64 x3, .string x4, .slice A5 x5.length c5] #[.int .i64 op, .string wd, .string fs] fs buf w0 w 0 (.slice none 0 0) [] [] e0 wI) := ⟨⟨by obtain ⟨_, p, v, hk, _⟩ := HPw.out; exact blk_lt hk, HGx.out, HGf.out, HW.out.size, HBw.out.size, hIT, Kd.R_nil _ _ _ _ _, ⟨rfl, fun j c p h1 => by simp at h1⟩, HPw.out.below hWI, below_step HBw.out hWI, (KeptT.refl gp w).below hWI, hBX, hBF⟩⟩
  clear hWI hIT hBF hBX hW4
  go_loopg [8] fs.size (fun kq v8 w' => ∃ (i : Nat) (cl : List Clo), Aside0 (kq + i = fs.size) ∧ Aside0 (InsSt gp gx gf w3.heap.size #[.int .i64 x0, .int .i64 x1, .int .i64 x2, .int .i64 x3, .string x4, .slice A5 x5.length c5] #[.int .i64 op, .string wd, .string fs] fs buf w0 w i v8 cl (partsOf (⟨x0, x1, x2, x3, x4, x5⟩ : SIns) (fs.data.toList.take i)) (nameErr nb e0 (fs.data.toList.take i)) w'))
  case atStart => exact ⟨0, [], ⟨by omega⟩, HS⟩
  case round =>
  clear HS
  obtain ⟨i, cl, HK, HS⟩ := hrel
  have hcl : cl.length ≤ 100000 := by
   have h1 := partsOf_len (⟨x0, x1, x2, x3, x4, x5⟩ : SIns) (fs.data.toList.take i)
   have h2 : (fs.data.toList.take i).length ≤ 10 := by have h9 : fs.data.toList.length = fs.size := (by simp); rw [List.length_take]; omega
   have h3 : (fs.data.toList.take i).length * (x5.length + 1) ≤ 10 * 9001 := Nat.mul_le_mul h2 (by omega)
   rw [HS.out.cs.len]; exact Nat.le_trans h1 (by show _ * (x5.length + 1) ≤ _; omega)
  cases gk with
  | zero =>
   have hif : i = fs.size := by have := HK.out; omega
   have hnx : ∀ ty, (Instr.next (.pointer (some ⟨w3.heap.size, 0, none⟩)) true ty).run Tryz.prog wr = .ok (.tuple #[.bool false]) wr := fun ty => Lib.run_next_end_at wr _ fs i ty HS.out.it (by omega)
   have z3 := bk3 HS.out.bf
   obtain ⟨A, c, rfl⟩ := Kd.R_slice HS.out.row
   have HQ := zA (parts_of HS.out.row HS.out.cs)
   have htk : fs.data.toList.take i = fs.data.toList := List.take_of_length_le (by have : fs.data.toList.length = fs.size := (by simp); omega)
   rw [htk] at HQ HS
   have HLn := zA HS.out.cs.len
   rw [HLn.out]
   go_wp2_with (go_at_call 16; refine (line_calls HS.out.pr HS.out.bl HLd.out wd _ A c HQ.out HOk.out (by rw [← HLn.out]; omega) HLen.out HBl.out).mono ?_; rintro e w5 ⟨rfl, hp, hb, ht⟩; have HP5 := zA hp; have HB5 := zA hb; have HT5 := zA (HS.out.kt.trans ht); clear hp hb ht)
   go_end0
   exact ⟨rfl, HP5.out, HB5.out, HT5.out⟩
  | succ k1 =>
   have hi : i < fs.size := by have := HK.out; omega
   obtain ⟨c, hc⟩ : ∃ c, c = fs[i]'hi := ⟨_, rfl⟩
   have hgl : fs.data.toList[i]? = some c := by rw [hc]; simp [ByteArray.getElem_eq_getElem_data]
   have htk : fs.data.toList.take (i + 1) = fs.data.toList.take i ++ [c] := by rw [List.take_add_one, hgl]; rfl
   have hm : c ∈ fs.data.toList := List.mem_of_getElem? hgl
   obtain ⟨wi, hwi⟩ : ∃ wi, wi = wr.iterAt w3.heap.size fs (i + 1) := ⟨_, rfl⟩
   have HS1 := zA (HS.out.next (i + 1))
   rw [← hwi] at HS1
   have hgen : ∀ n : Nat, c.toNat = n → n < 128 → ∀ ty, (Instr.next (.pointer (some ⟨w3.heap.size, 0, none⟩)) true ty).run Tryz.prog wr = .ok (.tuple #[.bool true, .int .i64 i, .int .i32 (n : Int)]) wi := fun n hn h8 ty => by
    rw [Lib.run_next_ascii_at wr _ fs i ty HS.out.it hi (by rw [← hc, hn]; exact h8), ← hc, hn, hwi]
   have z6 := bk6 HS1.out.bx
   have hcc := HF.out c hm
   clear hc hgl hm hwi
   rcases hcc with rfl | rfl | rfl | rfl | rfl
   ·have hnx := hgen 68 rfl (by decide)
    clear hgen
    go_wp2_with (first
     | (go_at_call 18; refine (number_calls x1).mono ?_; rintro e w5 ⟨v, rfl, hpa, hb⟩; obtain ⟨b1, b2, rfl, h1, h2⟩ := hpa; have HPa := zA (show PartAt gp w5 (encClo (.num b1 b2)) (.num x1) from ⟨b1, b2, rfl, h1, h2⟩); have HS5 := zA (HS1.out.later hb); clear h1 h2 hb)
     | ((with_reducible refine gate_builtin (b := .append) (xs := #[.tmp 33, .tmp 38]) rfl ?_); at_builtin; (refine Kd.R_append kClo (w0 := w5) w.heap.size rfl (.tmp 33) (.tmp 38) 69 53 Value.nilFunc 8 rfl Tryz.underlying69 infoClo rfl (by decide) (by omega) u8 cl (Clo.num b1 b2) [.func (.func 33) #[] #[.pointer (some ⟨b1, 0, none⟩), .pointer (some ⟨b2, 0, none⟩)]] (fun _ => True) (fun _ => False) rfl rfl ?aP (fun _ hk => hk.elim) ?aF ?aO ?aB ?aS ?aL ?_; (case aP => exact rfl); (case aF => exact fun _ _ => trivial); (case aO => exact HS5.out.row); (case aB => exact Below.refl _ _); (case aS => exact HS5.out.kt.1); (case aL => omega); intro v1 w6 ho3 hb3 hg3 _; have HS6 := zA (HS5.out.app HPa.out ho3 hb3 hg3); clear ho3 hb3 hg3)))
    go_roundg k1
    case measure => have := HK.out; omega
    case rel => exact ⟨i + 1, _, ⟨by have := HK.out; omega⟩, ⟨by rw [htk, partsOf_snoc, nameErr_snoc]; exact HS6.out⟩⟩
   ·have hnx := hgen 65 rfl (by decide)
    clear hgen
    go_wp2_with (first
     | (go_at_call 18; refine (number_calls x2).mono ?_; rintro e w5 ⟨v, rfl, hpa, hb⟩; obtain ⟨b1, b2, rfl, h1, h2⟩ := hpa; have HPa := zA (show PartAt gp w5 (encClo (.num b1 b2)) (.num x2) from ⟨b1, b2, rfl, h1, h2⟩); have HS5 := zA (HS1.out.later hb); clear h1 h2 hb)
     | ((with_reducible refine gate_builtin (b := .append) (xs := #[.tmp 42, .tmp 47]) rfl ?_); at_builtin; (refine Kd.R_append kClo (w0 := w5) w.heap.size rfl (.tmp 42) (.tmp 47) 69 53 Value.nilFunc 8 rfl Tryz.underlying69 infoClo rfl (by decide) (by omega) u8 cl (Clo.num b1 b2) [.func (.func 33) #[] #[.pointer (some ⟨b1, 0, none⟩), .pointer (some ⟨b2, 0, none⟩)]] (fun _ => True) (fun _ => False) rfl rfl ?aP (fun _ hk => hk.elim) ?aF ?aO ?aB ?aS ?aL ?_; (case aP => exact rfl); (case aF => exact fun _ _ => trivial); (case aO => exact HS5.out.row); (case aB => exact Below.refl _ _); (case aS => exact HS5.out.kt.1); (case aL => omega); intro v1 w6 ho3 hb3 hg3 _; have HS6 := zA (HS5.out.app HPa.out ho3 hb3 hg3); clear ho3 hb3 hg3)))
    go_roundg k1
    case measure => have := HK.out; omega
    case rel => exact ⟨i + 1, _, ⟨by have := HK.out; omega⟩, ⟨by rw [htk, partsOf_snoc, nameErr_snoc]; exact HS6.out⟩⟩
   ·have hnx := hgen 66 rfl (by decide)
    clear hgen
    go_wp2_with (first
     | (go_at_call 18; refine (number_calls x3).mono ?_; rintro e w5 ⟨v, rfl, hpa, hb⟩; obtain ⟨b1, b2, rfl, h1, h2⟩ := hpa; have HPa := zA (show PartAt gp w5 (encClo (.num b1 b2)) (.num x3) from ⟨b1, b2, rfl, h1, h2⟩); have HS5 := zA (HS1.out.later hb); clear h1 h2 hb)
     | ((with_reducible refine gate_builtin (b := .append) (xs := #[.tmp 51, .tmp 56]) rfl ?_); at_builtin; (refine Kd.R_append kClo (w0 := w5) w.heap.size rfl (.tmp 51) (.tmp 56) 69 53 Value.nilFunc 8 rfl Tryz.underlying69 infoClo rfl (by decide) (by omega) u8 cl (Clo.num b1 b2) [.func (.func 33) #[] #[.pointer (some ⟨b1, 0, none⟩), .pointer (some ⟨b2, 0, none⟩)]] (fun _ => True) (fun _ => False) rfl rfl ?aP (fun _ hk => hk.elim) ?aF ?aO ?aB ?aS ?aL ?_; (case aP => exact rfl); (case aF => exact fun _ _ => trivial); (case aO => exact HS5.out.row); (case aB => exact Below.refl _ _); (case aS => exact HS5.out.kt.1); (case aL => omega); intro v1 w6 ho3 hb3 hg3 _; have HS6 := zA (HS5.out.app HPa.out ho3 hb3 hg3); clear ho3 hb3 hg3)))
    go_roundg k1
    case measure => have := HK.out; omega
    case rel => exact ⟨i + 1, _, ⟨by have := HK.out; omega⟩, ⟨by rw [htk, partsOf_snoc, nameErr_snoc]; exact HS6.out⟩⟩
   ·have hnx := hgen 78 rfl (by decide)
    clear hgen
    go_wp2_with (first
     | (go_at_call 17; refine (name_calls HS1.out.pr HS1.out.bl x4 nb HNb.out).mono ?_; rintro e w5 ⟨v, rfl, hpa, hp, hb, ht⟩; obtain ⟨b1, rfl, h1⟩ := hpa; have HPa := zA (show PartAt gp w5 (encClo (.nm b1)) (.nm x4) from ⟨b1, rfl, h1⟩); have HS5 := zA (HS1.out.kept ht hp hb); clear h1 hp hb ht)
     | ((with_reducible refine gate_builtin (b := .append) (xs := #[.tmp 60, .tmp 65]) rfl ?_); at_builtin; (refine Kd.R_append kClo (w0 := w5) w.heap.size rfl (.tmp 60) (.tmp 65) 69 53 Value.nilFunc 8 rfl Tryz.underlying69 infoClo rfl (by decide) (by omega) u8 cl (Clo.nm b1) [.func (.func 32) #[] #[.pointer (some ⟨b1, 0, none⟩)]] (fun _ => True) (fun _ => False) rfl rfl ?aP (fun _ hk => hk.elim) ?aF ?aO ?aB ?aS ?aL ?_; (case aP => exact rfl); (case aF => exact fun _ _ => trivial); (case aO => exact HS5.out.row); (case aB => exact Below.refl _ _); (case aS => exact HS5.out.kt.1); (case aL => omega); intro v1 w6 ho3 hb3 hg3 _; have HS6 := zA (HS5.out.app HPa.out ho3 hb3 hg3); clear ho3 hb3 hg3)))
    go_roundg k1
    case measure => have := HK.out; omega
    case rel => exact ⟨i + 1, _, ⟨by have := HK.out; omega⟩, ⟨by rw [htk, partsOf_snoc, nameErr_snoc]; exact HS6.out⟩⟩
   ·have hnx := hgen 76 rfl (by decide)
    clear hgen
    go_wp2_with fail
    clear z6
    go_loopg [8, 72] x5.length (fun kq2 v8 v72 w' => ∃ (j : Nat) (cl2 : List Clo), v72 = .int .i64 (j : Int) ∧ Aside0 (kq2 + j = x5.length) ∧ Aside0 (InsSt gp gx gf w3.heap.size #[.int .i64 x0, .int .i64 x1, .int .i64 x2, .int .i64 x3, .string x4, .slice A5 x5.length c5] #[.int .i64 op, .string wd, .string fs] fs buf w0 w (i + 1) v8 cl2 (partsOf (⟨x0, x1, x2, x3, x4, x5⟩ : SIns) (fs.data.toList.take i) ++ (x5.take j).map .num) (nameErr nb e0 (fs.data.toList.take i)) w'))
    case atStart => exact ⟨0, cl, by first | rfl | simp, ⟨by omega⟩, ⟨by simpa using HS1.out⟩⟩
    case round =>
     clear HS1 HS hcl
     obtain ⟨j, cl2, rfl, HJ, HS2⟩ := hrel
     have hcl : cl2.length ≤ 100000 := by
      have h1 := partsOf_len (⟨x0, x1, x2, x3, x4, x5⟩ : SIns) (fs.data.toList.take i)
      have h2 : (fs.data.toList.take i).length ≤ 10 := by rw [List.length_take]; have : fs.data.toList.length = fs.size := (by simp); omega
      have h3 : (fs.data.toList.take i).length * (x5.length + 1) ≤ 10 * 9001 := Nat.mul_le_mul h2 (by omega)
      have h4 := HS2.out.cs.len
      rw [List.length_append, List.length_map, List.length_take] at h4
      have h5 : (partsOf (⟨x0, x1, x2, x3, x4, x5⟩ : SIns) (fs.data.toList.take i)).length ≤ 90010 := Nat.le_trans h1 (by show _ * (x5.length + 1) ≤ _; omega)
      omega
     cases gk with
     | zero =>
      have d1b := zG (show ¬ ((j : Int) < (x5.length : Int)) by have := HJ.out; omega)
      have d1c := zG (show ¬ (j < x5.length) by have := HJ.out; omega)
      have hj : j = x5.length := by have := HJ.out; omega
      go_wp2_with fail
      go_roundg k1
      case measure => have := HK.out; omega
      case rel => exact ⟨i + 1, _, ⟨by have := HK.out; omega⟩, ⟨by rw [htk, partsOf_snoc, nameErr_snoc]; rw [hj, List.take_length] at HS2; exact HS2.out⟩⟩
     | succ k2 =>
      have hj : j < x5.length := by have := HJ.out; omega
      have d1b := zF (show ((j : Int) < (x5.length : Int)) by omega)
      have d1c := zF hj
      obtain ⟨n, hn⟩ : ∃ n, x5[j]? = some n := ⟨_, List.getElem?_eq_getElem hj⟩
      obtain ⟨ad, ea, hh⟩ := (Kd.C_below H5.out HS2.out.bl).2.2 (by omega)
      subst ea
      obtain ⟨c1, hl1, hk1, hx1⟩ := hh j n hn
      have hk1' : c1 = [.int .i64 n] := hk1
      subst hk1'
      have hx0 := hx1 0 _ rfl
      have hxa : (Kd.int IntKind.i64).sz = 1 := rfl
      rw [hxa, Nat.mul_one, Nat.add_zero] at hx0
      clear hh hx1 hl1 hk1
      go_wp2_with (first
       | (go_at_call 18; refine (number_calls n).mono ?_; rintro e w5 ⟨v, rfl, hpa, hb⟩; obtain ⟨b1, b2, rfl, h1, h2⟩ := hpa; have HPa := zA (show PartAt gp w5 (encClo (.num b1 b2)) (.num n) from ⟨b1, b2, rfl, h1, h2⟩); have HS5 := zA (HS2.out.later hb); clear h1 h2 hb)
       | ((with_reducible refine gate_builtin (b := .append) (xs := #[.tmp 76, .tmp 80]) rfl ?_); at_builtin; (refine Kd.R_append kClo (w0 := w5) w.heap.size rfl (.tmp 76) (.tmp 80) 69 53 Value.nilFunc 8 rfl Tryz.underlying69 infoClo rfl (by decide) (by omega) u8 cl2 (Clo.num b1 b2) [.func (.func 33) #[] #[.pointer (some ⟨b1, 0, none⟩), .pointer (some ⟨b2, 0, none⟩)]] (fun _ => True) (fun _ => False) rfl rfl ?aP (fun _ hk => hk.elim) ?aF ?aO ?aB ?aS ?aL ?_; (case aP => exact rfl); (case aF => exact fun _ _ => trivial); (case aO => exact HS5.out.row); (case aB => exact Below.refl _ _); (case aS => exact HS5.out.kt.1); (case aL => omega); intro v1 w6 ho3 hb3 hg3 _; have HS6 := zA (HS5.out.app HPa.out ho3 hb3 hg3); clear ho3 hb3 hg3)))
      go_roundg k2
      case measure => have := HJ.out; omega
      case rel => exact ⟨j + 1, _, by go_num, ⟨by have := HJ.out; omega⟩, ⟨by rw [List.take_add_one, hn]; simp only [Option.toList_some, List.map_append, List.map_cons, List.map_nil, ← List.append_assoc]; exact HS6.out⟩⟩
def insText (code : Bool) (s : List UInt8 × Int) (x : SIns) : List UInt8 × Int := match text_of.f x.f0 code with
 | some (_, wd, fs, true) => (s.1 ++ lineBytes wd (partsOf x fs.data.toList), errsOf (nameErr ((ir_Name.f x.f4).getD false) s.2 fs.data.toList) (partsOf x fs.data.toList))
 | _ => (s.1, keepE s.2 80)
structure InsOk (code : Bool) (x : SIns) : Prop where
 of_ : ∃ op wd fs is, text_of.f x.f0 code = some (op, wd, fs, is) ∧ (∀ b ∈ fs.data.toList, b = 68 ∨ b = 65 ∨ b = 66 ∨ b = 78 ∨ b = 76) ∧ (∀ p ∈ partsOf x fs.data.toList, PartOk p) ∧ fs.size ≤ 10 ∧ (lineBytes wd (partsOf x fs.data.toList)).length ≤ 1000000000
 nm : ∃ nb, ir_Name.f x.f4 = some nb
 len : x.f5.length ≤ 9000
def blkText (code : Bool) (s : List UInt8 × Int) (xs : List SIns) : List UInt8 × Int := xs.foldl (insText code) (s.1 ++ [98, 108, 111, 99, 107, 10], s.2)
def blksText (code : Bool) (s : List UInt8 × Int) (l : List (List SIns)) : List UInt8 × Int := l.foldl (blkText code) s
theorem fold_len {α : Type} {f : List UInt8 × Int → α → List UInt8 × Int} (hf : ∀ s x, s.1.length ≤ (f s x).1.length) : ∀ (l : List α) (s : List UInt8 × Int), s.1.length ≤ (l.foldl f s).1.length
 | [], s => Nat.le_refl _
 | x :: l, s => Nat.le_trans (hf s x) (fold_len hf l (f s x))
theorem fold_take {α : Type} {f : List UInt8 × Int → α → List UInt8 × Int} (hf : ∀ s x, s.1.length ≤ (f s x).1.length) (l : List α) (s : List UInt8 × Int) (n : Nat) : ((l.take n).foldl f s).1.length ≤ (l.foldl f s).1.length := by
 conv => rhs; rw [← List.take_append_drop n l, List.foldl_append]
 exact fold_len hf _ _
theorem insText_len (code : Bool) (s : List UInt8 × Int) (x : SIns) : s.1.length ≤ (insText code s x).1.length := by
 unfold insText
 split
 ·simp
 ·exact Nat.le_refl _
theorem blkText_len (code : Bool) (s : List UInt8 × Int) (xs : List SIns) : s.1.length ≤ (blkText code s xs).1.length := Nat.le_trans (by simp) (fold_len (insText_len code) xs (s.1 ++ [98, 108, 111, 99, 107, 10], s.2))
theorem blkText_take (code : Bool) (s : List UInt8 × Int) (xs : List SIns) (n : Nat) : ((xs.take n).foldl (insText code) (s.1 ++ [98, 108, 111, 99, 107, 10], s.2)).1.length ≤ (blkText code s xs).1.length := fold_take (insText_len code) xs _ n
theorem fold_snoc {α β : Type} (f : β → α → β) (l : List α) (s : β) (n : Nat) (x : α) (h : l[n]? = some x) : (l.take (n + 1)).foldl f s = f ((l.take n).foldl f s) x := by rw [List.take_add_one, h]; simp
theorem rd_TIns_at {xs : List SIns} {j : Nat} {x : SIns} (h : xs[j]? = some x) : rd_TIns xs (j : Int) = x := by unfold rd_TIns; simp [h]
theorem rd_LIns_at {xs : List (List SIns)} {j : Nat} {x : List SIns} (h : xs[j]? = some x) : rd_LIns xs (j : Int) = x := by unfold rd_LIns; simp [h]
section
variable {gp : Nat} {buf : List UInt8} {e0 : Int} {w0 w : World}
theorem ins_text_calls (h : PrAt w0.heap.size gp buf e0 w) (hB : Below w0.heap.size w0 w) (hL : LaidW w0) (x : SIns) (A5 : Option Addr) (c5 : Nat) (h5 : (Kd.int .i64).C w0 A5 x.f5.length x.f5) (code : Bool) (hok : InsOk code x) (hbl : buf.length ≤ 1000000000) :
 Calls Tryz.prog 35 #[.pointer (some ⟨gp, 0, none⟩), .agg #[.int .i64 x.f0, .int .i64 x.f1, .int .i64 x.f2, .int .i64 x.f3, .string x.f4, .slice A5 x.f5.length c5], .bool code] w fun e w' => e = .returned (.tuple #[]) ∧ PrAt w0.heap.size gp (insText code (buf, e0) x).1 (insText code (buf, e0) x).2 w' ∧ Below w0.heap.size w0 w' := by
 obtain ⟨⟨op, wd, fs, is, ho, hf, hp, hfs, hln⟩, ⟨nb, hnb⟩, h5l⟩ := hok
 refine (ins_calls h hB hL x A5 c5 h5 code op wd fs is ho nb hnb hf hp ⟨hfs, h5l⟩ hln hbl).mono ?_
 rintro e w' ⟨rfl, hq, hb, -⟩
 refine ⟨rfl, ?_, hb⟩
 unfold insText
 rw [ho, hnb]
 cases is with
 | true => simpa using hq
 | false => simpa using hq
set_option maxHeartbeats 8000000 in
set_option maxRecDepth 100000 in
theorem blocks_calls (h : PrAt w0.heap.size gp buf e0 w) (hB : Below w0.heap.size w0 w) (hL : LaidW w0) (h0 : buf ≠ []) (A : Option Addr) (c : Nat) (l : List (List SIns)) (hl : Kd.C (Kd.slice 44 kIns) w0 A l.length l) (code : Bool) (hok : ∀ xs ∈ l, ∀ x ∈ xs, InsOk code x) (hs : (blksText code (buf, e0) l).1.length ≤ 1000000000) :
 Calls Tryz.prog 19 #[.pointer (some ⟨gp, 0, none⟩), .slice A l.length c, .bool code] w fun e w' => e = .returned (.tuple #[.string (if (blksText code (buf, e0) l).2 = 0 then ⟨(blksText code (buf, e0) l).1.toArray⟩ else ⟨#[]⟩), .int .i64 (blksText code (buf, e0) l).2]) ∧ Below w0.heap.size w0 w' := by
 have HP := zA h
 have HB := zA hB
 have HLd := zA hL
 have HC := zA hl
 have HOk := zA hok
 have HS := zA hs
 clear h hB hL hl hok hs
 have hu43 := Tryz.underlying44
 go_enter Tryz.func19, Tryz.ntmps19
 go_wp2_with fail
 go_loopg [14] l.length (fun kq v14 w' => ∃ (i : Nat), v14 = .int .i64 (i : Int) ∧ Aside0 (kq + i = l.length) ∧ Aside0 (PrAt w0.heap.size gp (blksText code (buf, e0) (l.take i)).1 (blksText code (buf, e0) (l.take i)).2 w') ∧ Aside0 (Below w0.heap.size w0 w'))
 case atStart => exact ⟨0, by first | rfl | simp, ⟨by omega⟩, HP, HB⟩
 case round =>
 clear HP HB
 obtain ⟨i, rfl, HK, HP, HB⟩ := hrel
 cases gk with
 | zero =>
  have d1b := zG (show ¬ ((i : Int) < (l.length : Int)) by have := HK.out; omega)
  have d1c := zG (show ¬ (i < l.length) by have := HK.out; omega)
  have hil : i = l.length := by have := HK.out; omega
  rw [hil, List.take_length] at HP
  have hne : (blksText code (buf, e0) l).1 ≠ [] := fun e => by
   have h := fold_len (blkText_len code) l (buf, e0)
   have h2 : (l.foldl (blkText code) (buf, e0)).1 = [] := e
   rw [h2] at h
   exact h0 (List.length_eq_zero_iff.1 (Nat.le_zero.1 h))
  obtain ⟨s, hse⟩ : ∃ s, s = blksText code (buf, e0) l := ⟨_, rfl⟩
  rw [← hse] at HP hne
  have HSe := zA hse
  clear hse
  obtain ⟨ge, p, v, hk, -⟩ := HP.out
  have z3 := bk3 hk
  have HNe := zA hne
  clear hk ge hne
  by_cases he : s.2 = 0
  ·have hd := zF he
   have HE := zA he
   rw [he] at HP z3
   go_wp2_with (go_at_call 36; refine (string_calls HP.out HB.out HNe.out).mono ?_; rintro e w5 ⟨rfl, hb⟩; have HB5 := zA hb; clear hb)
   have hz : (blksText code (buf, e0) l).2 = 0 := by rw [← HSe.out]; exact HE.out
   all_goals first
    | exact absurd (show (blksText code (buf, e0) l).2 = 0 by rw [← HSe.out]; exact HE.out) ‹_›
    | (go_ret2; refine ⟨?_, HB5.out⟩; first | rfl | (rw [← HSe.out]; rfl))
  ·have hd := zG he
   have HE := zA he
   go_wp2_with fail
   all_goals first
    | exact absurd ‹(blksText code (buf, e0) l).2 = 0› (show ¬ (blksText code (buf, e0) l).2 = 0 by rw [← HSe.out]; exact HE.out)
    | skip
   have HBd := zA (below_step HB.out (below_drew (Below.refl _ _)))
   go_region_with fail
   (try simp only [Act.put, List.setIfInBounds_toArray, List.set_cons_zero, List.set_cons_succ])
   go_wp2_with fail
   all_goals first
    | exact absurd ‹(blksText code (buf, e0) l).2 = 0› (show ¬ (blksText code (buf, e0) l).2 = 0 by rw [← HSe.out]; exact HE.out)
    | (go_ret2; refine ⟨?_, HBd.out⟩; rw [← HSe.out]; rfl)
 | succ k1 =>
  have hi : i < l.length := by have := HK.out; omega
  have d1b := zF (show ((i : Int) < (l.length : Int)) by omega)
  have d1c := zF hi
  obtain ⟨xs, hxs⟩ : ∃ xs, l[i]? = some xs := ⟨_, List.getElem?_eq_getElem hi⟩
  obtain ⟨ad, A1, c1, ea, hx1, hl1, hi1⟩ := at_LIns HC.out (i : Int) (by omega) (by omega)
  cases ea
  rw [rd_LIns_at hxs] at hx1 hl1 hi1
  replace hx1 := (HB.out.cell (zE w0 _ hx1)).trans hx1
  rw [Int.toNat_natCast] at hx1
  have HC1 := zA hi1
  have hxm := Kd.C_max hi1
  have hlm := Kd.C_max HC.out
  have hsz : (blksText code (buf, e0) (l.take i)).1.length ≤ 1000000000 := Nat.le_trans (fold_take (blkText_len code) l _ i) HS.out
  have hss : (blkText code (blksText code (buf, e0) (l.take i)) xs).1.length ≤ 1000000000 := by
   have h := fold_take (blkText_len code) l (buf, e0) (i + 1)
   rw [fold_snoc _ _ _ _ _ hxs] at h
   exact Nat.le_trans h HS.out
  have hsn : blksText code (buf, e0) (l.take (i + 1)) = blkText code (blksText code (buf, e0) (l.take i)) xs := fold_snoc _ _ _ _ _ hxs
  have hox : ∀ x ∈ xs, InsOk code x := HOk.out xs (List.mem_of_getElem? hxs)
  have HSn := zA hsn
  have HSz := zA hsz
  have HSs := zA hss
  clear hi1 hl1 hsn hsz hss
  obtain ⟨s, hse⟩ : ∃ s, s = blksText code (buf, e0) (l.take i) := ⟨_, rfl⟩
  rw [← hse] at HP HSz HSs HSn
  clear hse
  go_wp2_with (go_at_call 16; refine (line_calls HP.out HB.out HLd.out (⟨#[98, 108, 111, 99, 107]⟩ : ByteArray) [] none 0 (.inl rfl) (by simp) (by simp) (by decide) HSz.out).mono ?_; rintro e w5 ⟨rfl, hp, hb, ht⟩; have HP5 := zA hp; have HB5 := zA hb; clear hp hb ht)
  go_loopg [22] xs.length (fun kq2 v22 w' => ∃ (j : Nat), v22 = .int .i64 (j : Int) ∧ Aside0 (kq2 + j = xs.length) ∧ Aside0 (PrAt w0.heap.size gp ((xs.take j).foldl (insText code) (s.1 ++ [98, 108, 111, 99, 107, 10], s.2)).1 ((xs.take j).foldl (insText code) (s.1 ++ [98, 108, 111, 99, 107, 10], s.2)).2 w') ∧ Aside0 (Below w0.heap.size w0 w'))
  case atStart => exact ⟨0, by first | rfl | simp, ⟨by omega⟩, HP5, HB5⟩
  case round =>
   clear HP HB HP5 HB5 hx1
   obtain ⟨j, rfl, HJ, HP, HB⟩ := hrel
   cases gk with
   | zero =>
    have d2b := zG (show ¬ ((j : Int) < (xs.length : Int)) by have := HJ.out; omega)
    have d2c := zG (show ¬ (j < xs.length) by have := HJ.out; omega)
    have hj : j = xs.length := by have := HJ.out; omega
    rw [hj, List.take_length] at HP
    go_wp2_with fail
    go_roundg k1
    case measure => have := HK.out; omega
    case rel => exact ⟨i + 1, by go_num, ⟨by have := HK.out; omega⟩, ⟨by rw [HSn.out]; exact HP.out⟩, HB⟩
   | succ k2 =>
    have hj : j < xs.length := by have := HJ.out; omega
    have d2b := zF (show ((j : Int) < (xs.length : Int)) by omega)
    have d2c := zF hj
    obtain ⟨x, hx⟩ : ∃ x, xs[j]? = some x := ⟨_, List.getElem?_eq_getElem hj⟩
    obtain ⟨ad2, A5, c5, ea, hx0, hx1, hx2, hx3, hx4, hx5, hl5, hi5⟩ := at_TIns HC1.out (j : Int) (by omega) (by omega)
    cases ea
    rw [rd_TIns_at hx] at hx0 hx1 hx2 hx3 hx4 hx5 hl5 hi5
    rw [Int.toNat_natCast] at hx0 hx1 hx2 hx3 hx4 hx5
    replace hx0 := (HB.out.cell (zE w0 _ hx0)).trans hx0
    replace hx1 := (HB.out.cell (zE w0 _ hx1)).trans hx1
    replace hx2 := (HB.out.cell (zE w0 _ hx2)).trans hx2
    replace hx3 := (HB.out.cell (zE w0 _ hx3)).trans hx3
    replace hx4 := (HB.out.cell (zE w0 _ hx4)).trans hx4
    replace hx5 := (HB.out.cell (zE w0 _ hx5)).trans hx5
    have H5 := zA hi5
    have HO := zA (hox x (List.mem_of_getElem? hx))
    have hsj : ((xs.take j).foldl (insText code) (s.1 ++ [98, 108, 111, 99, 107, 10], s.2)).1.length ≤ 1000000000 := Nat.le_trans (blkText_take code s xs j) HSs.out
    have HJl := zA hsj
    have hsn := fold_snoc (insText code) xs (s.1 ++ [98, 108, 111, 99, 107, 10], s.2) j x hx
    have HSj := zA hsn
    clear hi5 hl5 hsj hsn
    obtain ⟨y, hye⟩ : ∃ y, y = (xs.take j).foldl (insText code) (s.1 ++ [98, 108, 111, 99, 107, 10], s.2) := ⟨_, rfl⟩
    rw [← hye] at HP HJl HSj
    clear hye
    go_wp2_with (first
     | ((with_reducible refine gate_dst (N := 11) rfl ?_); refine box_event (by rfl) (N := 11) (by rfl) (cs := #[.int .i64 0, .int .i64 0, .int .i64 0, .int .i64 0, .string (⟨#[]⟩ : ByteArray), .slice none 0 0]) (t := 44) ?hr ?_; (case hr => go_simp <;> rfl); intro gx hg w6 hbox hb; have BX := zA hbox; have hgx : wr.heap.size ≤ gx := (by rw [hg]; exact Nat.le_refl _); have HW4 := zA (((((((hb.setCell (p := ⟨gx, 0, none⟩) hgx (.int .i64 x.f0)).setCell (p := ⟨gx, 1, none⟩) hgx (.int .i64 x.f1)).setCell (p := ⟨gx, 2, none⟩) hgx (.int .i64 x.f2)).setCell (p := ⟨gx, 3, none⟩) hgx (.int .i64 x.f3)).setCell (p := ⟨gx, 4, none⟩) hgx (.string x.f4)).setCell (p := ⟨gx, 5, none⟩) hgx (.slice A5 x.f5.length c5))); clear hb hbox hg hgx; have z6 := bk6 BX.out)
     | (go_at_call 35; refine (ins_text_calls (HP.out.below HW4.out) (below_step HB.out HW4.out) HLd.out x A5 c5 H5.out code HO.out HJl.out).mono ?_; rintro e w7 ⟨rfl, hp, hb⟩; have HP7 := zA hp; have HB7 := zA hb; clear hp hb))
    go_roundg k2
    case measure => have := HJ.out; omega
    case rel => exact ⟨j + 1, by go_num, ⟨by have := HJ.out; omega⟩, ⟨by rw [HSj.out]; exact HP7.out⟩, HB7⟩
end
def text_Print.T2 : Bool × List (List Nat × List Nat) := (true, [([], []), ([], []), ([], []), ([2], [2]), ([1, 3], [1, 3]), ([], []), ([], []), ([6], [6]), ([5, 7, 4], [5, 7]), ([], []), ([], []), ([10], [10]), ([9, 11, 8], [9, 11]), ([4, 8, 12], [4, 8, 12]), ([0, 13, 12], [0, 13])])
def text_Print.B2 : List Nat := [0, 0, 0, 4, 14, 0, 0, 64, 254, 0, 0, 1024, 4094, 8190, 16383]
theorem text_Print.tab2 : rtab .any (opsOf Tryz.f7 2) = text_Print.T2 := by kernel_rfl
theorem text_Print.bits2 : waitsOk text_Print.T2.2 text_Print.B2 = true := by kernel_rfl
def printHead (a0 : ByteArray) (a1 a2 : Int) : List UInt8 × Int := (lineBytes (⟨#[102, 117, 110, 99]⟩ : ByteArray) [.nm a0, .num a1, .num a2], errsOf (if (ir_Name.f a0).getD false then 0 else keepE 0 80) [.nm a0, .num a1, .num a2])
def printS (a0 : ByteArray) (a1 a2 : Int) (l : List (List SIns)) : List UInt8 × Int := blksText false (printHead a0 a1 a2) l
def partOkB : Part → Bool
 | .num n => decide (-9223372036854775808 ≤ n ∧ n ≤ 9223372036854775807)
 | .nm _ => true
theorem partOkB_ok {p : Part} (h : partOkB p = true) : PartOk p := by
 cases p with
 | num n => exact (show -9223372036854775808 ≤ n ∧ n ≤ 9223372036854775807 from zB h)
 | nm s => trivial
def insOkB (code : Bool) (x : SIns) : Bool := match text_of.f x.f0 code with
 | some (_, wd, fs, _) => (fs.data.toList.all fun b => decide (b = 68 ∨ b = 65 ∨ b = 66 ∨ b = 78 ∨ b = 76)) && (partsOf x fs.data.toList).all partOkB && decide (fs.size ≤ 10) && decide ((lineBytes wd (partsOf x fs.data.toList)).length ≤ 1000000000) && (ir_Name.f x.f4).isSome && decide (x.f5.length ≤ 9000)
 | none => false
theorem insOkB_ok {code : Bool} {x : SIns} (h : insOkB code x = true) : InsOk code x := by
 unfold insOkB at h
 split at h
 ·next op wd fs is ho =>
  simp only [Bool.and_eq_true, decide_eq_true_eq] at h
  obtain ⟨⟨⟨⟨⟨h1, h2⟩, h3⟩, h4⟩, h5⟩, h6⟩ := h
  exact ⟨⟨op, wd, fs, is, ho, fun b hb => zB (List.all_eq_true.1 h1 b hb), fun p hp => partOkB_ok (List.all_eq_true.1 h2 p hp), h3, h4⟩, Option.isSome_iff_exists.1 h5, h6⟩
 ·cases h
def printOkB (a0 : ByteArray) (a1 a2 : Int) (l : List (List SIns)) : Bool := (ir_Name.f a0).isSome && partOkB (.num a1) && partOkB (.num a2) && (l.all fun xs => xs.all (insOkB false)) && decide ((printS a0 a1 a2 l).1.length ≤ 1000000000)
def text_Print.f (a0 : ByteArray) (a1 a2 : Int) (l : List (List SIns)) : Option (ByteArray × Int) := if printOkB a0 a1 a2 l = true then some (if (printS a0 a1 a2 l).2 = 0 then ⟨(printS a0 a1 a2 l).1.toArray⟩ else ⟨#[]⟩, (printS a0 a1 a2 l).2) else none
set_option maxHeartbeats 8000000 in
set_option maxRecDepth 100000 in
theorem text_Print.calls (a0 : ByteArray) (a1 a2 : Int) (A : Option Addr) (c : Nat) (l : List (List SIns)) (r1 : ByteArray) (r2 : Int) (w : World) (hr : Kd.C (Kd.slice 44 kIns) w A l.length l) (hc : l.length ≤ c) (h : text_Print.f a0 a1 a2 l = some (r1, r2)) (hL : LaidW w) :
 Calls Tryz.prog 7 #[.agg #[.string a0, .int .i64 a1, .int .i64 a2, .slice A l.length c]] w fun e w' => e = .returned (.tuple #[.string r1, .int .i64 r2]) ∧ Below w.heap.size w w' := by
 unfold text_Print.f at h
 split at h
 case isFalse => cases h
 case isTrue hok =>
 injection h with h
 simp only [printOkB, Bool.and_eq_true, decide_eq_true_eq] at hok
 obtain ⟨⟨⟨⟨hnb, hn1⟩, hn2⟩, hoi⟩, hlen⟩ := hok
 obtain ⟨nb, hnb⟩ := Option.isSome_iff_exists.1 hnb
 replace hn1 := partOkB_ok hn1
 replace hn2 := partOkB_ok hn2
 replace hoi : ∀ xs ∈ l, ∀ x ∈ xs, InsOk false x := fun xs hx x hy => insOkB_ok (List.all_eq_true.1 (List.all_eq_true.1 hoi xs hx) x hy)
 have HR1 := zA (congrArg Prod.fst h)
 have HR2 := zA (congrArg Prod.snd h)
 have HNb := zA hnb
 have HN1 := zA hn1
 have HN2 := zA hn2
 have HOi := zA hoi
 have HLen := zA hlen
 have HC := zA hr
 have HLd := zA hL
 have HB := zA (Below.refl w.heap.size w)
 clear h hnb hn1 hn2 hoi hlen hr hL
 have hu24 := Tryz.underlying24
 have hu50 := Tryz.underlying51
 go_enter Tryz.func7, Tryz.ntmps7
 go_wp2_with (first
  | ((with_reducible refine gate_dst (N := 1) rfl ?_); refine box_event (by rfl) (N := 1) (by rfl) (cs := #[.string a0, .int .i64 a1, .int .i64 a2, .slice A l.length c]) (t := 24) ?hr ?_; (case hr => go_simp <;> rfl); intro gx hg w1 hbox hb; have BX := zA hbox; replace HB := zA (below_step HB.out hb); clear hb hbox hg)
  | ((with_reducible refine gate_dst (N := 6) rfl ?_); refine box_event (by rfl) (N := 6) (by rfl) (cs := #[.pointer none, .slice none 0 0, .int .i64 0]) (t := 51) ?hr ?_; (case hr => go_simp <;> rfl); intro gp hg w2 hbox hb; have HP := zA (show PrAt w.heap.size gp [] 0 w2 from ⟨by rw [hg]; exact HB.out.size, none, .slice none 0 0, hbox, .inl rfl, own_nil _ _ _ _⟩); replace HB := zA (below_step HB.out hb); replace BX := zA (blk_below BX.out hb); have HGx := zA (show gx ≠ gp by intro e; rw [e] at BX; have := BX.out.symm.trans hbox; simp at this); clear hb hbox hg))
 have HPd := zA (HP.out.below (below_drew (Below.refl _ _)))
 have HBd := zA (below_step HB.out (below_drew (Below.refl _ _)))
 have BXd := zA (blk_drew BX.out)
 have z4 := bk4 BXd.out
 clear HP HB BX
 refine start_ (n := 15) (S := fun w' => w'.cell? ⟨gx, 0, none⟩ = some (.string a0) ∧ w'.cell? ⟨gx, 1, none⟩ = some (.int .i64 a1) ∧ w'.cell? ⟨gx, 2, none⟩ = some (.int .i64 a2)) (ds := []) (bA 15 0) (by kernel_rfl) rfl rfl ⟨(blk_cell BXd.out 0).trans rfl, (blk_cell BXd.out 1).trans rfl, (blk_cell BXd.out 2).trans rfl⟩ (fun hHeld => ?_); refine with_tabW text_Print.tab2 text_Print.bits2 (fun HT_ HW_ => ?_)
 generalize w2.drew = w3 at HPd HBd BXd hHeld ⊢
 clear z4
 refine pu_ (i := 0) (N := some 7) (bA 15 1) ?_
 refine pu_ (i := 1) (N := some 8) (bA 15 3) ?_
 refine pu_ (i := 2) (N := some 9) (bA 15 7) ?_
 refine pu_ (i := 5) (N := some 12) (bA 15 39) ?_
 refine pu_ (i := 6) (N := some 13) (bA 15 103) ?_
 refine pu_ (i := 9) (N := some 16) (bA 15 615) ?_
 refine pu_ (i := 10) (N := some 17) (bA 15 1639) ?_
 refine tk_ (i := 3) (N := some 10) (bA 15 1647) ?_
 refine tk_ (i := 7) (N := some 14) (bA 15 1775) ?_
 refine tk_ (i := 11) (N := some 18) (bA 15 3823) ?_
 refine one_ (i := 4) (N := some 11) (bA 15 3839) rfl rfl (one_of HT_.out (by kernel_rfl)) (by decide) (fun K hK => ?_)
 refine goes_ Tryz.func17 (by kernel_rfl) rfl #[.pointer (some ⟨gp, 0, none⟩), .string a0] (by rfl) rfl rfl qL ?_
 refine (name_calls HPd.out HBd.out a0 nb HNb.out).mono ?_
 rintro e w5 ⟨v1, rfl, hpa, hp, hb, ht⟩
 refine ⟨_, rfl, ?_⟩
 have HA1 := zA hpa
 have HP5 := zA hp
 have HB5 := zA hb
 have BX5 := zA (box_kept ht BXd.out (by decide) HGx.out)
 clear hpa hp hb ht HPd HBd BXd hHeld
 refine hK.out _ _ ⟨(blk_cell BX5.out 0).trans rfl, (blk_cell BX5.out 1).trans rfl, (blk_cell BX5.out 2).trans rfl⟩ (fun hHeld => ?_)
 clear hK K
 refine norm_ (a' := ?_) ?_ ?_
 rotate_left
 ·show Act.put _ (some 11) _ = _
  simp only [Act.put, List.setIfInBounds_toArray, List.set_cons_zero, List.set_cons_succ, i64_w, i32_w]
  rfl
 refine one_ (i := 8) (N := some 15) (bA 15 4095) rfl rfl (one_of HT_.out (by kernel_rfl)) (by decide) (fun K hK => ?_)
 refine goes_ Tryz.func18 (by kernel_rfl) rfl #[.pointer (some ⟨gp, 0, none⟩), .int .i64 a1] (by rfl) rfl rfl qL ?_
 refine (number_calls a1).mono ?_
 rintro e w6 ⟨v2, rfl, hpa, hb⟩
 refine ⟨_, rfl, ?_⟩
 have HA2 := zA hpa
 have HA16 := zA (HA1.out.below hb)
 have HP6 := zA (HP5.out.below hb)
 have HB6 := zA (below_step HB5.out hb)
 have BX6 := zA (blk_below BX5.out hb)
 clear hpa hb HP5 HB5 BX5 HA1 hHeld
 refine hK.out _ _ ⟨(blk_cell BX6.out 0).trans rfl, (blk_cell BX6.out 1).trans rfl, (blk_cell BX6.out 2).trans rfl⟩ (fun hHeld => ?_)
 clear hK K
 refine norm_ (a' := ?_) ?_ ?_
 rotate_left
 ·show Act.put _ (some 15) _ = _
  simp only [Act.put, List.setIfInBounds_toArray, List.set_cons_zero, List.set_cons_succ, i64_w, i32_w]
  rfl
 refine one_ (i := 12) (N := some 19) (bA 15 8191) rfl rfl (one_of HT_.out (by kernel_rfl)) (by decide) (fun K hK => ?_)
 refine goes_ Tryz.func18 (by kernel_rfl) rfl #[.pointer (some ⟨gp, 0, none⟩), .int .i64 a2] (by rfl) rfl rfl qL ?_
 refine (number_calls a2).mono ?_
 rintro e w7 ⟨v3, rfl, hpa, hb⟩
 refine ⟨_, rfl, ?_⟩
 have HA3 := zA hpa
 have HA17 := zA (HA16.out.below hb)
 have HA27 := zA (HA2.out.below hb)
 have HP7 := zA (HP6.out.below hb)
 have HB7 := zA (below_step HB6.out hb)
 have BX7 := zA (blk_below BX6.out hb)
 clear hpa hb HP6 HB6 BX6 HA16 HA2 hHeld
 refine hK.out _ _ ⟨(blk_cell BX7.out 0).trans rfl, (blk_cell BX7.out 1).trans rfl, (blk_cell BX7.out 2).trans rfl⟩ (fun hHeld => ?_)
 clear hK K
 refine norm_ (a' := ?_) ?_ ?_
 rotate_left
 ·show Act.put _ (some 19) _ = _
  simp only [Act.put, List.setIfInBounds_toArray, List.set_cons_zero, List.set_cons_succ, i64_w, i32_w]
  rfl
 obtain ⟨b1, rfl, -⟩ := HA17.out
 obtain ⟨b2, b3, rfl, -⟩ := HA27.out
 obtain ⟨b4, b5, rfl, -⟩ := HA3.out
 refine one_ (i := 13) (N := some 20) (bA 15 16383) rfl rfl (one_of HT_.out (by kernel_rfl)) (by decide) (fun K hK => ?_)
 refine Kd.R_lit_step kClo (w0 := w7) w7.heap.size 53 rfl (N := 20) rfl (xs := [Clo.nm b1, Clo.num b2 b3, Clo.num b4 b5]) (inner := [encClo (Clo.nm b1), encClo (Clo.num b2 b3), encClo (Clo.num b4 b5)]) (ok := fun _ => True) (okp := fun _ => True) ?hr ?hp (fun _ hk => hk) trivial (Below.refl _ _) (Nat.le_refl _) (by simp) ?_
 case hr => first | (go_simp; done) | (go_simp; rfl)
 case hp => exact ⟨rfl, fun j p hj => by
  rcases j with _ | _ | _ | j
  ·cases hj; rfl
  ·cases hj; rfl
  ·cases hj; rfl
  ·simp at hj⟩
 intro v20 w8 ho hb hg hnew
 have HR8 := zA ho
 have HP8 := zA (HP7.out.below hb)
 have HB8 := zA (below_step HB7.out hb)
 have BX8 := zA (blk_below BX7.out hb)
 have HCl := zA (show ClosAt gp w8 [Clo.nm b1, Clo.num b2 b3, Clo.num b4 b5] [.nm a0, .num a1, .num a2] from ⟨rfl, fun j c p h1 h2 => by
  rcases j with _ | _ | _ | j
  ·injection h1 with e1; injection h2 with e2; rw [← e1, ← e2]; exact HA17.out.below hb
  ·injection h1 with e1; injection h2 with e2; rw [← e1, ← e2]; exact HA27.out.below hb
  ·injection h1 with e1; injection h2 with e2; rw [← e1, ← e2]; exact HA3.out.below hb
  ·simp at h1⟩)
 obtain ⟨g, cg, eg, -, -, -⟩ := Kd.R_form ho (by simp)
 subst eg
 clear ho hb hg hnew HP7 HB7 BX7 HA17 HA27 HA3 hHeld
 refine hK.out _ _ ⟨(blk_cell BX8.out 0).trans rfl, (blk_cell BX8.out 1).trans rfl, (blk_cell BX8.out 2).trans rfl⟩ (fun hHeld => ?_)
 clear hK K
 refine norm_ (a' := ?_) ?_ ?_
 rotate_left
 ·show Act.put _ (some 20) _ = _
  simp only [Act.put, List.setIfInBounds_toArray, List.set_cons_zero, List.set_cons_succ, i64_w, i32_w]
  rfl
 refine one_ (i := 14) (N := some 21) (bA 15 32767) rfl rfl (one_of HT_.out (by kernel_rfl)) (by decide) (fun K hK => ?_)
 refine goes_ Tryz.func16 (by kernel_rfl) rfl #[.pointer (some ⟨gp, 0, none⟩), .string (⟨#[102, 117, 110, 99]⟩ : ByteArray), .slice (some ⟨g, 0, none⟩) [Clo.nm b1, Clo.num b2 b3, Clo.num b4 b5].length cg] (by rfl) rfl rfl qL ?_
 refine (line_calls HP8.out HB8.out HLd.out (⟨#[102, 117, 110, 99]⟩ : ByteArray) [.nm a0, .num a1, .num a2] (some ⟨g, 0, none⟩) cg (parts_of HR8.out HCl.out) ?ok (by simp) ?len (by simp)).mono ?_
 case ok => intro p hp; simp only [List.mem_cons, List.not_mem_nil, or_false] at hp; rcases hp with rfl | rfl | rfl <;> first | exact trivial | exact HN1.out | exact HN2.out
 case len => exact Nat.le_trans (fold_len (blkText_len false) l (printHead a0 a1 a2)) HLen.out
 rintro e w9 ⟨rfl, hp, hb, ht⟩
 refine ⟨_, rfl, ?_⟩
 have HP9 := zA (show PrAt w.heap.size gp (printHead a0 a1 a2).1 (printHead a0 a1 a2).2 w9 from by (unfold printHead; rw [HNb.out]; exact hp))
 have HB9 := zA hb
 have BX9 := zA (box_kept ht BX8.out (by decide) HGx.out)
 clear hp hb ht HP8 HB8 BX8 HR8 HCl hHeld
 refine hK.out _ _ ⟨(blk_cell BX9.out 0).trans rfl, (blk_cell BX9.out 1).trans rfl, (blk_cell BX9.out 2).trans rfl⟩ (fun hHeld => ?_)
 clear hK K
 refine norm_ (a' := ?_) ?_ ?_
 rotate_left
 ·show Act.put _ (some 21) _ = _
  simp only [Act.put, List.setIfInBounds_toArray, List.set_cons_zero, List.set_cons_succ, i64_w, i32_w]
  rfl
 refine done_ (done_of HT_.out (by kernel_rfl)) ?_
 clear HT_ HW_ hHeld
 have z9 := bk4 BX9.out
 have hne : (printHead a0 a1 a2).1 ≠ [] := by unfold printHead lineBytes; simp
 go_simp
 go_wp2_with (go_at_call 19; refine (blocks_calls HP9.out HB9.out HLd.out hne A c l HC.out false HOi.out HLen.out).mono ?_; rintro e w10 ⟨rfl, hb⟩; have HB10 := zA hb; clear hb)
 all_goals
  have hr1 := HR1.out
  have hr2 := HR2.out
  unfold printS at hr1 hr2
  go_ret2
  refine ⟨?_, HB10.out⟩
  rw [← hr1, ← hr2]
  first
   | (have h' : (blksText false (printHead a0 a1 a2) l).2 = 0 := ‹_›
      rw [zC h', h']
      rfl)
   | (have h' : ¬ (blksText false (printHead a0 a1 a2) l).2 = 0 := ‹_›
      rw [zD h']
      rfl)
end Go.Proofs.YtniknpjeknmpjaaGreatDoor.Q
namespace Go.Proofs.YtniknpjeknmpjaaGreatDoor.Q
open Go.RowKit Go.Proofs.YtniknpjeknmpjaaGreatDoorW.PrintWords Go.Proofs.YtniknpjeknmpjaaGreatDoorW.PrintLast Go.Proofs.YtniknpjeknmpjaaGreatDoorW.PrintMore
attribute [local go_sem] max2_int min2_int max_two min_two max_three min_three max_four min_four
set_option linter.unusedVariables false
set_option linter.unusedSimpArgs false

def cubbylaw08_TextOne.f (a0 : ByteArray) : Option (Bool) := if (a0.size : Int) > 4096 then (some true) else ((text_Parse.f a0).bind fun bt445 => ((cubbyref08_Parse.f a0).bind fun bt454 => (if bt445.2.2.2.2.2 = bt454.2.2.2.2.2 then ((text_Print.f bt445.1 bt445.2.1 bt445.2.2.1 bt445.2.2.2.1).bind fun bt463 => (if bt445.2.2.2.2.2 = 0 then (if bt463.2 = 0 then (some (bt463.1.toList == a0.toList)) else (some false)) else (some true))) else (some false))))
set_option maxHeartbeats 8000000 in
set_option maxRecDepth 100000 in
theorem cubbylaw08_TextOne.calls (a0 : ByteArray) (r : Bool) (w : World) (hL : LaidW w) (hr : r = true) (h : cubbylaw08_TextOne.f a0 = some r) :
 Calls Tryz.prog 5 #[.string a0] w fun e w' => e = .returned (.bool r) ∧ Below w.heap.size w w' := by
 have hu24 := Tryz.underlying24
 have HB := zA (Below.refl w.heap.size w)
 have HLd := zA hL
 clear hL
 have HRt := zA hr
 clear hr
 have H := h; clear h; unfold cubbylaw08_TextOne.f at H
 by_cases c2 : (a0.size : Int) > 4096
 ·rw [zC c2] at H
  have c2b0 : decide (4096 < (a0.size : Int)) = true := zF c2
  have c2b1 : decide (4096 < a0.size) = true := zF (by omega)
  clear c2
  obtain rfl := zI H
  go_enter Tryz.func5, Tryz.ntmps5
  go_wp2
  go_ret
  exact ⟨qE, qB⟩
 ·rw [zD c2] at H
  have c2b0 : decide (4096 < (a0.size : Int)) = false := zG c2
  have c2b1 : decide (4096 < a0.size) = false := zG (by omega)
  clear c2
  replace H := Option.bind_eq_some_iff.mp H
  obtain ⟨⟨t445, t446, t447, t448, t451, t452⟩, A30, H⟩ := H
  replace H : ((cubbyref08_Parse.f a0).bind fun bt454 => (if t452 = bt454.2.2.2.2.2 then ((text_Print.f t445 t446 t447 t448).bind fun bt463 => (if t452 = 0 then (if bt463.2 = 0 then (some (bt463.1.toList == a0.toList)) else (some false)) else (some true))) else (some false))) = some r := H
  have A3 := zA A30
  clear A30
  replace H := Option.bind_eq_some_iff.mp H
  obtain ⟨⟨t454, t455, t456, t457, t460, t461⟩, A40, H⟩ := H
  replace H : (if t452 = t461 then ((text_Print.f t445 t446 t447 t448).bind fun bt463 => (if t452 = 0 then (if bt463.2 = 0 then (some (bt463.1.toList == a0.toList)) else (some false)) else (some true))) else (some false)) = some r := H
  have A4 := zA A40
  clear A40
  by_cases c5 : t452 = t461
  ·rw [zC c5] at H
   obtain ⟨c5b0, c5b1⟩ := qe c5; clear c5
   replace H := Option.bind_eq_some_iff.mp H
   obtain ⟨⟨t463, t464⟩, A60, H⟩ := H
   replace H : (if t452 = 0 then (if t464 = 0 then (some (t463.toList == a0.toList)) else (some false)) else (some true)) = some r := H
   have A6 := zA A60
   clear A60
   by_cases c7 : t452 = 0
   ·rw [zC c7] at H
    obtain ⟨c7b0, c7b1⟩ := qe c7; clear c7
    by_cases c8 : t464 = 0
    ·rw [zC c8] at H
     obtain ⟨c8b0, c8b1⟩ := qe c8; clear c8
     obtain rfl := zI H
     go_enter Tryz.func5, Tryz.ntmps5
     go_wp2_with (first | ((with_reducible refine gate_callee (f := 10) rfl ?_); refine goesL_ (some 16) rfl rfl Tryz.func10 (by kernel_rfl) rfl #[.string a0] rfl qL ?_; (with_reducible refine (text_Parse.calls a0 t445 t446 t447 t448 t451 t452 _ A3.out (hL := ?side99)).mono ?_); (case side99 => exact LaidW.below HLd.out qB); rintro e w9 ⟨v449, rfl, ho0, hb⟩; refine ⟨_, rfl, ?_⟩; have HO450 := zA (Kd.R_lower ho0 (below_size qB)); replace HB := qH hb; (try clear hb); (try clear ho0)) | ((with_reducible refine gate_dst (N := 3) rfl ?_); refine box_event (by rfl) (N := 3) (by rfl) (cs := #[.string (⟨#[]⟩ : ByteArray), .int .i64 0, .int .i64 0, .slice none 0 0]) (t := 24) ?hr ?_; (case hr => go_simp <;> rfl); intro gb453 hg w10 hbox hb; replace HO450 := zA (Kd.R_below (qR HO450.out) hb); have BK453 := zA (hbox); have GW453 := qG hg; have GE453 := GW453; replace HB := qH hb; clear hb hbox hg; have z11_0 := bk4 BK453.out; obtain ⟨Ao12, co12, eo12⟩ := Kd.R_slice HO450.out; subst eo12) | ((with_reducible refine gate_callee (f := 15) rfl ?_); refine goesL_ (some 22) rfl rfl Tryz.func15 (by kernel_rfl) rfl #[.string a0] rfl qL ?_; (with_reducible refine (cubbyref08_Parse.calls a0 t454 t455 t456 t457 t460 t461 _ A4.out).mono ?_); rintro e w13 ⟨v458, rfl, ho0, hb⟩; refine ⟨_, rfl, ?_⟩; have HO459 := zA (Kd.R_lower (Kd.R_new' ho0 (Kd.R_lt (by (with_reducible repeat (first | apply Kd.R_alloc | apply Kd.R_drewN | apply Kd.R_drew)); exact (Kd.R_mono (Kd.R_far (p := ⟨gb453, 3, none⟩) (Kd.R_far (p := ⟨gb453, 2, none⟩) (Kd.R_far (p := ⟨gb453, 1, none⟩) (Kd.R_far (p := ⟨gb453, 0, none⟩) (Kd.R_types HO450.out BK453.out (by decide)) (fun _ hk => hk.2) (.string t445)) (fun _ hk => hk.2) (.int .i64 t446)) (fun _ hk => hk.2) (.int .i64 t447)) (fun _ hk => hk.2) (.slice Ao12 t448.length co12)) (fun _ h_ => h_.1))))) (below_size qB)); replace HO450 := zA (Kd.R_elder' (by (with_reducible repeat (first | apply Kd.R_alloc | apply Kd.R_drewN | apply Kd.R_drew)); exact (Kd.R_mono (Kd.R_far (p := ⟨gb453, 3, none⟩) (Kd.R_far (p := ⟨gb453, 2, none⟩) (Kd.R_far (p := ⟨gb453, 1, none⟩) (Kd.R_far (p := ⟨gb453, 0, none⟩) (Kd.R_types HO450.out BK453.out (by decide)) (fun _ hk => hk.2) (.string t445)) (fun _ hk => hk.2) (.int .i64 t446)) (fun _ hk => hk.2) (.int .i64 t447)) (fun _ hk => hk.2) (.slice Ao12 t448.length co12)) (fun _ h_ => h_.1))) (Kd.R_base ho0) hb); replace BK453 := zA (blk_below (g := gb453) (o := .cells #[.string t445, .int .i64 t446, .int .i64 t447, .slice Ao12 t448.length co12] 24 (0, 0)) (by (with_reducible repeat (first | refine blk_drewN ?_ _ | refine blk_drew ?_ | refine blk_alloc ?_ _)); refine blk_put (cs := #[.string t445, .int .i64 t446, .int .i64 t447, .slice none 0 0]) ?_ 3 _ rfl; (with_reducible repeat (first | refine blk_drewN ?_ _ | refine blk_drew ?_ | refine blk_alloc ?_ _)); refine blk_put (cs := #[.string t445, .int .i64 t446, .int .i64 0, .slice none 0 0]) ?_ 2 _ rfl; (with_reducible repeat (first | refine blk_drewN ?_ _ | refine blk_drew ?_ | refine blk_alloc ?_ _)); refine blk_put (cs := #[.string t445, .int .i64 0, .int .i64 0, .slice none 0 0]) ?_ 1 _ rfl; (with_reducible repeat (first | refine blk_drewN ?_ _ | refine blk_drew ?_ | refine blk_alloc ?_ _)); refine blk_put (cs := #[.string (⟨#[]⟩ : ByteArray), .int .i64 0, .int .i64 0, .slice none 0 0]) ?_ 0 _ rfl; (with_reducible repeat (first | refine blk_drewN ?_ _ | refine blk_drew ?_ | refine blk_alloc ?_ _)); exact BK453.out) hb); replace HB := qH hb) | ((with_reducible refine gate_dst (N := 6) rfl ?_); refine box_event (by rfl) (N := 6) (by rfl) (cs := #[.string (⟨#[]⟩ : ByteArray), .int .i64 0, .int .i64 0, .slice none 0 0]) (t := 24) ?hr ?_; (case hr => go_simp <;> rfl); intro gb462 hg w14 hbox hb; replace HO450 := zA (Kd.R_below (qR HO450.out) hb); replace HO459 := zA (Kd.R_below (qR HO459.out) hb); have BK462 := zA (hbox); have GW462 := qG hg; have GE462 := GW462; replace HB := qH hb; have NB453_462 := zA ((by rw [hg]; exact Nat.ne_of_lt (blk_lt (g := gb453) (o := .cells #[.string t445, .int .i64 t446, .int .i64 t447, .slice Ao12 t448.length co12] 24 (0, 0)) (qK BK453.out)) : gb453 ≠ gb462)); have NB462_453 := zA ((by rw [hg]; exact Nat.ne_of_gt (blk_lt (g := gb453) (o := .cells #[.string t445, .int .i64 t446, .int .i64 t447, .slice Ao12 t448.length co12] 24 (0, 0)) (qK BK453.out)) : gb462 ≠ gb453)); replace BK453 := qW BK453 hb; clear hb hbox hg; have hnb15 := NB462_453.out; have hnc15 := NB453_462.out; have z16_0 := bk4 BK462.out; obtain ⟨Ao17, co17, eo17⟩ := Kd.R_slice HO459.out; subst eo17; have z18_0 := bk4 BK453.out) | ((with_reducible refine gate_callee (f := 7) rfl ?_); refine goesL_ (some 31) rfl rfl Tryz.func7 (by kernel_rfl) rfl #[.agg #[.string t445, .int .i64 t446, .int .i64 t447, .slice Ao12 t448.length co12]] rfl qL ?_; (with_reducible refine (text_Print.calls t445 t446 t447 _ _ t448 t463 t464 _ ?side1 ?side2 A6.out (hL := ?side99)).mono ?_); (case side1 => refine (Kd.R_reads' (e := 41) (base := w.heap.size) (ok := fun k_ => (True ∧ some k_ ≠ (.slice Ao17 t457.length co17 : Value).ownBlock)) (n := t448.length) (c := co12) ?_).2.2; exact (by (with_reducible repeat (first | apply Kd.R_alloc | apply Kd.R_drewN | apply Kd.R_drew)); exact (Kd.R_mono (Kd.R_far (p := ⟨gb462, 3, none⟩) (Kd.R_far (p := ⟨gb462, 2, none⟩) (Kd.R_far (p := ⟨gb462, 1, none⟩) (Kd.R_far (p := ⟨gb462, 0, none⟩) (Kd.R_types HO450.out BK462.out (by decide)) (fun _ hk => hk.2) (.string t454)) (fun _ hk => hk.2) (.int .i64 t455)) (fun _ hk => hk.2) (.int .i64 t456)) (fun _ hk => hk.2) (.slice Ao17 t457.length co17)) (fun _ h_ => h_.1)))); (case side2 => exact (Kd.R_reads' HO450.out).2.1); (case side99 => exact LaidW.below HLd.out qB); rintro e w19 ⟨rfl, hb⟩; refine ⟨_, rfl, ?_⟩; replace HO450 := zA (Kd.R_below (by (with_reducible repeat (first | apply Kd.R_alloc | apply Kd.R_drewN | apply Kd.R_drew)); exact (Kd.R_mono (Kd.R_far (p := ⟨gb462, 3, none⟩) (Kd.R_far (p := ⟨gb462, 2, none⟩) (Kd.R_far (p := ⟨gb462, 1, none⟩) (Kd.R_far (p := ⟨gb462, 0, none⟩) (Kd.R_types HO450.out BK462.out (by decide)) (fun _ hk => hk.2) (.string t454)) (fun _ hk => hk.2) (.int .i64 t455)) (fun _ hk => hk.2) (.int .i64 t456)) (fun _ hk => hk.2) (.slice Ao17 t457.length co17)) (fun _ h_ => h_.1))) hb); replace HO459 := zA (Kd.R_below (by (with_reducible repeat (first | apply Kd.R_alloc | apply Kd.R_drewN | apply Kd.R_drew)); exact (Kd.R_mono (Kd.R_far (p := ⟨gb462, 3, none⟩) (Kd.R_far (p := ⟨gb462, 2, none⟩) (Kd.R_far (p := ⟨gb462, 1, none⟩) (Kd.R_far (p := ⟨gb462, 0, none⟩) (Kd.R_types HO459.out BK462.out (by decide)) (fun _ hk => hk.2) (.string t454)) (fun _ hk => hk.2) (.int .i64 t455)) (fun _ hk => hk.2) (.int .i64 t456)) (fun _ hk => hk.2) (.slice Ao17 t457.length co17)) (fun _ h_ => h_.1))) hb); replace BK453 := zA (blk_below (g := gb453) (o := .cells #[.string t445, .int .i64 t446, .int .i64 t447, .slice Ao12 t448.length co12] 24 (0, 0)) (by (with_reducible repeat (first | refine blk_drewN ?_ _ | refine blk_drew ?_ | refine blk_alloc ?_ _)); refine blk_far ?_ NB453_462.out _; (with_reducible repeat (first | refine blk_drewN ?_ _ | refine blk_drew ?_ | refine blk_alloc ?_ _)); refine blk_far ?_ NB453_462.out _; (with_reducible repeat (first | refine blk_drewN ?_ _ | refine blk_drew ?_ | refine blk_alloc ?_ _)); refine blk_far ?_ NB453_462.out _; (with_reducible repeat (first | refine blk_drewN ?_ _ | refine blk_drew ?_ | refine blk_alloc ?_ _)); refine blk_far ?_ NB453_462.out _; (with_reducible repeat (first | refine blk_drewN ?_ _ | refine blk_drew ?_ | refine blk_alloc ?_ _)); exact BK453.out) hb); replace BK462 := zA (blk_below (g := gb462) (o := .cells #[.string t454, .int .i64 t455, .int .i64 t456, .slice Ao17 t457.length co17] 24 (0, 0)) (by (with_reducible repeat (first | refine blk_drewN ?_ _ | refine blk_drew ?_ | refine blk_alloc ?_ _)); refine blk_put (cs := #[.string t454, .int .i64 t455, .int .i64 t456, .slice none 0 0]) ?_ 3 _ rfl; (with_reducible repeat (first | refine blk_drewN ?_ _ | refine blk_drew ?_ | refine blk_alloc ?_ _)); refine blk_put (cs := #[.string t454, .int .i64 t455, .int .i64 0, .slice none 0 0]) ?_ 2 _ rfl; (with_reducible repeat (first | refine blk_drewN ?_ _ | refine blk_drew ?_ | refine blk_alloc ?_ _)); refine blk_put (cs := #[.string t454, .int .i64 0, .int .i64 0, .slice none 0 0]) ?_ 1 _ rfl; (with_reducible repeat (first | refine blk_drewN ?_ _ | refine blk_drew ?_ | refine blk_alloc ?_ _)); refine blk_put (cs := #[.string (⟨#[]⟩ : ByteArray), .int .i64 0, .int .i64 0, .slice none 0 0]) ?_ 0 _ rfl; (with_reducible repeat (first | refine blk_drewN ?_ _ | refine blk_drew ?_ | refine blk_alloc ?_ _)); exact BK462.out) hb); replace HB := qH hb))
     go_ret
     exact ⟨qE, qB⟩
    ·rw [zD c8] at H
     obtain ⟨c8b0, c8b1⟩ := qn c8
     exact absurd ((zI H).trans HRt.out) (by decide)
   ·rw [zD c7] at H
    obtain ⟨c7b0, c7b1⟩ := qn c7
    obtain rfl := zI H
    go_enter Tryz.func5, Tryz.ntmps5
    go_wp2_with (first | ((with_reducible refine gate_callee (f := 10) rfl ?_); refine goesL_ (some 16) rfl rfl Tryz.func10 (by kernel_rfl) rfl #[.string a0] rfl qL ?_; (with_reducible refine (text_Parse.calls a0 t445 t446 t447 t448 t451 t452 _ A3.out (hL := ?side99)).mono ?_); (case side99 => exact LaidW.below HLd.out qB); rintro e w20 ⟨v449, rfl, ho0, hb⟩; refine ⟨_, rfl, ?_⟩; have HO450 := zA (Kd.R_lower ho0 (below_size qB)); replace HB := qH hb; (try clear hb); (try clear ho0)) | ((with_reducible refine gate_dst (N := 3) rfl ?_); refine box_event (by rfl) (N := 3) (by rfl) (cs := #[.string (⟨#[]⟩ : ByteArray), .int .i64 0, .int .i64 0, .slice none 0 0]) (t := 24) ?hr ?_; (case hr => go_simp <;> rfl); intro gb453 hg w21 hbox hb; replace HO450 := zA (Kd.R_below (qR HO450.out) hb); have BK453 := zA (hbox); have GW453 := qG hg; have GE453 := GW453; replace HB := qH hb; clear hb hbox hg; have z22_0 := bk4 BK453.out; obtain ⟨Ao23, co23, eo23⟩ := Kd.R_slice HO450.out; subst eo23) | ((with_reducible refine gate_callee (f := 15) rfl ?_); refine goesL_ (some 22) rfl rfl Tryz.func15 (by kernel_rfl) rfl #[.string a0] rfl qL ?_; (with_reducible refine (cubbyref08_Parse.calls a0 t454 t455 t456 t457 t460 t461 _ A4.out).mono ?_); rintro e w24 ⟨v458, rfl, ho0, hb⟩; refine ⟨_, rfl, ?_⟩; have HO459 := zA (Kd.R_lower (Kd.R_new' ho0 (Kd.R_lt (by (with_reducible repeat (first | apply Kd.R_alloc | apply Kd.R_drewN | apply Kd.R_drew)); exact (Kd.R_mono (Kd.R_far (p := ⟨gb453, 3, none⟩) (Kd.R_far (p := ⟨gb453, 2, none⟩) (Kd.R_far (p := ⟨gb453, 1, none⟩) (Kd.R_far (p := ⟨gb453, 0, none⟩) (Kd.R_types HO450.out BK453.out (by decide)) (fun _ hk => hk.2) (.string t445)) (fun _ hk => hk.2) (.int .i64 t446)) (fun _ hk => hk.2) (.int .i64 t447)) (fun _ hk => hk.2) (.slice Ao23 t448.length co23)) (fun _ h_ => h_.1))))) (below_size qB)); replace HO450 := zA (Kd.R_elder' (by (with_reducible repeat (first | apply Kd.R_alloc | apply Kd.R_drewN | apply Kd.R_drew)); exact (Kd.R_mono (Kd.R_far (p := ⟨gb453, 3, none⟩) (Kd.R_far (p := ⟨gb453, 2, none⟩) (Kd.R_far (p := ⟨gb453, 1, none⟩) (Kd.R_far (p := ⟨gb453, 0, none⟩) (Kd.R_types HO450.out BK453.out (by decide)) (fun _ hk => hk.2) (.string t445)) (fun _ hk => hk.2) (.int .i64 t446)) (fun _ hk => hk.2) (.int .i64 t447)) (fun _ hk => hk.2) (.slice Ao23 t448.length co23)) (fun _ h_ => h_.1))) (Kd.R_base ho0) hb); replace BK453 := zA (blk_below (g := gb453) (o := .cells #[.string t445, .int .i64 t446, .int .i64 t447, .slice Ao23 t448.length co23] 24 (0, 0)) (by (with_reducible repeat (first | refine blk_drewN ?_ _ | refine blk_drew ?_ | refine blk_alloc ?_ _)); refine blk_put (cs := #[.string t445, .int .i64 t446, .int .i64 t447, .slice none 0 0]) ?_ 3 _ rfl; (with_reducible repeat (first | refine blk_drewN ?_ _ | refine blk_drew ?_ | refine blk_alloc ?_ _)); refine blk_put (cs := #[.string t445, .int .i64 t446, .int .i64 0, .slice none 0 0]) ?_ 2 _ rfl; (with_reducible repeat (first | refine blk_drewN ?_ _ | refine blk_drew ?_ | refine blk_alloc ?_ _)); refine blk_put (cs := #[.string t445, .int .i64 0, .int .i64 0, .slice none 0 0]) ?_ 1 _ rfl; (with_reducible repeat (first | refine blk_drewN ?_ _ | refine blk_drew ?_ | refine blk_alloc ?_ _)); refine blk_put (cs := #[.string (⟨#[]⟩ : ByteArray), .int .i64 0, .int .i64 0, .slice none 0 0]) ?_ 0 _ rfl; (with_reducible repeat (first | refine blk_drewN ?_ _ | refine blk_drew ?_ | refine blk_alloc ?_ _)); exact BK453.out) hb); replace HB := qH hb) | ((with_reducible refine gate_dst (N := 6) rfl ?_); refine box_event (by rfl) (N := 6) (by rfl) (cs := #[.string (⟨#[]⟩ : ByteArray), .int .i64 0, .int .i64 0, .slice none 0 0]) (t := 24) ?hr ?_; (case hr => go_simp <;> rfl); intro gb462 hg w25 hbox hb; replace HO450 := zA (Kd.R_below (qR HO450.out) hb); replace HO459 := zA (Kd.R_below (qR HO459.out) hb); have BK462 := zA (hbox); have GW462 := qG hg; have GE462 := GW462; replace HB := qH hb; have NB453_462 := zA ((by rw [hg]; exact Nat.ne_of_lt (blk_lt (g := gb453) (o := .cells #[.string t445, .int .i64 t446, .int .i64 t447, .slice Ao23 t448.length co23] 24 (0, 0)) (qK BK453.out)) : gb453 ≠ gb462)); have NB462_453 := zA ((by rw [hg]; exact Nat.ne_of_gt (blk_lt (g := gb453) (o := .cells #[.string t445, .int .i64 t446, .int .i64 t447, .slice Ao23 t448.length co23] 24 (0, 0)) (qK BK453.out)) : gb462 ≠ gb453)); replace BK453 := qW BK453 hb; clear hb hbox hg; have hnb26 := NB462_453.out; have hnc26 := NB453_462.out; have z27_0 := bk4 BK462.out; obtain ⟨Ao28, co28, eo28⟩ := Kd.R_slice HO459.out; subst eo28; have z29_0 := bk4 BK453.out) | ((with_reducible refine gate_callee (f := 7) rfl ?_); refine goesL_ (some 31) rfl rfl Tryz.func7 (by kernel_rfl) rfl #[.agg #[.string t445, .int .i64 t446, .int .i64 t447, .slice Ao23 t448.length co23]] rfl qL ?_; (with_reducible refine (text_Print.calls t445 t446 t447 _ _ t448 t463 t464 _ ?side1 ?side2 A6.out (hL := ?side99)).mono ?_); (case side1 => refine (Kd.R_reads' (e := 41) (base := w.heap.size) (ok := fun k_ => (True ∧ some k_ ≠ (.slice Ao28 t457.length co28 : Value).ownBlock)) (n := t448.length) (c := co23) ?_).2.2; exact (by (with_reducible repeat (first | apply Kd.R_alloc | apply Kd.R_drewN | apply Kd.R_drew)); exact (Kd.R_mono (Kd.R_far (p := ⟨gb462, 3, none⟩) (Kd.R_far (p := ⟨gb462, 2, none⟩) (Kd.R_far (p := ⟨gb462, 1, none⟩) (Kd.R_far (p := ⟨gb462, 0, none⟩) (Kd.R_types HO450.out BK462.out (by decide)) (fun _ hk => hk.2) (.string t454)) (fun _ hk => hk.2) (.int .i64 t455)) (fun _ hk => hk.2) (.int .i64 t456)) (fun _ hk => hk.2) (.slice Ao28 t457.length co28)) (fun _ h_ => h_.1)))); (case side2 => exact (Kd.R_reads' HO450.out).2.1); (case side99 => exact LaidW.below HLd.out qB); rintro e w30 ⟨rfl, hb⟩; refine ⟨_, rfl, ?_⟩; replace HO450 := zA (Kd.R_below (by (with_reducible repeat (first | apply Kd.R_alloc | apply Kd.R_drewN | apply Kd.R_drew)); exact (Kd.R_mono (Kd.R_far (p := ⟨gb462, 3, none⟩) (Kd.R_far (p := ⟨gb462, 2, none⟩) (Kd.R_far (p := ⟨gb462, 1, none⟩) (Kd.R_far (p := ⟨gb462, 0, none⟩) (Kd.R_types HO450.out BK462.out (by decide)) (fun _ hk => hk.2) (.string t454)) (fun _ hk => hk.2) (.int .i64 t455)) (fun _ hk => hk.2) (.int .i64 t456)) (fun _ hk => hk.2) (.slice Ao28 t457.length co28)) (fun _ h_ => h_.1))) hb); replace HO459 := zA (Kd.R_below (by (with_reducible repeat (first | apply Kd.R_alloc | apply Kd.R_drewN | apply Kd.R_drew)); exact (Kd.R_mono (Kd.R_far (p := ⟨gb462, 3, none⟩) (Kd.R_far (p := ⟨gb462, 2, none⟩) (Kd.R_far (p := ⟨gb462, 1, none⟩) (Kd.R_far (p := ⟨gb462, 0, none⟩) (Kd.R_types HO459.out BK462.out (by decide)) (fun _ hk => hk.2) (.string t454)) (fun _ hk => hk.2) (.int .i64 t455)) (fun _ hk => hk.2) (.int .i64 t456)) (fun _ hk => hk.2) (.slice Ao28 t457.length co28)) (fun _ h_ => h_.1))) hb); replace BK453 := zA (blk_below (g := gb453) (o := .cells #[.string t445, .int .i64 t446, .int .i64 t447, .slice Ao23 t448.length co23] 24 (0, 0)) (by (with_reducible repeat (first | refine blk_drewN ?_ _ | refine blk_drew ?_ | refine blk_alloc ?_ _)); refine blk_far ?_ NB453_462.out _; (with_reducible repeat (first | refine blk_drewN ?_ _ | refine blk_drew ?_ | refine blk_alloc ?_ _)); refine blk_far ?_ NB453_462.out _; (with_reducible repeat (first | refine blk_drewN ?_ _ | refine blk_drew ?_ | refine blk_alloc ?_ _)); refine blk_far ?_ NB453_462.out _; (with_reducible repeat (first | refine blk_drewN ?_ _ | refine blk_drew ?_ | refine blk_alloc ?_ _)); refine blk_far ?_ NB453_462.out _; (with_reducible repeat (first | refine blk_drewN ?_ _ | refine blk_drew ?_ | refine blk_alloc ?_ _)); exact BK453.out) hb); replace BK462 := zA (blk_below (g := gb462) (o := .cells #[.string t454, .int .i64 t455, .int .i64 t456, .slice Ao28 t457.length co28] 24 (0, 0)) (by (with_reducible repeat (first | refine blk_drewN ?_ _ | refine blk_drew ?_ | refine blk_alloc ?_ _)); refine blk_put (cs := #[.string t454, .int .i64 t455, .int .i64 t456, .slice none 0 0]) ?_ 3 _ rfl; (with_reducible repeat (first | refine blk_drewN ?_ _ | refine blk_drew ?_ | refine blk_alloc ?_ _)); refine blk_put (cs := #[.string t454, .int .i64 t455, .int .i64 0, .slice none 0 0]) ?_ 2 _ rfl; (with_reducible repeat (first | refine blk_drewN ?_ _ | refine blk_drew ?_ | refine blk_alloc ?_ _)); refine blk_put (cs := #[.string t454, .int .i64 0, .int .i64 0, .slice none 0 0]) ?_ 1 _ rfl; (with_reducible repeat (first | refine blk_drewN ?_ _ | refine blk_drew ?_ | refine blk_alloc ?_ _)); refine blk_put (cs := #[.string (⟨#[]⟩ : ByteArray), .int .i64 0, .int .i64 0, .slice none 0 0]) ?_ 0 _ rfl; (with_reducible repeat (first | refine blk_drewN ?_ _ | refine blk_drew ?_ | refine blk_alloc ?_ _)); exact BK462.out) hb); replace HB := qH hb))
    go_ret
    exact ⟨qE, qB⟩
  ·rw [zD c5] at H
   obtain ⟨c5b0, c5b1⟩ := qn c5
   exact absurd ((zI H).trans HRt.out) (by decide)
end Go.Proofs.YtniknpjeknmpjaaGreatDoor.Q
namespace Go.Proofs.YtniknpjeknmpjaaGreatDoor.RTextOne
open Go Go.RowKit Go.Proofs.YtniknpjeknmpjaaGreatDoorW.PrintWords Go.Proofs.YtniknpjeknmpjaaGreatDoor.Q
set_option linter.unusedVariables false
def TextOne.Pure : Prop := ∀ (a0 : ByteArray), (a0).size ≤ 140737488351232 → cubbylaw08_TextOne.f a0 = some true
end Go.Proofs.YtniknpjeknmpjaaGreatDoor.RTextOne
namespace Go.Proofs.YtniknpjeknmpjaaGreatDoor.Q
open Go.RowKit Go.Proofs.YtniknpjeknmpjaaGreatDoorW.PrintWords Go.Proofs.YtniknpjeknmpjaaGreatDoorW.PrintLast Go.Proofs.YtniknpjeknmpjaaGreatDoorW.PrintMore
attribute [local go_sem] max2_int min2_int max_two min_two max_three min_three max_four min_four
set_option linter.unusedVariables false
set_option linter.unusedSimpArgs false

def cubbyref08_Digits.l0 : Nat → Int → ByteArray → Option (ByteArray)
 | 0, _, _ => none
 | k + 1, x0, x3 => if x0 > 9 then (if 0 ≤ (Int.tmod x0 10) then (if (Int.tmod x0 10) ≤ (wrap64 ((Int.tmod x0 10) + 1)) then (if (wrap64 ((Int.tmod x0 10) + 1)) ≤ 10 then (if ((⟨#[48, 49, 50, 51, 52, 53, 54, 55, 56, 57]⟩ : ByteArray).extract ((Int.tmod x0 10) : Int).toNat ((wrap64 ((Int.tmod x0 10) + 1)) : Int).toNat).size + x3.size ≤ 9223372036854775807 then (cubbyref08_Digits.l0 k (wrap64 (Int.tdiv x0 10)) (((⟨#[48, 49, 50, 51, 52, 53, 54, 55, 56, 57]⟩ : ByteArray).extract ((Int.tmod x0 10) : Int).toNat ((wrap64 ((Int.tmod x0 10) + 1)) : Int).toNat) ++ x3)) else (none)) else (none)) else (none)) else (none)) else (if 0 ≤ x0 then (if x0 ≤ (wrap64 (x0 + 1)) then (if (wrap64 (x0 + 1)) ≤ 10 then (if ((⟨#[48, 49, 50, 51, 52, 53, 54, 55, 56, 57]⟩ : ByteArray).extract (x0 : Int).toNat ((wrap64 (x0 + 1)) : Int).toNat).size + x3.size ≤ 9223372036854775807 then (some (((⟨#[48, 49, 50, 51, 52, 53, 54, 55, 56, 57]⟩ : ByteArray).extract (x0 : Int).toNat ((wrap64 (x0 + 1)) : Int).toNat) ++ x3)) else (none)) else (none)) else (none)) else (none))
def cubbyref08_Digits.f (k : Nat) (a0 : Int) : Option (ByteArray) := cubbyref08_Digits.l0 k a0 (⟨#[]⟩ : ByteArray)
end Go.Proofs.YtniknpjeknmpjaaGreatDoor.Q
namespace Go.Proofs.YtniknpjeknmpjaaGreatDoor.PlainNum
open Go Go.RowKit Go.Proofs.YtniknpjeknmpjaaGreatDoorW.PrintWords Go.Proofs.YtniknpjeknmpjaaGreatDoorW.PrintMore Go.Proofs.YtniknpjeknmpjaaGreatDoor.Q Go.Proofs.YtniknpjeknmpjaaGreatDoor.Plain
set_option linter.unusedVariables false
theorem digits_loop : ∀ (d : Nat) (n : Nat) (acc : ByteArray), n < 10 ^ (d + 1) → n ≤ 4611686018427387904 → acc.size + d ≤ 1000 → Ev (fun k => cubbyref08_Digits.l0 k (n : Int) acc) (⟨(Lib.decDigits n ++ acc.data.toList).toArray⟩ : ByteArray)
 | d, n, acc, hn, hb, ha => by
  by_cases h : n < 10
  ·refine ⟨1, fun k hk => ?_⟩
   obtain ⟨q, rfl⟩ : ∃ q, k = q + 1 := ⟨k - 1, by omega⟩
   simp only [cubbyref08_Digits.l0]
   have e1 : wrap64 ((n : Int) + 1) = ((n + 1 : Nat) : Int) := wrap_nat (by omega)
   rw [zD (by omega), zC (by omega), e1, zC (by omega), zC (by omega), Int.toNat_natCast, Int.toNat_natCast]
   have e2 := tens_size h
   rw [zC (by rw [e2]; omega)]
   congr 1
   refine ba_ext ?_
   rw [ByteArray.data_append, Array.toList_append, dec_small h]
   rw [show ((⟨#[48, 49, 50, 51, 52, 53, 54, 55, 56, 57]⟩ : ByteArray).extract n (n + 1)).data.toList = [UInt8.ofNat (48 + n)] from tens_at h]
  ·cases d with
   | zero => simp at hn; omega
   | succ d =>
    have hq : n / 10 < 10 ^ (d + 1) := by rw [Nat.pow_succ] at hn; omega
    have hm : n % 10 < 10 := by omega
    have e2 := tens_size hm
    have e0 : Int.tmod (n : Int) 10 = ((n % 10 : Nat) : Int) := by rw [Int.tmod_eq_emod_of_nonneg (by omega)]; omega
    have e1 : wrap64 (((n % 10 : Nat) : Int) + 1) = ((n % 10 + 1 : Nat) : Int) := wrap_nat (by omega)
    have e3 : wrap64 (Int.tdiv (n : Int) 10) = ((n / 10 : Nat) : Int) := by rw [Int.tdiv_eq_ediv_of_nonneg (by omega), wrap_id (by omega) (by omega)]; omega
    have ih := digits_loop d (n / 10) ((⟨#[48, 49, 50, 51, 52, 53, 54, 55, 56, 57]⟩ : ByteArray).extract (n % 10) (n % 10 + 1) ++ acc) hq (by omega) (by rw [ByteArray.size_append, e2]; omega)
    have e4 : (Lib.decDigits (n / 10) ++ ((⟨#[48, 49, 50, 51, 52, 53, 54, 55, 56, 57]⟩ : ByteArray).extract (n % 10) (n % 10 + 1) ++ acc).data.toList) = Lib.decDigits n ++ acc.data.toList := by
     rw [ByteArray.data_append, Array.toList_append, dec_big h, List.append_assoc, show ((⟨#[48, 49, 50, 51, 52, 53, 54, 55, 56, 57]⟩ : ByteArray).extract (n % 10) (n % 10 + 1)).data.toList = [UInt8.ofNat (48 + n % 10)] from tens_at hm]
    rw [e4] at ih
    refine Ev.step (fun k => ?_) ih
    simp only [cubbyref08_Digits.l0]
    rw [zC (by omega), e0, zC (by omega), e1, zC (by omega), zC (by omega), Int.toNat_natCast, Int.toNat_natCast, zC (by rw [e2]; omega), e3]
theorem digits_ev {n : Int} (h0 : 0 ≤ n) (h1 : n < 2147483648) : Ev (fun k => cubbyref08_Digits.f k n) (num n) := by
 obtain ⟨m, rfl⟩ : ∃ m : Nat, n = m := ⟨n.toNat, by omega⟩
 have h := digits_loop 9 m ⟨#[]⟩ (by have e10 : (10 : Nat) ^ (9 + 1) = 10000000000 := (by decide); omega) (by omega) (by decide)
 simp only [List.append_nil] at h
 exact h
end Go.Proofs.YtniknpjeknmpjaaGreatDoor.PlainNum
namespace Go.Proofs.YtniknpjeknmpjaaGreatDoor.Q
open Go.RowKit Go.Proofs.YtniknpjeknmpjaaGreatDoorW.PrintWords Go.Proofs.YtniknpjeknmpjaaGreatDoorW.PrintLast Go.Proofs.YtniknpjeknmpjaaGreatDoorW.PrintMore
attribute [local go_sem] max2_int min2_int max_two min_two max_three min_three max_four min_four
set_option linter.unusedVariables false
set_option linter.unusedSimpArgs false

mutual
def cubbyref08_line.j0 : Nat → ByteArray → ByteArray → Bool → Int → List Int → Bool → Option (ByteArray × Int)
 | 0, _, _, _, _, _, _ => none
 | k + 1, x0, x1, x2, x3, x4, x23 => if x23 = true then (some ((⟨#[]⟩ : ByteArray), 80)) else (cubbyref08_line.l0 k x1 x2 x3 x4 x0 0)
def cubbyref08_line.l0 : Nat → ByteArray → Bool → Int → List Int → ByteArray → Int → Option (ByteArray × Int)
 | 0, _, _, _, _, _, _ => none
 | k + 1, x1, x2, x3, x4, x12, x13 => if x13 ≤ (x4.length : Int) then (if x2 = true then (cubbyref08_line.j2 k x1 x2 x3 x4 x12 x13 (x13 == x3)) else (cubbyref08_line.j2 k x1 x2 x3 x4 x12 x13 false)) else (if x12.size + 1 ≤ 9223372036854775807 then (some (x12 ++ (⟨#[10]⟩ : ByteArray), 0)) else (none))
def cubbyref08_line.j2 : Nat → ByteArray → Bool → Int → List Int → ByteArray → Int → Bool → Option (ByteArray × Int)
 | 0, _, _, _, _, _, _, _ => none
 | k + 1, x1, x2, x3, x4, x12, x13, x36 => if x36 = true then (if x12.size + 1 ≤ 9223372036854775807 then (if (x12 ++ (⟨#[32]⟩ : ByteArray)).size + x1.size ≤ 9223372036854775807 then (cubbyref08_line.j3 k x1 x2 x3 x4 ((x12 ++ (⟨#[32]⟩ : ByteArray)) ++ x1) x13) else (none)) else (none)) else (cubbyref08_line.j3 k x1 x2 x3 x4 x12 x13)
def cubbyref08_line.j3 : Nat → ByteArray → Bool → Int → List Int → ByteArray → Int → Option (ByteArray × Int)
 | 0, _, _, _, _, _, _ => none
 | k + 1, x1, x2, x3, x4, x12, x13 => if x13 < (x4.length : Int) then (if 0 ≤ x13 then (if (rd x4 x13) < 0 then (some ((⟨#[]⟩ : ByteArray), 81)) else (if (rd x4 x13) > 2147483647 then (some ((⟨#[]⟩ : ByteArray), 81)) else (if x12.size + 1 ≤ 9223372036854775807 then ((cubbyref08_Digits.f k (rd x4 x13)).bind fun t115 => (if (x12 ++ (⟨#[32]⟩ : ByteArray)).size + t115.size ≤ 9223372036854775807 then (cubbyref08_line.l0 k x1 x2 x3 x4 ((x12 ++ (⟨#[32]⟩ : ByteArray)) ++ t115) (wrap64 (x13 + 1))) else (none))) else (none)))) else (none)) else (cubbyref08_line.l0 k x1 x2 x3 x4 x12 (wrap64 (x13 + 1)))
end
def cubbyref08_line.f (k : Nat) (a0 : ByteArray) (a1 : ByteArray) (a2 : Bool) (a3 : Int) (l4 : List Int) : Option (ByteArray × Int) := if a0.toList = ([] : List UInt8) then (cubbyref08_line.j0 k a0 a1 a2 a3 l4 true) else (if a2 = true then ((cubbyref07_Name.f k a1).bind fun t111 => (cubbyref08_line.j0 k a0 a1 a2 a3 l4 (!t111))) else (cubbyref08_line.j0 k a0 a1 a2 a3 l4 false))
end Go.Proofs.YtniknpjeknmpjaaGreatDoor.Q
namespace Go.Proofs.YtniknpjeknmpjaaGreatDoor.PlainText
open Go Go.RowKit Go.Proofs.YtniknpjeknmpjaaGreatDoorW.PrintWords Go.Proofs.YtniknpjeknmpjaaGreatDoorW.PrintMore Go.Proofs.YtniknpjeknmpjaaGreatDoor.Q Go.Proofs.YtniknpjeknmpjaaGreatDoor.Plain Go.Proofs.YtniknpjeknmpjaaGreatDoor.PlainNum Go.Proofs.YtniknpjeknmpjaaGreatDoor.PlainName
set_option linter.unusedVariables false
set_option linter.unusedSimpArgs false
def good (n : Int) : Bool := decide (0 ≤ n ∧ n < 2147483648)
def tailB (name : ByteArray) (named : Bool) (b : Int) : Int → List Int → List UInt8
 | i, [] => if named = true ∧ i = b then 32 :: name.data.toList else []
 | i, n :: r => (if named = true ∧ i = b then 32 :: name.data.toList else []) ++ (32 :: Lib.decDigits n.toNat ++ tailB name named b (i + 1) r)
def sp : ByteArray := ⟨#[32]⟩
def lineR (w name : ByteArray) (named : Bool) (b : Int) (l : List Int) : ByteArray × Int :=
 if w.toList = [] ∨ (named = true ∧ nameOk name = false) then (emp, 80) else if l.all good = true then (⟨(w.data.toList ++ tailB name named b 0 l ++ [10]).toArray⟩, 0) else (emp, 81)
theorem apl (a b : ByteArray) : (a ++ b).data.toList = a.data.toList ++ b.data.toList := by rw [ByteArray.data_append, Array.toList_append]
theorem apz (a b : ByteArray) : (a ++ b).size = a.size + b.size := ByteArray.size_append
def withName (name : ByteArray) (named : Bool) (b : Int) (s : ByteArray) (i : Int) : ByteArray := if named = true ∧ i = b then (s ++ sp) ++ name else s
theorem withName_list (name : ByteArray) (named : Bool) (b : Int) (s : ByteArray) (i : Int) : (withName name named b s i).data.toList = s.data.toList ++ (if named = true ∧ i = b then 32 :: name.data.toList else []) := by
 unfold withName
 split
 ·rw [apl, apl]; simp [sp]
 ·simp
theorem withName_size (name : ByteArray) (named : Bool) (b : Int) (s : ByteArray) (i : Int) : (withName name named b s i).size ≤ s.size + 1 + name.size := by
 unfold withName
 split
 ·rw [apz, apz]; have : sp.size = 1 := rfl; omega
 ·omega
section
variable {name : ByteArray} {named : Bool} {b : Int} {L : List Int}
theorem line_head {s : ByteArray} {i : Int} {r : ByteArray × Int} (hi : i ≤ (L.length : Int)) (hs : s.size ≤ 4000000000000000000) (hn : name.size ≤ 1000) (h : Ev (fun k => cubbyref08_line.j3 k name named b L (withName name named b s i) i) r) : Ev (fun k => cubbyref08_line.l0 k name named b L s i) r := by
 have hsp : sp.size = 1 := rfl
 by_cases hc : named = true ∧ i = b
 ·have e : withName name named b s i = (s ++ sp) ++ name := zC hc
  rw [e] at h
  refine Ev.step (f := fun k => cubbyref08_line.j2 k name named b L s i (i == b)) (fun k => by simp only [cubbyref08_line.l0]; rw [zC hi, zC hc.1]) (Ev.step (fun k => ?_) h)
  simp only [cubbyref08_line.j2]
  rw [zC (by simpa using hc.2), zC (by omega), zC (by show (s ++ sp).size + _ ≤ _; rw [apz]; omega)]
  rfl
 ·have e : withName name named b s i = s := zD hc
  rw [e] at h
  by_cases hn2 : named = true
  ·refine Ev.step (f := fun k => cubbyref08_line.j2 k name named b L s i (i == b)) (fun k => by simp only [cubbyref08_line.l0]; rw [zC hi, zC hn2]) (Ev.step (fun k => ?_) h)
   simp only [cubbyref08_line.j2]
   rw [zD (by simpa using fun e => hc ⟨hn2, e⟩)]
  ·refine Ev.step (f := fun k => cubbyref08_line.j2 k name named b L s i false) (fun k => by simp only [cubbyref08_line.l0]; rw [zC hi, zD hn2]) (Ev.step (fun k => ?_) h)
   simp only [cubbyref08_line.j2]
   rw [zD (by simp)]
theorem line_loop (hn : name.size ≤ 300) (hL : L.length ≤ 1000) : ∀ (l : List Int) (j : Nat) (s : ByteArray), L.drop j = l → j ≤ L.length → s.size ≤ 1000 + 1000 * j →
 Ev (fun k => cubbyref08_line.l0 k name named b L s (j : Int)) (if l.all good = true then (⟨(s.data.toList ++ tailB name named b j l ++ [10]).toArray⟩, 0) else (emp, 81))
 | [], j, s, hl, hj, hs => by
  have hjl : j = L.length := by have := congrArg List.length hl; simp at this; omega
  have hz := withName_size name named b s j
  refine line_head (by omega) (by omega) (by omega) ?_
  refine Ev.step (f := fun k => cubbyref08_line.l0 k name named b L (withName name named b s j) ((j + 1 : Nat) : Int)) (fun k => by simp only [cubbyref08_line.j3]; rw [zD (by omega), wrap_nat (by omega)]) ?_
  refine ⟨1, fun k hk => ?_⟩
  obtain ⟨q, rfl⟩ : ∃ q, k = q + 1 := ⟨k - 1, by omega⟩
  simp only [cubbyref08_line.l0]
  rw [zD (by omega), zC (by omega), show (([] : List Int).all good) = true from rfl, zC rfl]
  congr 2
  refine ba_ext ?_
  rw [apl, withName_list]
  simp [tailB]
 | n :: l, j, s, hl, hj, hs => by
  have hlt : j < L.length := by
   rcases Nat.lt_or_ge j L.length with h | h
   ·exact h
   ·rw [List.drop_eq_nil_of_le h] at hl; cases hl
  rw [drop_cons hlt] at hl
  simp only [List.cons.injEq] at hl
  obtain ⟨hv, hl⟩ := hl
  have hrd : rd L (j : Int) = n := by rw [rd_get hlt, hv]
  have hz := withName_size name named b s j
  refine line_head (by omega) (by omega) (by omega) ?_
  by_cases hg : good n = true
  ·have hgn : 0 ≤ n ∧ n < 2147483648 := by simpa [good] using hg
   have hnz := num_size hgn.2
   have hsp : sp.size = 1 := rfl
   have ih := line_loop hn hL l (j + 1) ((withName name named b s j ++ sp) ++ num n) hl (by omega) (by rw [apz, apz]; omega)
   have e : (((withName name named b s j ++ sp) ++ num n).data.toList ++ tailB name named b ((j + 1 : Nat) : Int) l ++ [10]) = (s.data.toList ++ tailB name named b (j : Int) (n :: l) ++ [10]) := by
    rw [apl, apl, withName_list, num_list, tailB]
    simp [sp]
   rw [e] at ih
   rw [show (n :: l).all good = l.all good by simp [hg]]
   refine Ev.step (fun k => ?_) (Ev.bind (digits_ev hgn.1 hgn.2) (f := fun k t115 => (if (withName name named b s j ++ (⟨#[32]⟩ : ByteArray)).size + t115.size ≤ 9223372036854775807 then (cubbyref08_line.l0 k name named b L ((withName name named b s j ++ (⟨#[32]⟩ : ByteArray)) ++ t115) (wrap64 ((j : Int) + 1))) else (none))) ?_)
   ·simp only [cubbyref08_line.j3]
    rw [zC (by omega), zC (by omega), hrd, zD (by omega), zD (by omega), zC (by omega)]
   ·refine Ev.congr (fun k => ?_) ih
    rw [zC (by show (withName name named b s j ++ sp).size + _ ≤ _; rw [apz]; omega), wrap_nat (by omega)]
    rfl
  ·have hgn : n < 0 ∨ 2147483647 < n := by
    have : ¬ (0 ≤ n ∧ n < 2147483648) := by simpa [good] using hg
    omega
   rw [zD (by simp [hg])]
   refine ⟨1, fun k hk => ?_⟩
   obtain ⟨q, rfl⟩ : ∃ q, k = q + 1 := ⟨k - 1, by omega⟩
   simp only [cubbyref08_line.j3]
   rw [zC (by omega), zC (by omega), hrd]
   by_cases h0 : n < 0
   ·rw [zC h0]; rfl
   ·rw [zD h0, zC (by omega)]; rfl
end
theorem line_ev (w name : ByteArray) (named : Bool) (b : Int) (l : List Int) (hw : w.size ≤ 1000) (hn : name.size ≤ 300) (hl : l.length ≤ 1000) : Ev (fun k => cubbyref08_line.f k w name named b l) (lineR w name named b l) := by
 have no : ∀ g : Nat → Option (ByteArray × Int), (∀ k, g k = cubbyref08_line.j0 k w name named b l true) → w.toList = [] ∨ (named = true ∧ nameOk name = false) → Ev g (lineR w name named b l) := fun g hg hc => by
  have e : lineR w name named b l = (emp, 80) := zC hc
  rw [e]
  exact Ev.congr hg (Ev.step (f := fun _ => some (emp, 80)) (fun k => by simp only [cubbyref08_line.j0, if_true]; rfl) (Ev.now _))
 have yes : ∀ g : Nat → Option (ByteArray × Int), (∀ k, g k = cubbyref08_line.j0 k w name named b l false) → ¬ (w.toList = [] ∨ (named = true ∧ nameOk name = false)) → Ev g (lineR w name named b l) := fun g hg hc => by
  have e : lineR w name named b l = if l.all good = true then (⟨(w.data.toList ++ tailB name named b 0 l ++ [10]).toArray⟩, 0) else (emp, 81) := zD hc
  rw [e]
  exact Ev.congr hg (Ev.step (fun k => by simp only [cubbyref08_line.j0]; rw [zD (by simp)]; rfl) (line_loop hn hl l 0 w rfl (Nat.zero_le _) (by omega)))
 by_cases h0 : w.toList = []
 ·exact no _ (fun k => by unfold cubbyref08_line.f; rw [zC h0]) (.inl h0)
 by_cases h1 : named = true
 ·have hb : Ev (fun k => (cubbyref07_Name.f k name).bind fun t111 => (cubbyref08_line.j0 k w name named b l (!t111))) (lineR w name named b l) := by
   refine Ev.bind (f := fun k t111 => cubbyref08_line.j0 k w name named b l (!t111)) (refname_ev name) ?_
   cases hk : nameOk name with
   | false => exact no _ (fun k => rfl) (.inr ⟨h1, hk⟩)
   | true => exact yes _ (fun k => rfl) (by rintro (h | ⟨_, h⟩); exact h0 h; rw [hk] at h; cases h)
  exact Ev.congr (fun k => by unfold cubbyref08_line.f; rw [zD h0, zC h1]) hb
 ·exact yes _ (fun k => by unfold cubbyref08_line.f; rw [zD h0, zD h1]) (by rintro (h | ⟨h, _⟩); exact h0 h; exact h1 h)
theorem keepE_z (e : Int) : keepE e 0 = e := by unfold keepE; split <;> simp_all
theorem keepE_nz {e : Int} (h : e ≠ 0) (a : Int) : keepE e a = e := zD h
theorem keepE_assoc (a b c : Int) : keepE (keepE a b) c = keepE a (keepE b c) := by
 unfold keepE
 by_cases h : a = 0 <;> simp [h]
theorem errsOf_keep : ∀ (ps : List Part) (e : Int), errsOf e ps = keepE e (errsOf 0 ps)
 | [], e => (keepE_z e).symm
 | p :: ps, e => by
  have h1 : errsOf e (p :: ps) = errsOf (keepE e p.err) ps := rfl
  have h2 : errsOf 0 (p :: ps) = errsOf (keepE 0 p.err) ps := rfl
  rw [h1, h2, errsOf_keep ps, errsOf_keep ps (keepE 0 p.err), keepE_assoc, keepE_assoc]
  congr 1
theorem err_num (n : Int) : Part.err (.num n) = if good n = true then 0 else 81 := by
 show (if n < 0 ∨ 2147483648 ≤ n then (81 : Int) else 0) = _
 unfold good
 by_cases h : 0 ≤ n ∧ n < 2147483648
 ·rw [zD (by omega), zC (by simpa using h)]
 ·rw [zC (by omega), zD (by simpa using h)]
theorem errs_nums : ∀ l : List Int, errsOf 0 (l.map .num) = if l.all good = true then 0 else 81
 | [] => rfl
 | n :: l => by
  have h1 : errsOf 0 ((n :: l).map .num) = errsOf (keepE 0 (Part.err (.num n))) (l.map .num) := rfl
  rw [h1, errsOf_keep, err_num, errs_nums l]
  by_cases hg : good n = true
  ·simp [hg, keepE]
  ·simp [hg, keepE]
theorem join_flat (w : List UInt8) (l : List (List UInt8)) : Lib.join (w :: l) [32] = w ++ l.flatMap (fun t => 32 :: t) := by
 rw [Lib.join_cons]
 unfold Lib.joinTail
 rw [List.flatMap_def]
 rfl
theorem lineBytes_flat (wd : ByteArray) (ps : List Part) : lineBytes wd ps = wd.data.toList ++ ps.flatMap (fun p => 32 :: p.str.data.toList) ++ [10] := by
 unfold lineBytes
 rw [List.map_cons, join_flat, List.map_map, List.flatMap_map]
 rfl
theorem str_num {n : Int} (h : good n = true) : (Part.str (.num n)).data.toList = Lib.decDigits n.toNat := by
 have hg : 0 ≤ n ∧ n < 2147483648 := by simpa [good] using h
 show (⟨(Lib.itoa n).toArray⟩ : ByteArray).data.toList = _
 rw [itoa_num hg.1, num_list]
theorem tail_plain (name : ByteArray) (named : Bool) (b : Int) : ∀ (l : List Int) (i : Int), (named = true → b < i) → l.all good = true → tailB name named b i l = (l.map Part.num).flatMap (fun p => 32 :: p.str.data.toList)
 | [], i, h, hg => by
  unfold tailB
  rw [zD (by rintro ⟨h1, h2⟩; have := h h1; omega)]; rfl
 | n :: l, i, h, hg => by
  simp only [List.all_cons, Bool.and_eq_true] at hg
  unfold tailB
  rw [zD (by rintro ⟨h1, h2⟩; have := h h1; omega), tail_plain name named b l (i + 1) (fun h1 => by have := h h1; omega) hg.2]
  simp [str_num hg.1]
end Go.Proofs.YtniknpjeknmpjaaGreatDoor.PlainText
namespace Go.Proofs.YtniknpjeknmpjaaGreatDoor.Q
open Go.RowKit Go.Proofs.YtniknpjeknmpjaaGreatDoorW.PrintWords Go.Proofs.YtniknpjeknmpjaaGreatDoorW.PrintLast Go.Proofs.YtniknpjeknmpjaaGreatDoorW.PrintMore
attribute [local go_sem] max2_int min2_int max_two min_two max_three min_three max_four min_four
set_option linter.unusedVariables false
set_option linter.unusedSimpArgs false

mutual
def cubbyref08_print.l0 : Nat → List (List (SIns)) → Bool → ByteArray → Int → Option (ByteArray × Int)
 | 0, _, _, _, _ => none
 | k + 1, x1, x2, x8, x9 => if x9 < (x1.length : Int) then (if x8.size + 6 ≤ 9223372036854775807 then (cubbyref08_print.l1 k x1 x2 (x8 ++ (⟨#[98, 108, 111, 99, 107, 10]⟩ : ByteArray)) x9 0) else (none)) else (some (x8, 0))
def cubbyref08_print.l1 : Nat → List (List (SIns)) → Bool → ByteArray → Int → Int → Option (ByteArray × Int)
 | 0, _, _, _, _, _ => none
 | k + 1, x1, x2, x8, x9, x10 => if 0 ≤ x9 then (if x9 < (x1.length : Int) then (if x10 < ((rd_LIns x1 x9).length : Int) then (if 0 ≤ x10 then ((cubbyref08_word.f k ((rd_TIns (rd_LIns x1 x9) x10).f0) x2).bind fun t164 => ((cubbyref08_numbers.f k ((rd_TIns (rd_LIns x1 x9) x10).f0) ((rd_TIns (rd_LIns x1 x9) x10).f1) ((rd_TIns (rd_LIns x1 x9) x10).f2) ((rd_TIns (rd_LIns x1 x9) x10).f3) ((rd_TIns (rd_LIns x1 x9) x10).f4) ((rd_TIns (rd_LIns x1 x9) x10).f5) x2).bind fun t165 => ((cubbyref08_line.f k t164 ((rd_TIns (rd_LIns x1 x9) x10).f4) (((rd_TIns (rd_LIns x1 x9) x10).f0) == 11) 1 t165).bind fun bt168 => (if bt168.2 = 0 then (if x8.size + bt168.1.size ≤ 9223372036854775807 then (cubbyref08_print.l1 k x1 x2 (x8 ++ bt168.1) x9 (wrap64 (x10 + 1))) else (none)) else (some ((⟨#[]⟩ : ByteArray), bt168.2)))))) else (none)) else (cubbyref08_print.l0 k x1 x2 x8 (wrap64 (x9 + 1)))) else (none)) else (none)
end
end Go.Proofs.YtniknpjeknmpjaaGreatDoor.Q
namespace Go.Proofs.YtniknpjeknmpjaaGreatDoor.PlainText
open Go Go.RowKit Go.Proofs.YtniknpjeknmpjaaGreatDoorW.PrintWords Go.Proofs.YtniknpjeknmpjaaGreatDoorW.PrintMore Go.Proofs.YtniknpjeknmpjaaGreatDoor.Q Go.Proofs.YtniknpjeknmpjaaGreatDoor.Plain Go.Proofs.YtniknpjeknmpjaaGreatDoor.PlainNum Go.Proofs.YtniknpjeknmpjaaGreatDoor.PlainName
set_option linter.unusedVariables false
set_option linter.unusedSimpArgs false
structure Lite (x : SIns) : Prop where
 i1 : -9223372036854775808 ≤ x.f1 ∧ x.f1 ≤ 9223372036854775807
 i2 : -9223372036854775808 ≤ x.f2 ∧ x.f2 ≤ 9223372036854775807
 i3 : -9223372036854775808 ≤ x.f3 ∧ x.f3 ≤ 9223372036854775807
 nm : x.f4.size ≤ 256
 ln : x.f5.length ≤ 20
 i5 : ∀ n ∈ x.f5, -9223372036854775808 ≤ n ∧ n ≤ 9223372036854775807
def prR (x : SIns) (code : Bool) : ByteArray × Int := lineR (wordR x.f0 code) x.f4 (x.f0 == 11) 1 (numsR x code)
theorem word_size (op : Int) (code : Bool) : (wordR op code).size ≤ 1000 := by
 unfold wordR
 rcases op_cases op with e | e | e | e | e | e | e | e | e | e | e | e | e | e | e | e | e
 all_goals first
  | (rw [e]; cases code <;> decide)
  | (rw [text_of_none (by omega)]; decide)
theorem nums_len (x : SIns) (code : Bool) (h : x.f5.length ≤ 20) : (numsR x code).length ≤ 1000 := by
 unfold numsR
 (repeat' split) <;> simp <;> omega
theorem text_of_some {op : Int} {code : Bool} (h : ¬ (op = 0 ∨ (op < 0 ∨ 14 < op) ∧ op ≠ 21 ∧ op ≠ 22)) : ∃ wd fs is, text_of.f op code = some (op, wd, fs, is) ∧ (wd.size ≤ 6 ∧ wd.toList ≠ []) ∧ fs.size ≤ 3 ∧ (∀ b ∈ fs.data.toList, b = 68 ∨ b = 65 ∨ b = 66 ∨ b = 78 ∨ b = 76) ∧ (is = false ↔ code = false ∧ (op = 21 ∨ op = 22)) := by
 rcases op_cases op with rfl | rfl | rfl | rfl | rfl | rfl | rfl | rfl | rfl | rfl | rfl | rfl | rfl | rfl | rfl | rfl | rfl | h'
 all_goals first
  | exact absurd (by omega) h
  | (cases code <;> exact ⟨_, _, _, rfl, ⟨by decide, by rw [toList_data]; decide⟩, by decide, by decide, by decide⟩)
theorem itoa_len {n : Int} (h : -9223372036854775808 ≤ n ∧ n ≤ 9223372036854775807) : (Lib.itoa n).length ≤ 20 := by
 have h19 : (10 : Nat) ^ (18 + 1) = 10000000000000000000 := by decide
 unfold Lib.itoa
 split
 ·have := dec_len 18 n.natAbs (by omega)
  simp only [List.length_cons]; omega
 ·have := dec_len 18 n.toNat (by omega)
  omega
theorem str_len {p : Part} (h : PartOk p) (hs : ∀ s, p = .nm s → s.size ≤ 256) : p.str.data.toList.length ≤ 256 := by
 cases p with
 | num n =>
  have := itoa_len h
  show (⟨(Lib.itoa n).toArray⟩ : ByteArray).data.toList.length ≤ 256
  simp; omega
 | nm s => have := hs s rfl; show s.data.toList.length ≤ 256; simpa using this
theorem flat_len (ps : List Part) (h : ∀ p ∈ ps, p.str.data.toList.length ≤ 256) : (ps.flatMap (fun p => 32 :: p.str.data.toList)).length ≤ 257 * ps.length := by
 induction ps with
 | nil => simp
 | cons p ps ih =>
  have h1 := h p List.mem_cons_self
  have h2 := ih (fun q hq => h q (List.mem_cons_of_mem _ hq))
  simp only [List.flatMap_cons, List.length_append, List.length_cons]
  omega
theorem parts_ok {x : SIns} (h : Lite x) (fs : List UInt8) : ∀ p ∈ partsOf x fs, PartOk p ∧ ∀ s, p = .nm s → s.size ≤ 256 := by
 intro p hp
 obtain ⟨c, hc, hp⟩ := List.mem_flatMap.1 hp
 unfold fieldParts at hp
 split at hp
 ·rw [List.mem_singleton.1 hp]; exact ⟨h.i1, fun s e => by cases e⟩
 split at hp
 ·rw [List.mem_singleton.1 hp]; exact ⟨h.i2, fun s e => by cases e⟩
 split at hp
 ·rw [List.mem_singleton.1 hp]; exact ⟨h.i3, fun s e => by cases e⟩
 split at hp
 ·rw [List.mem_singleton.1 hp]; exact ⟨trivial, fun s e => by cases e; exact h.nm⟩
 split at hp
 ·obtain ⟨n, hn, rfl⟩ := List.mem_map.1 hp
  exact ⟨h.i5 n hn, fun s e => by cases e⟩
 ·simp at hp
theorem parts_count {x : SIns} (h : Lite x) (fs : ByteArray) (hf : fs.size ≤ 3) : (partsOf x fs.data.toList).length ≤ 63 := by
 have h1 := partsOf_len x fs.data.toList
 have h2 : fs.data.toList.length = fs.size := by simp
 have h3 := h.ln
 have h4 : fs.data.toList.length * (x.f5.length + 1) ≤ 3 * 21 := Nat.mul_le_mul (by omega) (by omega)
 omega
theorem line_len {x : SIns} (h : Lite x) (wd fs : ByteArray) (hw : wd.size ≤ 6) (hf : fs.size ≤ 3) : (lineBytes wd (partsOf x fs.data.toList)).length ≤ 20000 := by
 rw [lineBytes_flat, List.length_append, List.length_append]
 have h1 := flat_len (partsOf x fs.data.toList) (fun p hp => str_len (parts_ok h _ p hp).1 (parts_ok h _ p hp).2)
 have h2 := parts_count h fs hf
 have h3 : wd.data.toList.length = wd.size := by simp
 have : 257 * (partsOf x fs.data.toList).length ≤ 257 * 63 := Nat.mul_le_mul_left _ h2
 simp only [List.length_singleton]
 omega
theorem insOk_of {x : SIns} (h : Lite x) (code : Bool) : insOkB code x = true := by
 unfold insOkB
 by_cases hn : x.f0 = 0 ∨ (x.f0 < 0 ∨ 14 < x.f0) ∧ x.f0 ≠ 21 ∧ x.f0 ≠ 22
 ·rw [text_of_none hn]
  have h5 := h.ln
  simp only [Bool.and_eq_true, decide_eq_true_eq]
  rw [name_eq]
  exact ⟨⟨⟨⟨⟨rfl, rfl⟩, by decide⟩, (by decide : (lineBytes emp []).length ≤ 1000000000)⟩, rfl⟩, by omega⟩
 ·obtain ⟨wd, fs, is, ho, ⟨hw, -⟩, hf, hb, -⟩ := text_of_some (code := code) hn
  rw [ho]
  have h5 := h.ln
  have h6 := line_len h wd fs hw hf
  simp only [Bool.and_eq_true, decide_eq_true_eq]
  rw [name_eq]
  refine ⟨⟨⟨⟨⟨List.all_eq_true.2 fun b hbm => zF (hb b hbm), List.all_eq_true.2 fun p hp => ?_⟩, by omega⟩, by omega⟩, rfl⟩, by omega⟩
  have h7 := (parts_ok h _ p hp).1
  cases p with
  | num n => exact zF (show -9223372036854775808 ≤ n ∧ n ≤ 9223372036854775807 from h7)
  | nm s => rfl
theorem insText_grow {x : SIns} (h : Lite x) (code : Bool) (s : List UInt8 × Int) : (insText code s x).1.length ≤ s.1.length + 20000 := by
 unfold insText
 by_cases hn : x.f0 = 0 ∨ (x.f0 < 0 ∨ 14 < x.f0) ∧ x.f0 ≠ 21 ∧ x.f0 ≠ 22
 ·rw [text_of_none hn]; simp
 ·obtain ⟨wd, fs, is, ho, ⟨hw, -⟩, hf, hb, -⟩ := text_of_some (code := code) hn
  rw [ho]
  have h6 := line_len h wd fs hw hf
  cases is with
  | true => simp only [List.length_append]; omega
  | false => simp
theorem insText_R {x : SIns} (h : Lite x) (code : Bool) (s : List UInt8) : (insText code (s, 0) x).2 = (prR x code).2 ∧ ((prR x code).2 = 0 → (insText code (s, 0) x).1 = s ++ (prR x code).1.data.toList) := by
 by_cases hn : x.f0 = 0 ∨ (x.f0 < 0 ∨ 14 < x.f0) ∧ x.f0 ≠ 21 ∧ x.f0 ≠ 22
 ·have e1 : prR x code = (emp, 80) := by
   unfold prR lineR
   rw [zC (.inl (by unfold wordR; rw [text_of_none hn, toList_data]; rfl))]
  have e2 : insText code (s, 0) x = (s, 80) := by unfold insText; rw [text_of_none hn]; rfl
  rw [e1, e2]
  exact ⟨rfl, fun h => absurd h (by decide)⟩
 obtain ⟨wd, fs, is, ho, ⟨hw, hw0⟩, hf, hb, his⟩ := text_of_some (code := code) hn
 cases is with
 | false =>
  have e1 : prR x code = (emp, 80) := by
   unfold prR lineR
   rw [zC (.inl (by unfold wordR; rw [ho, toList_data]; rfl))]
  have e2 : insText code (s, 0) x = (s, 80) := by unfold insText; rw [ho]; rfl
  rw [e1, e2]
  exact ⟨rfl, fun h => absurd h (by decide)⟩
 | true =>
  have ew : wordR x.f0 code = wd := by unfold wordR; rw [ho]
  have e2 : insText code (s, 0) x = (s ++ lineBytes wd (partsOf x fs.data.toList), errsOf (nameErr (nameOk x.f4) 0 fs.data.toList) (partsOf x fs.data.toList)) := by unfold insText; rw [ho]; dsimp only; rw [name_eq]; rfl
  rw [e2]
  unfold prR
  rw [ew]
  clear ew e2 hb hf
  have hx := hn
  obtain ⟨x0, x1, x2, x3, x4, x5⟩ := x
  dsimp only at *
  have key : ∀ (named : Bool) (l : List Int) (ps : List Part) (e0 : Int), (e0 = if named = true ∧ nameOk x4 = false then 80 else 0) → (e0 = 0 → errsOf 0 ps = if l.all good = true then 0 else 81) → (l.all good = true → tailB x4 named 1 0 l = ps.flatMap (fun p => 32 :: p.str.data.toList)) →
   (errsOf e0 ps = (lineR wd x4 named 1 l).2 ∧ ((lineR wd x4 named 1 l).2 = 0 → s ++ lineBytes wd ps = s ++ (lineR wd x4 named 1 l).1.data.toList)) := by
   intro named l ps e0 he hp ht
   unfold lineR
   by_cases hc : named = true ∧ nameOk x4 = false
   ·rw [zC (.inr hc)]
    rw [he, zC hc, errsOf_keep, keepE_nz (by decide)]
    exact ⟨rfl, fun h => absurd h (by decide)⟩
   ·rw [zD (by rintro (h | h); exact hw0 h; exact hc h)]
    rw [zD hc] at he
    rw [he, hp he]
    by_cases hg : l.all good = true
    ·rw [zC hg, zC hg]
     refine ⟨rfl, fun _ => ?_⟩
     rw [lineBytes_flat, ht hg]
    ·rw [zD hg, zD hg]
     exact ⟨rfl, fun h => absurd h (by decide)⟩
  have hop : ∀ (wd' fs' : ByteArray), text_of.f x0 code = some (x0, wd', fs', true) → wd = wd' ∧ fs = fs' := fun wd' fs' h' => by
   rw [ho] at h'
   simp only [Option.some.injEq, Prod.mk.injEq] at h'
   exact ⟨h'.2.1, h'.2.2.1⟩
  have nums : ∀ (l : List Int), fs.data.toList.flatMap (fieldParts ⟨x0, x1, x2, x3, x4, x5⟩) = l.map .num → (78 : UInt8) ∉ fs.data.toList → (x0 == 11) = false → numsR ⟨x0, x1, x2, x3, x4, x5⟩ code = l →
   (errsOf (nameErr (nameOk x4) 0 fs.data.toList) (partsOf ⟨x0, x1, x2, x3, x4, x5⟩ fs.data.toList) = (lineR wd x4 (x0 == 11) 1 (numsR ⟨x0, x1, x2, x3, x4, x5⟩ code)).2 ∧ ((lineR wd x4 (x0 == 11) 1 (numsR ⟨x0, x1, x2, x3, x4, x5⟩ code)).2 = 0 → s ++ lineBytes wd (partsOf ⟨x0, x1, x2, x3, x4, x5⟩ fs.data.toList) = s ++ (lineR wd x4 (x0 == 11) 1 (numsR ⟨x0, x1, x2, x3, x4, x5⟩ code)).1.data.toList)) := by
   intro l hl h78 h11 hnum
   rw [h11, hnum, show partsOf ⟨x0, x1, x2, x3, x4, x5⟩ fs.data.toList = l.map .num from hl]
   refine key false l _ _ ?_ (fun _ => errs_nums l) (fun hg => tail_plain x4 false 1 l 0 (fun h => by cases h) hg)
   rw [zD (by rintro ⟨h, _⟩; cases h)]
   have : ∀ (fl : List UInt8) (e : Int), (78 : UInt8) ∉ fl → nameErr (nameOk x4) e fl = e := by
    intro fl
    induction fl with
    | nil => intro e _; rfl
    | cons c fl ih =>
     intro e hm
     have h1 : c ≠ 78 := fun e => hm (by rw [e]; exact List.mem_cons_self)
     show nameErr (nameOk x4) (if c = 78 then _ else e) fl = e
     rw [zD h1]
     exact ih e (fun hm' => hm (List.mem_cons_of_mem _ hm'))
   exact this _ _ h78
  rcases op_cases x0 with rfl | rfl | rfl | rfl | rfl | rfl | rfl | rfl | rfl | rfl | rfl | rfl | rfl | rfl | rfl | rfl | rfl | h'
  all_goals first
   | exact absurd (by omega) hx
   | (obtain ⟨rfl, rfl⟩ := hop _ _ rfl; exact nums _ rfl (by decide) rfl rfl)
   | (cases code <;> first | (obtain ⟨rfl, rfl⟩ := hop _ _ rfl; exact nums _ rfl (by decide) rfl rfl) | exact absurd (his.2 ⟨rfl, .inl rfl⟩) (by decide) | exact absurd (his.2 ⟨rfl, .inr rfl⟩) (by decide))
   | skip
  ·-- a call
   have ne : ∀ c : UInt8, nameErr (nameOk x4) 0 [68, 78, c] = if c = 78 then (if nameOk x4 = true then (if nameOk x4 = true then 0 else 80) else 80) else (if nameOk x4 = true then 0 else 80) := fun c => by
    unfold nameErr
    simp only [List.foldl_cons, List.foldl_nil]
    cases nameOk x4 <;> simp [keepE]
   have hname : ∀ c : UInt8, c ≠ 78 → nameErr (nameOk x4) 0 [68, 78, c] = if (true : Bool) = true ∧ nameOk x4 = false then 80 else 0 := fun c hc => by
    rw [ne c, zD hc]
    cases nameOk x4 <;> simp
   have errs : ∀ l : List Int, errsOf 0 (.num x1 :: .nm x4 :: l.map .num) = if (x1 :: l).all good = true then 0 else 81 := fun l => by
    have h1 : errsOf 0 (.num x1 :: .nm x4 :: l.map .num) = errsOf (keepE (keepE 0 (Part.err (.num x1))) 0) (l.map .num) := rfl
    rw [h1, keepE_z, errsOf_keep, err_num, errs_nums l]
    by_cases hg : good x1 = true
    ·simp [hg, keepE]
    ·simp [hg, keepE]
   have tl : ∀ l : List Int, (x1 :: l).all good = true → tailB x4 true 1 0 (x1 :: l) = (Part.num x1 :: Part.nm x4 :: l.map .num).flatMap (fun p => 32 :: p.str.data.toList) := fun l hg => by
    simp only [List.all_cons, Bool.and_eq_true] at hg
    have e1 : tailB x4 true 1 0 (x1 :: l) = 32 :: Lib.decDigits x1.toNat ++ tailB x4 true 1 (0 + 1) l := by
     rw [tailB, zD (by rintro ⟨_, h⟩; omega)]; simp
    have e2 : tailB x4 true 1 (0 + 1) l = (32 :: x4.data.toList) ++ (l.map Part.num).flatMap (fun p => 32 :: p.str.data.toList) := by
     cases l with
     | nil => rw [tailB, zC ⟨rfl, rfl⟩]; simp
     | cons n l =>
      simp only [List.all_cons, Bool.and_eq_true] at hg
      rw [tailB, zC ⟨rfl, rfl⟩, tail_plain x4 true 1 l _ (fun _ => by omega) hg.2.2]
      simp [str_num hg.2.1]
    rw [e1, e2]
    simp only [List.flatMap_cons, str_num hg.1]
    have e3 : (Part.nm x4).str = x4 := rfl
    simp [e3]
   cases code with
   | true =>
    obtain ⟨rfl, rfl⟩ := hop _ _ rfl
    exact key true [x1, x2] [.num x1, .nm x4, .num x2] _ (hname 65 (by decide)) (fun _ => errs [x2]) (fun hg => tl [x2] hg)
   | false =>
    obtain ⟨rfl, rfl⟩ := hop _ _ rfl
    have e : partsOf ⟨11, x1, x2, x3, x4, x5⟩ [68, 78, 76] = .num x1 :: .nm x4 :: x5.map .num := by simp [partsOf, fieldParts]
    have := key true (x1 :: x5) (.num x1 :: .nm x4 :: x5.map .num) _ (hname 76 (by decide)) (fun _ => errs x5) (fun hg => tl x5 hg)
    rw [← e] at this
    exact this
theorem keep_err {code : Bool} {s : List UInt8 × Int} {x : SIns} (h : s.2 ≠ 0) : (insText code s x).2 = s.2 := by
 unfold insText
 split
 ·rw [errsOf_keep]
  have : ∀ (fl : List UInt8) (e : Int) (nb : Bool), e ≠ 0 → nameErr nb e fl = e := by
   intro fl
   induction fl with
   | nil => intro e nb _; rfl
   | cons c fl ih =>
    intro e nb he
    show nameErr nb (if c = 78 then (if nb then e else keepE e 80) else e) fl = e
    rw [keepE_nz he]
    simp only [ite_self]
    exact ih e nb he
  rw [this _ _ _ h, keepE_nz h]
 ·exact keepE_nz h _
theorem fold_err {α : Type} {f : List UInt8 × Int → α → List UInt8 × Int} (hf : ∀ s x, s.2 ≠ 0 → (f s x).2 = s.2) : ∀ (l : List α) (s : List UInt8 × Int), s.2 ≠ 0 → (l.foldl f s).2 = s.2
 | [], s, h => rfl
 | x :: l, s, h => by rw [List.foldl_cons, fold_err hf l _ (by rw [hf s x h]; exact h), hf s x h]
def fin (s : List UInt8 × Int) : ByteArray × Int := if s.2 = 0 then (⟨s.1.toArray⟩, 0) else (emp, s.2)
def total (l : List (List SIns)) : Nat := (l.map List.length).sum
structure Light (l : List (List SIns)) : Prop where
 len : l.length ≤ 50
 tot : total l ≤ 300
 lite : ∀ xs ∈ l, ∀ x ∈ xs, Lite x
theorem blk_grow {code : Bool} : ∀ (xs : List SIns), (∀ x ∈ xs, Lite x) → ∀ s : List UInt8 × Int, (xs.foldl (insText code) s).1.length ≤ s.1.length + 20000 * xs.length
 | [], _, s => by simp
 | x :: xs, h, s => by
  have h1 := blk_grow (code := code) xs (fun y hy => h y (List.mem_cons_of_mem _ hy)) (insText code s x)
  have h2 := insText_grow (h x List.mem_cons_self) code s
  rw [List.foldl_cons, List.length_cons]; omega
theorem blks_grow {code : Bool} : ∀ (l : List (List SIns)), (∀ xs ∈ l, ∀ x ∈ xs, Lite x) → ∀ s : List UInt8 × Int, (blksText code s l).1.length ≤ s.1.length + 6 * l.length + 20000 * total l
 | [], _, s => by simp [blksText, total]
 | xs :: l, h, s => by
  have h1 := blks_grow (code := code) l (fun y hy => h y (List.mem_cons_of_mem _ hy)) (blkText code s xs)
  have h2 := blk_grow (code := code) xs (h xs List.mem_cons_self) (s.1 ++ [98, 108, 111, 99, 107, 10], s.2)
  have h3 : (blkText code s xs).1.length ≤ s.1.length + 6 + 20000 * xs.length := by
   refine Nat.le_trans h2 ?_
   simp
  have e1 : blksText code s (xs :: l) = blksText code (blkText code s xs) l := rfl
  have e2 : total (xs :: l) = xs.length + total l := by simp [total]
  rw [e1, e2, List.length_cons]; omega
section
variable {L : List (List SIns)} {code : Bool}
set_option maxRecDepth 100000 in
theorem inner (hL : ∀ xs ∈ L, ∀ x ∈ xs, Lite x) (hLL : L.length ≤ 50) (i : Nat) (xs : List SIns) (hi : L[i]? = some xs) (hxl : xs.length ≤ 300) (r : ByteArray × Int) (g : List UInt8 × Int → ByteArray × Int) (hg : ∀ s : List UInt8 × Int, s.2 ≠ 0 → g s = (emp, s.2)) :
 ∀ (l : List SIns) (j : Nat) (s : List UInt8), xs.drop j = l → j ≤ xs.length → s.length ≤ 1000000000 + 20000 * j →
  ((l.foldl (insText code) (s, 0)).2 = 0 → Ev (fun k => cubbyref08_print.l0 k L code ⟨(l.foldl (insText code) (s, 0)).1.toArray⟩ ((i + 1 : Nat) : Int)) (g (l.foldl (insText code) (s, 0)))) →
  Ev (fun k => cubbyref08_print.l1 k L code ⟨s.toArray⟩ (i : Int) (j : Int)) (g (l.foldl (insText code) (s, 0)))
 | [], j, s, hl, hj, hs, hK => by
  have hil : i < L.length := (List.getElem?_eq_some_iff.1 hi).1
  have hjl : xs.length = j := by have := congrArg List.length hl; simp at this; omega
  refine Ev.step (fun k => ?_) (hK rfl)
  simp only [cubbyref08_print.l1]
  rw [zC (by omega), zC (by omega), rd_LIns_at hi, zD (by omega)]
  rw [wrap_nat (by omega)]
  rfl
 | x :: l, j, s, hl, hj, hs, hK => by
  have hil : i < L.length := (List.getElem?_eq_some_iff.1 hi).1
  have hlt : j < xs.length := by
   rcases Nat.lt_or_ge j xs.length with h | h
   ·exact h
   ·rw [List.drop_eq_nil_of_le h] at hl; cases hl
  have hlx := hl
  rw [drop_cons hlt] at hlx
  simp only [List.cons.injEq] at hlx
  obtain ⟨hxv, hl2⟩ := hlx
  have hx : xs[j]? = some x := by rw [List.getElem?_eq_getElem hlt, hxv]
  have hLx : Lite x := hL xs (List.mem_of_getElem? hi) x (List.mem_of_getElem? hx)
  obtain ⟨h1, h2⟩ := insText_R hLx code s
  have h3 := insText_grow hLx code (s, 0)
  have h5 := hLx.ln
  have step : ∀ k, cubbyref08_print.l1 (k + 1) L code ⟨s.toArray⟩ (i : Int) (j : Int) = (cubbyref08_word.f k x.f0 code).bind fun t164 => (cubbyref08_numbers.f k x.f0 x.f1 x.f2 x.f3 x.f4 x.f5 code).bind fun t165 => (cubbyref08_line.f k t164 x.f4 (x.f0 == 11) 1 t165).bind fun bt168 => if bt168.2 = 0 then (if (⟨s.toArray⟩ : ByteArray).size + bt168.1.size ≤ 9223372036854775807 then cubbyref08_print.l1 k L code ((⟨s.toArray⟩ : ByteArray) ++ bt168.1) (i : Int) (wrap64 ((j : Int) + 1)) else none) else some (emp, bt168.2) := fun k => by
   simp only [cubbyref08_print.l1]
   rw [zC (by omega), zC (by omega), rd_LIns_at hi, zC (by omega), zC (by omega), rd_TIns_at hx]
   rfl
  refine Ev.step step (Ev.bind (word_ev x.f0 code) (f := fun k t164 => (cubbyref08_numbers.f k x.f0 x.f1 x.f2 x.f3 x.f4 x.f5 code).bind fun t165 => (cubbyref08_line.f k t164 x.f4 (x.f0 == 11) 1 t165).bind fun bt168 => if bt168.2 = 0 then (if (⟨s.toArray⟩ : ByteArray).size + bt168.1.size ≤ 9223372036854775807 then cubbyref08_print.l1 k L code ((⟨s.toArray⟩ : ByteArray) ++ bt168.1) (i : Int) (wrap64 ((j : Int) + 1)) else none) else some (emp, bt168.2)) (Ev.bind (numbers_ev x code (by omega)) (f := fun k t165 => (cubbyref08_line.f k (wordR x.f0 code) x.f4 (x.f0 == 11) 1 t165).bind fun bt168 => if bt168.2 = 0 then (if (⟨s.toArray⟩ : ByteArray).size + bt168.1.size ≤ 9223372036854775807 then cubbyref08_print.l1 k L code ((⟨s.toArray⟩ : ByteArray) ++ bt168.1) (i : Int) (wrap64 ((j : Int) + 1)) else none) else some (emp, bt168.2)) (Ev.bind (a := prR x code) ?_ ?_)))
  ·refine line_ev _ _ _ _ _ (word_size x.f0 code) (by have := hLx.nm; omega) (nums_len x code (by omega))
  ·rw [List.foldl_cons] at hK ⊢
   by_cases h0 : (prR x code).2 = 0
   ·have e : insText code (s, 0) x = (s ++ (prR x code).1.data.toList, 0) := Prod.ext (h2 h0) (h1.trans h0)
    rw [e] at hK h3 ⊢
    have e2 : (⟨s.toArray⟩ : ByteArray) ++ (prR x code).1 = ⟨(s ++ (prR x code).1.data.toList).toArray⟩ := ba_ext (by rw [apl])
    have e3 : (⟨s.toArray⟩ : ByteArray).size = s.length := by show s.toArray.size = _; simp
    have e4 : (prR x code).1.size = (prR x code).1.data.toList.length := by simp
    have h6 : s.length + (prR x code).1.data.toList.length ≤ s.length + 20000 := by simpa using h3
    have hz : (s ++ (prR x code).1.data.toList).length ≤ 1000000000 + 20000 * (j + 1) := by have h9 : (s ++ (prR x code).1.data.toList).length = s.length + (prR x code).1.data.toList.length := List.length_append; omega
    have ih := inner hL hLL i xs hi hxl r g hg l (j + 1) (s ++ (prR x code).1.data.toList) hl2 (by omega) hz hK
    refine Ev.congr (fun k => ?_) ih
    rw [zC h0, e3, e4, zC (by omega), e2, wrap_nat (by omega)]
   ·have hne : (insText code (s, 0) x).2 ≠ 0 := by rw [h1]; exact h0
    have he := fold_err (f := insText code) (fun s x h => keep_err h) l _ hne
    rw [hg _ (by rw [he]; exact hne), he, h1]
    exact Ev.congr (fun k => by rw [zD h0]) (Ev.now _)
end
def told (a0 : ByteArray) (a1 a2 : Int) (l : List (List SIns)) : ByteArray × Int := fin (printS a0 a1 a2 l)
theorem head_len (a0 : ByteArray) (a1 a2 : Int) (h0 : a0.size ≤ 256) (h1 : -9223372036854775808 ≤ a1 ∧ a1 ≤ 9223372036854775807) (h2 : -9223372036854775808 ≤ a2 ∧ a2 ≤ 9223372036854775807) : (printHead a0 a1 a2).1.length ≤ 1000 := by
 unfold printHead
 have hf := flat_len [.nm a0, .num a1, .num a2] (fun p hp => by
  simp only [List.mem_cons, List.not_mem_nil, or_false] at hp
  rcases hp with rfl | rfl | rfl
  ·exact str_len trivial (fun s e => by cases e; exact h0)
  ·exact str_len (p := .num a1) h1 (fun s e => by cases e)
  ·exact str_len (p := .num a2) h2 (fun s e => by cases e))
 rw [lineBytes_flat, List.length_append, List.length_append]
 have : (⟨#[102, 117, 110, 99]⟩ : ByteArray).data.toList.length = 4 := rfl
 simp only [List.length_singleton, List.length_cons, List.length_nil] at hf ⊢
 omega
theorem print_len {a0 : ByteArray} {a1 a2 : Int} {l : List (List SIns)} (h0 : a0.size ≤ 256) (h1 : -9223372036854775808 ≤ a1 ∧ a1 ≤ 9223372036854775807) (h2 : -9223372036854775808 ≤ a2 ∧ a2 ≤ 9223372036854775807) (h : Light l) : (printS a0 a1 a2 l).1.length ≤ 10000000 := by
 have h3 := head_len a0 a1 a2 h0 h1 h2
 have h4 := blks_grow (code := false) l h.lite (printHead a0 a1 a2)
 have h5 := h.len
 have h6 := h.tot
 unfold printS
 omega
theorem print_eq {a0 : ByteArray} {a1 a2 : Int} {l : List (List SIns)} (h0 : a0.size ≤ 256) (h1 : -9223372036854775808 ≤ a1 ∧ a1 ≤ 9223372036854775807) (h2 : -9223372036854775808 ≤ a2 ∧ a2 ≤ 9223372036854775807) (h : Light l) : text_Print.f a0 a1 a2 l = some (told a0 a1 a2 l) := by
 unfold text_Print.f
 rw [zC]
 ·unfold told fin
  split
  ·next hz => rw [hz]
  ·rfl
 ·have h7 := print_len h0 h1 h2 h
  simp only [printOkB, Bool.and_eq_true, decide_eq_true_eq]
  refine ⟨⟨⟨⟨by rw [name_eq]; rfl, zF (show -9223372036854775808 ≤ a1 ∧ a1 ≤ 9223372036854775807 from h1)⟩, zF (show -9223372036854775808 ≤ a2 ∧ a2 ≤ 9223372036854775807 from h2)⟩, ?_⟩, by omega⟩
  exact List.all_eq_true.2 fun xs hx => List.all_eq_true.2 fun x hy => insOk_of (h.lite xs hx x hy) false
def PartGood : Part → Prop
 | .num n => good n = true
 | .nm s => nameOk s = true
theorem part_num {n : Int} (h : good n = true) : Part.str (.num n) = num n := by
 have hg : 0 ≤ n ∧ n < 2147483648 := by simpa [good] using h
 exact itoa_num hg.1
def copyF (x y : SIns) (c : UInt8) : SIns :=
 if c = 78 then { y with f4 := x.f4 } else if c = 76 then { y with f5 := y.f5 ++ x.f5 } else if c = 68 then { y with f1 := x.f1 } else if c = 65 then { y with f2 := x.f2 } else if c = 66 then { y with f3 := x.f3 } else y
theorem form_of {op o : Int} {code : Bool} {wd fs : ByteArray} (h : text_of.f op code = some (o, wd, fs, true)) :
 o = op ∧ (∀ c ∈ fs.data.toList, c = 68 ∨ c = 65 ∨ c = 66 ∨ c = 78 ∨ c = 76) ∧ (76 : UInt8) ∉ fs.data.toList.dropLast ∧ (32 : UInt8) ∉ wd.data.toList ∧ (10 : UInt8) ∉ wd.data.toList ∧ wd.data.toList ≠ [98, 108, 111, 99, 107] ∧ fs.size ≤ 3 ∧ wd.size ≤ 6 ∧ 0 ≤ op ∧ op < 23 ∧ (openF fs = false → (76 : UInt8) ∉ fs.data.toList) := by
 rcases op_cases op with rfl | rfl | rfl | rfl | rfl | rfl | rfl | rfl | rfl | rfl | rfl | rfl | rfl | rfl | rfl | rfl | rfl | ho
 case inr.inr.inr.inr.inr.inr.inr.inr.inr.inr.inr.inr.inr.inr.inr.inr.inr =>
  rw [text_of_none (.inr ho)] at h
  cases h
 all_goals
  cases code
  all_goals
   first
    | (cases h; done)
    | (injection h with h
       simp only [Prod.mk.injEq] at h
       obtain ⟨rfl, rfl, rfl, -⟩ := h
       exact ⟨rfl, by decide, by decide, by decide, by decide, by decide, by decide, by decide, by decide, by decide, by decide⟩)
def bodyB (wd : ByteArray) (ps : List Part) : List UInt8 := wd.data.toList ++ ps.flatMap (fun p => 32 :: p.str.data.toList)
def stepW (n : Nat) (st : PS) (ws : List ByteArray) : Int × PS := if n = 0 then topP st ws else lineP st ws
theorem step_cut (n : Nat) (st : PS) (b rest : List UInt8) (h : (10 : UInt8) ∉ b) : stepP n st (cutB ⟨(b ++ 10 :: rest).toArray⟩).1 = stepW n st (wordsOf ⟨b.toArray⟩) ∧ (cutB ⟨(b ++ 10 :: rest).toArray⟩).2 = ⟨rest.toArray⟩ := by
 have hd : (⟨(b ++ 10 :: rest).toArray⟩ : ByteArray).data.toList = b ++ 10 :: rest := rfl
 have h1 : (⟨(b ++ 10 :: rest).toArray⟩ : ByteArray).data.toList[b.length]? = some 10 := by
  rw [hd, List.getElem?_append_right (Nat.le_refl _), Nat.sub_self]; rfl
 have h2 : ∀ j, j < b.length → (⟨(b ++ 10 :: rest).toArray⟩ : ByteArray).data.toList[j]? ≠ some 10 := fun j hj he => by
  rw [hd, List.getElem?_append_left hj] at he
  exact h (List.mem_of_getElem? he)
 obtain ⟨q1, q2, q3⟩ := cut_found h1 h2
 have e1 : (⟨(b ++ 10 :: rest).toArray⟩ : ByteArray).extract 0 b.length = ⟨b.toArray⟩ := ba_ext (by
  rw [ex_list, hd]; simp)
 have e2 : (⟨(b ++ 10 :: rest).toArray⟩ : ByteArray).extract (b.length + 1) (⟨(b ++ 10 :: rest).toArray⟩ : ByteArray).size = ⟨rest.toArray⟩ := ba_ext (by
  rw [ex_list, hd]
  have hz : (⟨(b ++ 10 :: rest).toArray⟩ : ByteArray).size = b.length + 1 + rest.length := by show (b ++ 10 :: rest).toArray.size = _; simp; omega
  rw [hz, show b ++ 10 :: rest = (b ++ [10]) ++ rest by simp, List.drop_append_of_le_length (by simp)]
  rw [List.drop_eq_nil_of_le (by simp)]
  simp)
 refine ⟨?_, q3.trans e2⟩
 unfold stepP stepW
 rw [q1, zD (by decide), q2, e1]
def Runs (st : PS) (n : Nat) (t : List UInt8) (st' : PS) (m : Nat) : Prop := m ≤ t.length ∧ ∀ (k : Nat) (rest : List UInt8), parseR (k + m) n st ⟨(t ++ rest).toArray⟩ = parseR k (n + m) st' ⟨rest.toArray⟩
theorem Runs.none (st : PS) (n : Nat) : Runs st n [] st 0 := ⟨Nat.le_refl _, fun k rest => rfl⟩
theorem Runs.more {st st1 st2 : PS} {n m1 m2 : Nat} {t1 t2 : List UInt8} (h1 : Runs st n t1 st1 m1) (h2 : Runs st1 (n + m1) t2 st2 m2) : Runs st n (t1 ++ t2) st2 (m1 + m2) := ⟨by rw [List.length_append]; exact Nat.add_le_add h1.1 h2.1, fun k rest => by
 rw [List.append_assoc, show k + (m1 + m2) = (k + m2) + m1 by omega, h1.2 (k + m2) (t2 ++ rest), h2.2 k rest, Nat.add_assoc]⟩
theorem Runs.one {st st' : PS} {n : Nat} {b : List UInt8} (hb : (10 : UInt8) ∉ b) (h : stepW n st (wordsOf ⟨b.toArray⟩) = (0, st')) : Runs st n (b ++ [10]) st' 1 := ⟨by simp, fun k rest => by
 rw [List.append_assoc, List.singleton_append]
 obtain ⟨q1, q2⟩ := step_cut n st b rest hb
 rw [h] at q1
 conv => lhs; unfold parseR
 have hz : ¬ (⟨(b ++ 10 :: rest).toArray⟩ : ByteArray).size = 0 := by
  show ¬ (b ++ 10 :: rest).toArray.size = 0
  simp
 rw [zD hz, q1, zC rfl, q2]⟩
def normI (code : Bool) (x : SIns) : SIns := match text_of.f x.f0 code with
 | some (op, _, fs, true) => fs.data.toList.foldl (copyF x) (insOp op)
 | _ => x
def putL (st : PS) (x : SIns) : PS := { st with blocks := st.blocks.set (st.blocks.length - 1) (st.blocks.getD (st.blocks.length - 1) [] ++ [x]) }
theorem put_snoc (st : PS) (bs : List (List SIns)) (b : List SIns) (x : SIns) (h : st.blocks = bs ++ [b]) : putL st x = { st with blocks := bs ++ [b ++ [x]] } := by
 unfold putL
 rw [h]
 congr 1
 have hl : (bs ++ [b]).length - 1 = bs.length := by simp
 rw [hl, List.getD_eq_getElem?_getD, List.getElem?_append_right (Nat.le_refl _), Nat.sub_self]
 rw [List.set_append_right _ _ (Nat.le_refl _), Nat.sub_self]
 rfl
theorem part_len {p : Part} (h : PartGood p) : p.str.data.toList.length ≤ 12 := by
 cases p with
 | num n =>
  have hg : 0 ≤ n ∧ n < 2147483648 := by have h : good n = true := h; simpa [good] using h
  rw [show (Part.num n).str = num n from part_num h]
  have := num_size hg.2
  show (num n).data.toList.length ≤ 12
  simp only [Array.length_toList]
  show (num n).size ≤ 12
  omega
 | nm s =>
  have h : nameOk s = true := h
  unfold nameOk at h
  simp only [Bool.and_eq_true, decide_eq_true_eq] at h
  show s.data.toList.length ≤ 12
  simp only [Array.length_toList]
  show s.size ≤ 12
  omega
theorem flat_small : ∀ (ps : List Part), (∀ p ∈ ps, PartGood p) → (ps.flatMap (fun p => 32 :: p.str.data.toList)).length ≤ 13 * ps.length
 | [], _ => by simp
 | p :: ps, h => by
  have h1 := part_len (h p List.mem_cons_self)
  have h2 := flat_small ps (fun q hq => h q (List.mem_cons_of_mem _ hq))
  simp only [List.flatMap_cons, List.length_append, List.length_cons]
  omega
theorem parts_most (x : SIns) : ∀ fs : List UInt8, (∀ c ∈ fs, c = 68 ∨ c = 65 ∨ c = 66 ∨ c = 78 ∨ c = 76) → (76 : UInt8) ∉ fs.dropLast → (partsOf x fs).length + 1 ≤ fs.length + max 1 x.f5.length
 | [], _, _ => by show 0 + 1 ≤ 0 + _; omega
 | [c], h, _ => by
  rw [show partsOf x [c] = fieldParts x c ++ [] from List.flatMap_cons, List.append_nil]
  rcases h c List.mem_cons_self with rfl | rfl | rfl | rfl | rfl
  ·show 1 + 1 ≤ 1 + _; omega
  ·show 1 + 1 ≤ 1 + _; omega
  ·show 1 + 1 ≤ 1 + _; omega
  ·show 1 + 1 ≤ 1 + _; omega
  ·show (x.f5.map Part.num).length + 1 ≤ 1 + _; rw [List.length_map]; omega
 | c :: d :: r, h, h76 => by
  have ih := parts_most x (d :: r) (fun e hd => h e (List.mem_cons_of_mem _ hd)) (fun hm => h76 (by rw [List.dropLast_cons_cons]; exact List.mem_cons_of_mem _ hm))
  rw [show partsOf x (c :: d :: r) = fieldParts x c ++ partsOf x (d :: r) from List.flatMap_cons, List.length_append, List.length_cons]
  have : (fieldParts x c).length = 1 := by
   rcases h c List.mem_cons_self with rfl | rfl | rfl | rfl | rfl
   ·rfl
   ·rfl
   ·rfl
   ·rfl
   ·exact absurd (by rw [List.dropLast_cons_cons]; exact List.mem_cons_self) h76
  omega
theorem num_back {t : ByteArray} {v : Int} (h : numOf t = some v) : good v = true ∧ Part.str (.num v) = t := by
 obtain ⟨h1, h2, h3⟩ := numOf_some h
 have hg : good v = true := by unfold good; exact zF ⟨h1, h2⟩
 exact ⟨hg, (part_num hg).trans h3.symm⟩
theorem nums_back : ∀ (ws : List ByteArray) (l : List Int), ws.mapM numOf = some l → (l.map Part.num).map Part.str = ws ∧ ∀ n ∈ l, good n = true
 | [], l, h => by simp at h; subst h; exact ⟨rfl, fun n hn => by cases hn⟩
 | t :: ws, l, h => by
  rw [List.mapM_cons] at h
  simp only [Option.pure_def, Option.bind_eq_bind, Option.bind_eq_some_iff] at h
  obtain ⟨v, hv, r, hr, h⟩ := h
  injection h with h
  subst h
  obtain ⟨h1, h2⟩ := num_back hv
  obtain ⟨h3, h4⟩ := nums_back ws r hr
  refine ⟨by rw [List.map_cons, List.map_cons, h2, h3], fun n hn => ?_⟩
  rcases List.mem_cons.1 hn with rfl | hn
  ·exact h1
  ·exact h4 n hn
theorem set_field (c d : UInt8) (n : Int) (y : SIns) (h : d ≠ c) : fieldParts (setF c n y) d = fieldParts y d := by
 unfold fieldParts setF
 (repeat' split) <;> first | rfl | (exfalso; apply h; simp_all)
theorem fill_forth (ws : List ByteArray) : ∀ (fs : List UInt8) (at_ : Nat) (y x : SIns), fillR ws fs at_ y = (0, x) → (∀ c ∈ fs, c = 68 ∨ c = 65 ∨ c = 66 ∨ c = 78 ∨ c = 76) → fs.Nodup → (76 : UInt8) ∉ fs.dropLast → ((76 : UInt8) ∉ fs → ws.length = at_ + fs.length) → y.f5 = [] →
 x.f0 = y.f0 ∧ (∀ c, c ∉ fs → fieldParts x c = fieldParts y c) ∧ (partsOf x fs).map Part.str = ws.drop at_ ∧ ∀ p ∈ partsOf x fs, PartGood p
 | [], at_, y, x, h, _, _, _, hl, _ => by
  injection h with h1 h2
  subst h2
  refine ⟨rfl, fun _ _ => rfl, ?_, fun p hp => by cases hp⟩
  rw [List.drop_eq_nil_of_le (by have := hl (by simp); simp at this; omega)]
  rfl
 | c :: r, at_, y, x, h, hc, hn, hL, hl, h5 => by
  obtain ⟨hcr, hnr⟩ := List.nodup_cons.1 hn
  have hcr2 : ∀ d ∈ r, d = 68 ∨ d = 65 ∨ d = 66 ∨ d = 78 ∨ d = 76 := fun d hd => hc d (List.mem_cons_of_mem _ hd)
  have hLr : (76 : UInt8) ∉ r.dropLast := by
   cases r with
   | nil => simp
   | cons d r => exact fun h => hL (by rw [List.dropLast_cons_cons]; exact List.mem_cons_of_mem _ h)
  have hp : partsOf x (c :: r) = fieldParts x c ++ partsOf x r := List.flatMap_cons
  have numc : c ≠ 78 → c ≠ 76 → (∀ (n : Int), fieldParts (setF c n y) c = [.num n]) → x.f0 = y.f0 ∧ (∀ d, d ∉ c :: r → fieldParts x d = fieldParts y d) ∧ (partsOf x (c :: r)).map Part.str = ws.drop at_ ∧ ∀ p ∈ partsOf x (c :: r), PartGood p := by
   intro h78 h76 hset
   unfold fillR at h
   rw [zD h78, zD h76] at h
   split at h
   ·next t ht =>
    split at h
    ·next n hnum =>
     obtain ⟨q1, q2, q3, q4⟩ := fill_forth ws r (at_ + 1) (setF c n y) x h hcr2 hnr hLr (fun h7 => by
      have := hl (fun hm => by
       rcases List.mem_cons.1 hm with e | hm
       ·exact h76 e.symm
       ·exact h7 hm)
      simp only [List.length_cons] at this
      omega) (by unfold setF; (repeat' split) <;> exact h5)
     obtain ⟨g1, g2⟩ := num_back hnum
     have e1 : fieldParts x c = [.num n] := (q2 c hcr).trans (hset n)
     rw [hp, e1]
     refine ⟨?_, fun d hd => ?_, ?_, fun p hpm => ?_⟩
     ·rw [q1]; unfold setF; (repeat' split) <;> rfl
     ·have hdc : d ≠ c := fun e => hd (by rw [e]; exact List.mem_cons_self)
      rw [q2 d (fun hm => hd (List.mem_cons_of_mem _ hm)), set_field c d n y hdc]
     ·obtain ⟨hlt, hget⟩ := List.getElem?_eq_some_iff.1 ht
      rw [List.map_append, q3, List.drop_eq_getElem_cons hlt, hget]
      show Part.str (.num n) :: _ = _
      rw [g2]
      rfl
     ·rcases List.mem_append.1 hpm with hpm | hpm
      ·rw [List.mem_singleton.1 hpm]; exact g1
      ·exact q4 p hpm
    ·injection h with h; exact absurd h (by decide)
   ·injection h with h; exact absurd h (by decide)
  rcases hc c List.mem_cons_self with rfl | rfl | rfl | rfl | rfl
  ·exact numc (by decide) (by decide) (fun n => rfl)
  ·exact numc (by decide) (by decide) (fun n => rfl)
  ·exact numc (by decide) (by decide) (fun n => rfl)
  ·unfold fillR at h
   rw [zC rfl] at h
   split at h
   ·next t ht =>
    split at h
    ·next hnm =>
     obtain ⟨q1, q2, q3, q4⟩ := fill_forth ws r (at_ + 1) { y with f4 := t } x h hcr2 hnr hLr (fun h7 => by
      have := hl (fun hm => by
       rcases List.mem_cons.1 hm with e | hm
       ·exact absurd e (by decide)
       ·exact h7 hm)
      simp only [List.length_cons] at this
      omega) h5
     have e1 : fieldParts x 78 = [.nm t] := (q2 78 hcr).trans rfl
     rw [hp, e1]
     refine ⟨q1, fun d hd => ?_, ?_, fun p hpm => ?_⟩
     ·have hdc : d ≠ 78 := fun e => hd (by rw [e]; exact List.mem_cons_self)
      rw [q2 d (fun hm => hd (List.mem_cons_of_mem _ hm))]
      unfold fieldParts
      simp only [zD hdc]
     ·obtain ⟨hlt, hget⟩ := List.getElem?_eq_some_iff.1 ht
      rw [List.map_append, q3, List.drop_eq_getElem_cons hlt, hget]
      rfl
     ·rcases List.mem_append.1 hpm with hpm | hpm
      ·rw [List.mem_singleton.1 hpm]; exact hnm
      ·exact q4 p hpm
    ·injection h with h; exact absurd h (by decide)
   ·injection h with h; exact absurd h (by decide)
  ·have hr : r = [] := by
    cases r with
    | nil => rfl
    | cons d r => exact absurd (by rw [List.dropLast_cons_cons]; exact List.mem_cons_self) hL
   subst hr
   rw [fillR_list] at h
   split at h
   ·next l hm =>
    injection h with _ h
    subst h
    obtain ⟨g1, g2⟩ := nums_back _ _ hm
    have e1 : partsOf { y with f5 := y.f5 ++ l } [76] = l.map .num := by
     show (y.f5 ++ l).map Part.num ++ [] = _
     rw [h5, List.append_nil]; rfl
    rw [e1]
    refine ⟨rfl, fun d hd => ?_, g1, fun p hpm => ?_⟩
    ·have hdc : d ≠ 76 := fun e => hd (by rw [e]; exact List.mem_cons_self)
     unfold fieldParts
     simp only [zD hdc]
    ·obtain ⟨n, hn, rfl⟩ := List.mem_map.1 hpm
     exact g2 n hn
   ·injection h with h; exact absurd h (by decide)
theorem form_nodup {op o : Int} {code : Bool} {wd fs : ByteArray} (h : text_of.f op code = some (o, wd, fs, true)) : fs.data.toList.Nodup ∧ (openF fs = true → (76 : UInt8) ∈ fs.data.toList) ∧ (code = true → (76 : UInt8) ∉ fs.data.toList) := by
 rcases op_cases op with rfl | rfl | rfl | rfl | rfl | rfl | rfl | rfl | rfl | rfl | rfl | rfl | rfl | rfl | rfl | rfl | rfl | ho
 case inr.inr.inr.inr.inr.inr.inr.inr.inr.inr.inr.inr.inr.inr.inr.inr.inr =>
  rw [text_of_none (.inr ho)] at h
  cases h
 all_goals
  cases code
  all_goals
   first
    | (cases h; done)
    | (injection h with h
       simp only [Prod.mk.injEq] at h
       obtain ⟨rfl, rfl, rfl, -⟩ := h
       exact ⟨by decide, by decide, by decide⟩)
structure Told (code : Bool) (x : SIns) (B : Nat) : Prop where
 at_ : ∃ wd fs, text_of.f x.f0 code = some (x.f0, wd, fs, true) ∧ (∀ p ∈ partsOf x fs.data.toList, PartGood p)
 len : x.f5.length ≤ B
theorem errs_zero : ∀ (ps : List Part), (∀ p ∈ ps, PartGood p) → errsOf 0 ps = 0
 | [], _ => rfl
 | p :: ps, h => by
  have h1 : errsOf 0 (p :: ps) = errsOf (keepE 0 p.err) ps := rfl
  have h2 : p.err = 0 := by
   cases p with
   | num n => rw [err_num, zC (show good n = true from h _ List.mem_cons_self)]
   | nm s => rfl
  rw [h1, h2]
  exact errs_zero ps (fun q hq => h q (List.mem_cons_of_mem _ hq))
theorem name_zero {x : SIns} : ∀ (fs : List UInt8), (∀ p ∈ partsOf x fs, PartGood p) → nameErr (nameOk x.f4) 0 fs = 0
 | [], _ => rfl
 | c :: fs, h => by
  have hp : partsOf x (c :: fs) = fieldParts x c ++ partsOf x fs := List.flatMap_cons
  rw [hp] at h
  have h1 : nameErr (nameOk x.f4) 0 (c :: fs) = nameErr (nameOk x.f4) (if c = 78 then (if nameOk x.f4 then 0 else keepE 0 80) else 0) fs := rfl
  have h2 : (if c = 78 then (if nameOk x.f4 = true then (0 : Int) else keepE 0 80) else 0) = 0 := by
   by_cases hc : c = 78
   ·subst hc
    have : nameOk x.f4 = true := h (.nm x.f4) (List.mem_append_left _ List.mem_cons_self)
    rw [zC rfl, zC this]
   ·rw [zD hc]
  rw [h1, h2]
  exact name_zero fs (fun p hp => h p (List.mem_append_right _ hp))
theorem told_text {code : Bool} {x : SIns} {B : Nat} (h : Told code x B) (s : List UInt8) : ∃ wd fs, text_of.f x.f0 code = some (x.f0, wd, fs, true) ∧ insText code (s, 0) x = (s ++ lineBytes wd (partsOf x fs.data.toList), 0) := by
 obtain ⟨wd, fs, ho, hg⟩ := h.at_
 refine ⟨wd, fs, ho, ?_⟩
 unfold insText
 rw [ho]
 dsimp only
 rw [name_eq]
 show (_, errsOf (nameErr (nameOk x.f4) 0 _) _) = _
 rw [name_zero _ hg, errs_zero _ hg]
def rawLine (ws : List ByteArray) : List UInt8 := unw (bytesOfL ws) ++ [10]
theorem unw_flat : ∀ (ws : List (List UInt8)) (w : List UInt8), unw (w :: ws) = w ++ ws.flatMap (fun t => 32 :: t)
 | [], w => by simp [unw]
 | v :: ws, w => by
  show w ++ 32 :: unw (v :: ws) = _
  rw [unw_flat ws v, List.flatMap_cons, List.cons_append]
theorem raw_line (wd : ByteArray) (ps : List Part) : rawLine (wd :: ps.map Part.str) = lineBytes wd ps := by
 unfold rawLine
 rw [lineBytes_flat]
 show unw (wd.data.toList :: bytesOfL (ps.map Part.str)) ++ [10] = _
 rw [unw_flat]
 congr 2
 unfold bytesOfL
 rw [List.map_map, List.flatMap_map]
 rfl
theorem lineP_forth {s : PS} {ws : List ByteArray} {hd t : List UInt8} {B : Nat} (hl : (lineP s ws).1 = 0) (ht : blksText s.code (hd, 0) s.blocks = (t, 0)) (hG : ∀ b ∈ s.blocks, ∀ x ∈ b, Told s.code x B) (hw : s.code = true ∨ ws.length ≤ B) :
 blksText s.code (hd, 0) (lineP s ws).2.blocks = (t ++ rawLine ws, 0) ∧ ∀ b ∈ (lineP s ws).2.blocks, ∀ x ∈ b, Told s.code x B := by
 unfold lineP at hl ⊢
 split at hl
 ·exact absurd hl (by show ¬ (80 : Int) = 0; decide)
 ·next w0 rest =>
  try dsimp only at hl ⊢
  by_cases hb : w0.toList = [98, 108, 111, 99, 107] ∧ rest = []
  ·rw [zC hb]
   obtain ⟨hb1, rfl⟩ := hb
   refine ⟨?_, fun b hm => ?_⟩
   ·show blksText s.code (hd, 0) (s.blocks ++ [[]]) = _
    unfold blksText at ht ⊢
    rw [List.foldl_append, ht]
    have e : rawLine [w0] = [98, 108, 111, 99, 107, 10] := by
     show w0.data.toList ++ [10] = _
     rw [← toList_data, hb1]; rfl
    rw [e]
    rfl
   ·rcases List.mem_append.1 hm with hm | hm
    ·exact hG b hm
    ·rw [List.mem_singleton.1 hm]; intro x hx; cases hx
  ·rw [zD hb] at hl ⊢
   cases hby : byOf w0 s.code with
   | none => rw [hby] at hl; exact absurd hl (by show ¬ (80 : Int) = 0; decide)
   | some r =>
    obtain ⟨op, wd, fs⟩ := r
    rw [hby] at hl
    try dsimp only at hl ⊢
    by_cases hbl : s.blocks = []
    ·rw [zC hbl] at hl; exact absurd hl (by show ¬ (80 : Int) = 0; decide)
    ·rw [zD hbl] at hl ⊢
     by_cases hcnt : openF fs = false ∧ rest.length ≠ fs.size ∨ openF fs = true ∧ rest.length + 1 < fs.size
     ·rw [zC hcnt] at hl; exact absurd hl (by show ¬ (80 : Int) = 0; decide)
     ·rw [zD hcnt] at hl ⊢
      by_cases hf : (fillR rest fs.data.toList 0 (insOp op)).1 = 0
      ·rw [zC hf]
       obtain ⟨x, hx⟩ : ∃ x, x = (fillR rest fs.data.toList 0 (insOp op)).2 := ⟨_, rfl⟩
       have hfx : fillR rest fs.data.toList 0 (insOp op) = (0, x) := Prod.ext hf hx.symm
       rw [← hx]
       obtain ⟨j, _, _, h3⟩ := byFrom_some hby
       obtain ⟨k1, _, _, h4, h5⟩ := isBy_some h3
       have k1 : op = j := k1
       subst k1
       have h4 : text_of.f op s.code = some (op, wd, fs, true) := h4
       obtain ⟨-, f1, f2, -, -, -, -, -, -, -, f6⟩ := form_of h4
       obtain ⟨n1, n2, n3⟩ := form_nodup h4
       have hsz : fs.data.toList.length = fs.size := by simp
       obtain ⟨q1, q2, q3, q4⟩ := fill_forth rest fs.data.toList 0 (insOp op) x hfx f1 n1 f2 (fun h7 => by
        have ho : openF fs = false := by
         cases ho : openF fs with
         | false => rfl
         | true => exact absurd (n2 ho) h7
        have : rest.length = fs.size := Classical.byContradiction fun hne => hcnt (.inl ⟨ho, hne⟩)
        omega) rfl
       have q1 : x.f0 = op := q1
       have hwd : w0 = wd := by
        have : (wordR op s.code).toList = w0.toList := h5
        unfold wordR at this
        rw [h4] at this
        exact (toList_inj.1 this).symm
       have hT : Told s.code x B := by
        refine ⟨⟨wd, fs, by rw [q1]; exact h4, q4⟩, ?_⟩
        by_cases h76 : (76 : UInt8) ∈ fs.data.toList
        ·have h1 : (fieldParts x 76).length ≤ (partsOf x fs.data.toList).length := by
          obtain ⟨a, b, e⟩ := List.append_of_mem h76
          unfold partsOf
          rw [e, List.flatMap_append, List.flatMap_cons, List.length_append, List.length_append]
          omega
         have h2 : (fieldParts x 76).length = x.f5.length := by show (x.f5.map Part.num).length = _; rw [List.length_map]
         have h3 := congrArg List.length q3
         rw [List.length_map, List.drop_zero] at h3
         rcases hw with hw | hw
         ·exact absurd h76 (n3 hw)
         ·rw [List.length_cons] at hw
          omega
        ·have h1 := q2 76 h76
         have h2 : x.f5.map Part.num = (insOp op).f5.map Part.num := h1
         have h3 := congrArg List.length h2
         rw [List.length_map, List.length_map] at h3
         have : (insOp op).f5.length = 0 := rfl
         omega
       have hlast : s.blocks.length - 1 < s.blocks.length := by
        have := List.length_pos_iff.2 hbl; omega
       obtain ⟨bs, b, e⟩ : ∃ bs b, s.blocks = bs ++ [b] := ⟨_, _, (List.dropLast_concat_getLast hbl).symm⟩
       have eset : s.blocks.set (s.blocks.length - 1) (s.blocks.getD (s.blocks.length - 1) [] ++ [x]) = bs ++ [b ++ [x]] := by
        have := put_snoc s bs b x e
        exact congrArg PS.blocks this
       refine ⟨?_, fun b' hm y hy => ?_⟩
       ·show blksText s.code (hd, 0) (s.blocks.set (s.blocks.length - 1) (s.blocks.getD (s.blocks.length - 1) [] ++ [x])) = _
        rw [eset]
        rw [e] at ht
        unfold blksText at ht ⊢
        rw [List.foldl_append] at ht ⊢
        have e2 : ∀ z : List UInt8 × Int, [b ++ [x]].foldl (blkText s.code) z = insText s.code ([b].foldl (blkText s.code) z) x := fun z => by
         show (b ++ [x]).foldl (insText s.code) _ = _
         rw [List.foldl_append]
         rfl
        rw [e2, ht]
        obtain ⟨wd2, fs2, hof2, htx⟩ := told_text hT t
        rw [q1, h4] at hof2
        injection hof2 with hof2
        simp only [Prod.mk.injEq] at hof2
        obtain ⟨-, rfl, rfl, -⟩ := hof2
        rw [htx, hwd, ← raw_line, q3, List.drop_zero]
       ·have hm : b' ∈ s.blocks.set (s.blocks.length - 1) (s.blocks.getD (s.blocks.length - 1) [] ++ [x]) := hm
        rw [eset] at hm
        have hGb : ∀ y ∈ b, Told s.code y B := hG b (by rw [e]; simp)
        rcases List.mem_append.1 hm with hm | hm
        ·exact hG b' (by rw [e]; exact List.mem_append_left _ hm) y hy
        ·rw [List.mem_singleton.1 hm] at hy
         rcases List.mem_append.1 hy with hy | hy
         ·exact hGb y hy
         ·rw [List.mem_singleton.1 hy]; exact hT
      ·rw [zD hf] at hl; exact absurd hl hf
theorem cut_forth (s : ByteArray) (hw : wholeB (cutB s).1 = true) : s.data.toList = rawLine (wordsOf (trimB (cutB s).1)) ++ (cutB s).2.data.toList := by
 have e1 : (cutB s).1.data.toList ++ (cutB s).2.data.toList = s.data.toList := by
  unfold cutB
  split
  ·rw [ex_list, ex_list]
   have hz : s.data.toList.length = s.size := by simp
   rw [List.drop_zero, Nat.sub_zero, List.take_of_length_le (l := s.data.toList.drop _) (by rw [List.length_drop]; omega)]
   exact List.take_append_drop _ _
  ·exact List.append_nil _
 have e2 : unw (bytesOfL (wordsOf (trimB (cutB s).1))) = (trimB (cutB s).1).data.toList := by rw [wordsOf_bytes, unw_words]
 have e3 : (trimB (cutB s).1).data.toList ++ [10] = (cutB s).1.data.toList := by
  unfold wholeB Lib.hasSuffix at hw
  show Lib.trimSuffix (cutB s).1.data.toList [10] ++ [10] = _
  obtain ⟨a, ha⟩ := List.isSuffixOf_iff_suffix.1 hw
  unfold Lib.trimSuffix Lib.hasSuffix
  rw [zC hw, ← ha]
  simp
 unfold rawLine
 rw [e2, e3, e1]
theorem parseR_forth {hd : List UInt8} (B : Nat) : ∀ (k n : Nat) (st : PS) (s : ByteArray) (t : List UInt8), n ≠ 0 → s.size < k → st.code = true ∨ s.size + 1 ≤ B → (parseR k n st s).2.1 = 0 → blksText st.code (hd, 0) st.blocks = (t, 0) → (∀ b ∈ st.blocks, ∀ x ∈ b, Told st.code x B) →
 blksText st.code (hd, 0) (parseR k n st s).2.2.blocks = (t ++ s.data.toList, 0) ∧ (∀ b ∈ (parseR k n st s).2.2.blocks, ∀ x ∈ b, Told st.code x B) ∧ (parseR k n st s).2.2.name = st.name ∧ (parseR k n st s).2.2.head = st.head
 | 0, n, st, s, t, hn, hk, hB, h, ht, hG => by omega
 | k + 1, n, st, s, t, hn, hk, hB, h, ht, hG => by
  unfold parseR at h ⊢
  by_cases hz : s.size = 0
  ·rw [zC hz]
   have : s.data.toList = [] := List.eq_nil_of_length_eq_zero (by simpa using hz)
   rw [this, List.append_nil]
   exact ⟨ht, hG, rfl, rfl⟩
  ·rw [zD hz] at h ⊢
   by_cases h0 : (stepP n st (cutB s).1).1 = 0
   ·rw [zC h0] at h ⊢
    have hw : wholeB (cutB s).1 = true := by
     cases hw : wholeB (cutB s).1 with
     | true => rfl
     | false => unfold stepP at h0; rw [zC hw] at h0; exact absurd h0 (by show ¬ (80 : Int) = 0; decide)
    have hwn : ¬ wholeB (cutB s).1 = false := by rw [hw]; decide
    have hst : stepP n st (cutB s).1 = lineP st (wordsOf (trimB (cutB s).1)) := by unfold stepP; rw [zD hwn, zD hn]
    rw [hst] at h0 h ⊢
    have hlen : st.code = true ∨ (wordsOf (trimB (cutB s).1)).length ≤ B := by
     rcases hB with hB | hB
     ·exact .inl hB
     ·have h1 := splitB_lenle (trimB (cutB s).1)
      have h2 := trimB_le (cutB s).1
      have h3 := cutB_le s
      exact .inr (by omega)
    obtain ⟨l1, l2⟩ := lineP_forth h0 ht hG hlen
    have hcl := cutB_less hz
    have hc : (lineP st (wordsOf (trimB (cutB s).1))).2.code = st.code := by
     unfold lineP
     repeat' split
     all_goals rfl
    have hnm : (lineP st (wordsOf (trimB (cutB s).1))).2.name = st.name := by
     unfold lineP
     repeat' split
     all_goals rfl
    rw [← hc] at l1 l2
    obtain ⟨r1, r2, r3, r4⟩ := parseR_forth B k (n + 1) _ (cutB s).2 _ (Nat.succ_ne_zero n) (by omega) (by rw [hc]; exact hB.imp id (fun h => by omega)) h l1 l2
    rw [hc] at r1 r2
    refine ⟨?_, r2, r3.trans hnm, r4.trans (lineP_head _ _)⟩
    rw [r1, cut_forth s hw, List.append_assoc]
   ·rw [zD h0] at h; exact absurd h h0
theorem parseAll_forth {s : ByteArray} {B : Nat} (hB : s.size + 1 ≤ B) (h : (parseAll psFunc s).2.1 = 0) :
 ∃ (nm : ByteArray) (a b : Int) (l : List (List SIns)), (parseAll psFunc s).2.2.name = nm ∧ (parseAll psFunc s).2.2.head = [a, b] ∧ (parseAll psFunc s).2.2.blocks = l ∧ nameOk nm = true ∧ good a = true ∧ good b = true ∧ (∀ xs ∈ l, ∀ x ∈ xs, Told false x B) ∧ printS nm a b l = (s.data.toList, 0) := by
 unfold parseAll at h ⊢
 by_cases hz : s.size = 0
 ·rw [zC hz] at h; exact absurd h (by show ¬ (80 : Int) = 0; decide)
 rw [zD hz] at h ⊢
 unfold parseR at h ⊢
 rw [zD hz] at h ⊢
 by_cases h0 : (stepP 0 psFunc (cutB s).1).1 = 0
 ·rw [zC h0] at h ⊢
  have hw : wholeB (cutB s).1 = true := by
   cases hw : wholeB (cutB s).1 with
   | true => rfl
   | false => unfold stepP at h0; rw [zC hw] at h0; exact absurd h0 (by show ¬ (80 : Int) = 0; decide)
  have hwn : ¬ wholeB (cutB s).1 = false := by rw [hw]; decide
  have hst : stepP 0 psFunc (cutB s).1 = topP psFunc (wordsOf (trimB (cutB s).1)) := by unfold stepP; rw [zD hwn, zC rfl]
  rw [hst] at h0 h ⊢
  obtain ⟨w0, w1, rest, hws, e0, hlen, hnm⟩ : ∃ w0 w1 rest, wordsOf (trimB (cutB s).1) = w0 :: w1 :: rest ∧ w0.toList = psFunc.first.toList ∧ ((rest.length + 2 : Nat) : Int) = psFunc.heads + 2 ∧ nameOk w1 = true := by
   unfold topP at h0
   split at h0
   ·next w0 w1 rest he =>
    split at h0
    ·next hc => exact ⟨w0, w1, rest, he, hc.1, hc.2.1, hc.2.2⟩
    ·exact absurd h0 (by show ¬ (80 : Int) = 0; decide)
   ·exact absurd h0 (by show ¬ (80 : Int) = 0; decide)
  have htop : topP psFunc (w0 :: w1 :: rest) = (match rest.mapM numOf with | some l => (0, { psFunc with name := w1, head := l }) | none => (81, psFunc)) := zC ⟨e0, hlen, hnm⟩
  rw [hws, htop] at h0 h ⊢
  cases hm : rest.mapM numOf with
  | none => rw [hm] at h0; exact absurd h0 (by show ¬ (81 : Int) = 0; decide)
  | some l =>
   rw [hm] at h
   try dsimp only at h ⊢
   have hll := mapM_len hm
   have h2 : rest.length = 2 := by have : psFunc.heads = 2 := rfl; omega
   match l, (show l.length = 2 by omega) with
   | [a, b], _ =>
    obtain ⟨g1, g2⟩ := nums_back _ _ hm
    have ga := g2 a (by simp)
    have gb := g2 b (by simp)
    have hhd : printHead w1 a b = (rawLine (w0 :: w1 :: rest), 0) := by
     unfold printHead
     rw [name_eq]
     have hpg : ∀ p ∈ [Part.nm w1, .num a, .num b], PartGood p := fun p hp => by
      simp only [List.mem_cons, List.not_mem_nil, or_false] at hp
      rcases hp with rfl | rfl | rfl
      ·exact hnm
      ·exact ga
      ·exact gb
     rw [hnm]
     dsimp only [Option.getD_some]
     rw [zC rfl, errs_zero _ hpg, ← raw_line]
     have ew : (⟨#[102, 117, 110, 99]⟩ : ByteArray) = w0 := (toList_inj.1 e0).symm
     have es : [Part.nm w1, Part.num a, Part.num b].map Part.str = w1 :: rest := by
      rw [← g1]; rfl
     rw [es, ew]
    have hcl := cutB_less hz
    obtain ⟨r1, r2, r3, r4⟩ := parseR_forth (hd := rawLine (w0 :: w1 :: rest)) B s.size (0 + 1) { psFunc with name := w1, head := [a, b] } (cutB s).2 (rawLine (w0 :: w1 :: rest)) (by decide) hcl (.inr (by omega)) h rfl (fun b hb => by cases hb)
    refine ⟨w1, a, b, _, r3, r4, rfl, hnm, ga, gb, r2, ?_⟩
    unfold printS
    rw [hhd]
    refine r1.trans ?_
    rw [← hws, ← cut_forth s hw]
 ·rw [zD h0] at h; exact absurd h h0
theorem part_ok {p : Part} (h : PartGood p) : partOkB p = true := by
 cases p with
 | num n =>
  have hg : 0 ≤ n ∧ n < 2147483648 := by have h : good n = true := h; simpa [good] using h
  exact zF (show -9223372036854775808 ≤ n ∧ n ≤ 9223372036854775807 by omega)
 | nm s => rfl
theorem told_ok {code : Bool} {x : SIns} {B : Nat} (h : Told code x B) (hB : B ≤ 9000) : insOkB code x = true := by
 obtain ⟨wd, fs, ho, hg⟩ := h.at_
 have h5 := h.len
 obtain ⟨-, f1, f2, f3, f4, f5, f7, f8, -, -, f6⟩ := form_of ho
 have h1 := flat_small _ hg
 have h2 := parts_most x _ f1 f2
 have hsz : fs.data.toList.length = fs.size := by simp
 have hwz : wd.data.toList.length = wd.size := by simp
 unfold insOkB
 rw [ho]
 simp only [Bool.and_eq_true, decide_eq_true_eq]
 rw [name_eq, lineBytes_flat, List.length_append, List.length_append, List.length_singleton, hwz]
 refine ⟨⟨⟨⟨⟨List.all_eq_true.2 fun b hbm => zF (f1 b hbm), List.all_eq_true.2 fun p hp => part_ok (hg p hp)⟩, by omega⟩, by omega⟩, rfl⟩, by omega⟩
end Go.Proofs.YtniknpjeknmpjaaGreatDoor.PlainText
namespace Go.Proofs.YtniknpjeknmpjaaGreatDoor.RTextOne.Pure
open Go Go.RowKit Go.Proofs.YtniknpjeknmpjaaGreatDoorW.PrintWords Go.Proofs.YtniknpjeknmpjaaGreatDoorW.PrintMore Go.Proofs.YtniknpjeknmpjaaGreatDoor.Q Go.Proofs.YtniknpjeknmpjaaGreatDoor.Plain Go.Proofs.YtniknpjeknmpjaaGreatDoor.PlainNum Go.Proofs.YtniknpjeknmpjaaGreatDoor.PlainName Go.Proofs.YtniknpjeknmpjaaGreatDoor.PlainText
set_option linter.unusedVariables false
set_option linter.unusedSimpArgs false
theorem empty_print : ∃ r, text_Print.f (⟨#[]⟩ : ByteArray) 0 0 [] = some r :=
 ⟨_, print_eq (a0 := ⟨#[]⟩) (a1 := 0) (a2 := 0) (l := []) (by decide) (by omega) (by omega) ⟨by simp, by simp [total], fun xs h => by cases h⟩⟩
theorem one (s : ByteArray) (hs : s.size ≤ 4096) : ∃ V, text_Parse.f s = some V ∧ (V.2.2.2.2.2 = 0 → text_Print.f V.1 V.2.1 V.2.2.1 V.2.2.2.1 = some (s, 0)) ∧ ∃ r, text_Print.f V.1 V.2.1 V.2.2.1 V.2.2.2.1 = some r := by
 by_cases h : (parseAll psFunc s).2.1 = 0
 ·obtain ⟨nm, a, b, l, e1, e2, e3, hn, ga, gb, hT, hp⟩ := parseAll_forth (B := 4097) (by omega) h
  have hV : text_Parse.f s = some (nm, a, b, l, 0, 0) := by
   unfold text_Parse.f
   rw [zC (by omega), zC h, e1, e2, e3]
   rfl
  have ho : printOkB nm a b l = true := by
   unfold printOkB
   rw [name_eq, hp]
   have hz : s.data.toList.length = s.size := by simp
   simp only [Bool.and_eq_true, decide_eq_true_eq]
   rw [hz]
   exact ⟨⟨⟨⟨rfl, part_ok (p := .num a) ga⟩, part_ok (p := .num b) gb⟩, List.all_eq_true.2 fun xs hx => List.all_eq_true.2 fun x hy => told_ok (hT xs hx x hy) (by omega)⟩, by omega⟩
  have hPr : text_Print.f nm a b l = some (s, 0) := by
   unfold text_Print.f
   rw [zC ho, hp]
   rfl
  exact ⟨_, hV, fun _ => hPr, _, hPr⟩
 ·have hV : text_Parse.f s = some (⟨#[]⟩, 0, 0, [], (parseAll psFunc s).1, (parseAll psFunc s).2.1) := by
   unfold text_Parse.f
   rw [zC (by omega), zD h]
  exact ⟨_, hV, fun e => absurd e h, empty_print⟩
theorem TextOne : TextOne.Pure := by
 intro a0 h0
 unfold cubbylaw08_TextOne.f
 by_cases hz : (a0.size : Int) > 4096
 ·exact zC hz
 ·rw [zD hz]
  obtain ⟨V, hV, hp, r, hr⟩ := one a0 (by omega)
  rw [hV, show cubbyref08_Parse.f a0 = some V from hV]
  simp only [zJ, if_true]
  by_cases h : V.2.2.2.2.2 = 0
  ·rw [hp h]
   simp only [zJ, zC h, if_true]
   simp
  ·rw [hr]
   simp only [zJ, zD h]
end Go.Proofs.YtniknpjeknmpjaaGreatDoor.RTextOne.Pure
namespace Go.Proofs.YtniknpjeknmpjaaGreatDoor.RTextOne
open Go.ChangeShapes Go.WideShapes Go.ChangeAt
open Go.ChangeMaps (open_string shut_string)
open Go Go.RowKit Go.Proofs.YtniknpjeknmpjaaGreatDoorW.PrintWords Go.Proofs.YtniknpjeknmpjaaGreatDoorW.PrintLast Go.Proofs.YtniknpjeknmpjaaGreatDoorW.PrintMore Go.Proofs.YtniknpjeknmpjaaGreatDoor.Q Go.Proofs.YtniknpjeknmpjaaGreatDoor.Open
set_option linter.unusedVariables false
theorem own : ownKnob Tryz.prog.godebug = none := by kernel_rfl
theorem laidOut : laidOutB Tryz.prog = true := by kernel_rfl
set_option maxRecDepth 100000 in
theorem lifted (os : Os) (started : os.Started) (H : Type) (enc : TypeId × Value → H) :
 ReturnsInHanded {} Tryz.checked os 5 .any (fun w args => (Rows.textOneSpec.pre enc Tryz.prog Tryz.f5 [] false w args ∧ laidMetH Tryz.prog Rows.textOneRow.laid w) ∧ sizedMet enc Tryz.prog Tryz.f5 (OpenSpec.ofChange Rows.textOneSpec) false w args) (Rows.textOneSpec.post enc Tryz.prog Tryz.f5 false true false false) := by
 refine returnsInHanded_of_change_and (C := Tryz.checked) (X := fun w _ => laidMetH Tryz.prog Rows.textOneRow.laid w) (fun _ _ _ hh h => h.of_heap hh) own started (by kernel_rfl) Tryz.func5
  (ChangeSpec.witness_shaped (enc := enc) (C := Tryz.checked) (os := os) (X := fun w _ => laidMetH Tryz.prog Rows.textOneRow.laid w) false (World.laidAll Tryz.prog os Rows.textOneRow.laid) #[.string ByteArray.empty] 8 (World.laidAll_os _ _ _)
    (World.shaped_of_ZipB (by kernel_rfl) (by kernel_rfl)) (by kernel_rfl) (by kernel_rfl) (by kernel_rfl)
    (by rw [MakeChecks.laidMetH_plain _ _ _ (by kernel_rfl)]; exact laidMet_laidAll _ (by kernel_rfl) (by kernel_rfl))) ?_
 intro W base args ds gs before hval0 hW hcnd hsz0 hL0 _
 rw [MakeChecks.laidMetH_plain _ _ _ (by kernel_rfl)] at hL0
 have LAIDF : LaidW W := LaidW.of_met (show laidMet Tryz.prog laidList W from hL0)
 have hsz : (DataW.weightsEach Tryz.prog (Tryz.f5.params.toList ++ Rows.textOneSpec.plain.varTypes Tryz.prog) (ds ++ gs)).all (· ≤ reachBytes) = true := hsz0
 have hval : ∀ (j : Nat) t v, Tryz.f5.params[j]? = some t → args[j]? = some v → Value.okWide Tryz.prog W .any base t v := hval0
 have hW' := hW
 obtain ⟨p, q, hA0, hV, rfl, hfz, hnd⟩ := hW
 have hA : DataW.TrodAll enc Tryz.prog W 0 (fun _ => true) true Tryz.f5.params.toList args.toList ds p := hA0
 rw [Tryz.params5] at hA hval hsz
 obtain ⟨v0, vs0, d0, ds0, p0, q0, hargs, rfl, rfl, h0, r0⟩ := trodAll_cons hA
 obtain ⟨rfl, rfl, rfl⟩ := trodAll_nil r0
 obtain rfl : args = #[v0] := by cases args; simp_all
 obtain ⟨rfl, rfl⟩ := trodVars_none hV
 have lt0 : ∀ x ∈ p0, x.block < W.heap.size := by obtain ⟨m, hm⟩ := h0; exact DataW.trod_lt m _ _ _ hm
 obtain ⟨a0, rfl, rfl, rfl, w0⟩ := open_string Tryz.underlying9 (hval 0 9 v0 rfl rfl) h0
 have g0 : a0.size ≤ 140737488351232 := by
  have z := sized_string hsz (j := 0) (t := 9) rfl rfl
  rw [Array.length_toList] at z
  exact z
 clear hA0 hval0 hsz0 hsz
 have hf := Pure.TextOne a0 g0
 refine (Q.cubbylaw08_TextOne.calls a0 true W LAIDF rfl  hf).mono ?_
 rintro e W' ⟨rfl, hd⟩
 have bel : Below W.heap.size W W' := hd
 exact ⟨_, rfl, _, _, _, [], _, [], hW', trodAll_mk1 (shut_bool Tryz.underlying4 _), (trodAll_cons_mk (Below.trod laidOut (by kernel_rfl) (zB (by kernel_rfl)) h0 bel lt0) trodAll_mk0), rfl, bel.frame _, fun h => by cases h⟩
theorem over : Rows.textOneRow.holds Tryz.pinned (OpenSpec.ofChange Rows.textOneSpec) :=
 OpenClaim.holds_of_wide 5 Tryz.f5 rfl rfl rfl rfl rfl rfl rfl ⟨rfl, rfl, rfl, rfl, rfl⟩ rfl rfl rfl rfl rfl (by kernel_rfl) Tryz.func5 (by kernel_rfl)
  (zB (by kernel_rfl)) (by unfold Func.isWrapper; first | (rw [zC (by decide +kernel)]; kernel_rfl) | (rw [zD (by decide +kernel)]; exact ⟨rfl, rfl⟩))
  (fun os started H enc _ => lifted os started H enc)
end Go.Proofs.YtniknpjeknmpjaaGreatDoor.RTextOne
namespace Go.Proofs.YtniknpjeknmpjaaGreatDoor
theorem textOne_holds : Rows.TextOneSaid := RTextOne.over
theorem textOne_card : Rows.TextOneCardSaid :=
 Claim7.holds_tied_plain_at .later [] [.data, .data, .data, .data, .sentinel, .sentinel, .pinned] true (true, "28e4f1c8989f8f4d08a0e5dcb87c6a5c8c7849d6e3bc898c2b42379bb70cfe4a") true textOne_holds (fun _ h => by cases h) (by kernel_rfl) (fun _ h => by cases h) textOne_row_tie rfl ⟨rfl, rfl⟩ (by kernel_rfl) rfl
  (fun f fn hf hfn => by
    obtain rfl : f = 5 := zI ((show Tryz.prog.funcNamed "cubby/cubbylaw08.TextOne" = some 5 by kernel_rfl).symm.trans hf) |>.symm
    obtain rfl : fn = Tryz.f5 := (zI (Tryz.func5.symm.trans hfn)).symm
    exact ⟨by kernel_rfl, fun j t ht => by
     rw [Tryz.params5] at ht
     have hm : t ∈ [9] := by simpa using Array.mem_of_getElem? ht
     have hall : ([9].all fun u => !Tryz.prog.wantsStandIn u) = true := by kernel_rfl
     exact (show Tryz.prog.wantsStandIn t = false by simpa using List.all_eq_true.1 hall t hm)⟩)
  (by kernel_rfl)
#print axioms textOne_card
end Go.Proofs.YtniknpjeknmpjaaGreatDoor
