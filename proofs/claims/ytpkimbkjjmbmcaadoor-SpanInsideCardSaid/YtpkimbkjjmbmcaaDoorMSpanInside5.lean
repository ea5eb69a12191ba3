/- SpanInside: parts of the proofs, put together. -/
import Derived.OpenShut
import Derived.Laws.BitsAllLaws
import Derived.Lib.TrailingZeros
import Derived.Test.YtpkimbkjjmbmcaaDoorMSpanInside1
import Derived.Test.YtpkimbkjjmbmcaaDoorMSpanInside2
import Derived.Test.YtpkimbkjjmbmcaaDoorMSpanInside3
import Derived.Test.YtpkimbkjjmbmcaaDoorMSpanInside4
namespace Go.Proofs.YtpkimbkjjmbmcaaDoor.Q
open Go.RowKit Go.Proofs.YtpkimbkjjmbmcaaDoorW.PrintWords Go.Proofs.YtpkimbkjjmbmcaaDoorW.PrintLast Go.Proofs.YtpkimbkjjmbmcaaDoorW.PrintMore
set_option linter.unusedVariables false
set_option linter.unusedSimpArgs false

structure EachCb {σ : Type} (w0 : World) (St : σ → World → Prop) (May : Nat → Prop) (fb : Nat → Int → List Int → σ → Option σ) (fi : Nat → Int → SIns → List Int → σ → Option σ) (kb ki : FuncId) (cb ci : Array Value) : Prop where
  below : ∀ s w, St s w → Below w0.heap.size w0 w
  step : ∀ s w w1, St s w → Below w.heap.size w w1 → St s w1
  bfn : ∃ fn, Tryd.prog.funcs[kb]? = some fn ∧ (fn.name == "runtime.NumGoroutine") = false ∧ fn.body.isSome = true
  ifn : ∃ fn, Tryd.prog.funcs[ki]? = some fn ∧ (fn.name == "runtime.NumGoroutine") = false ∧ fn.body.isSome = true
  block : ∀ k n l A c s s' w, fb k n l s = some s' → St s w → Kd.F (Kd.int .i64) w (fun q => ¬ May q) A l.length l → l.length ≤ c →
    Calls Tryd.prog kb (#[.int .i64 n, .slice A l.length c] ++ cb) w fun e w' => e = .returned (.tuple #[]) ∧ St s' w' ∧ Kept w w' May
  ins : ∀ k n (x : SIns) A5 c5 l A c s s' w, fi k n x l s = some s' → St s w → Kd.F (Kd.int .i64) w (fun q => ¬ May q) A5 x.f5.length x.f5 → x.f5.length ≤ c5 → Kd.F (Kd.int .i64) w (fun q => ¬ May q) A l.length l → l.length ≤ c →
    Calls Tryd.prog ki (#[.int .i64 n, .agg #[.int .i64 x.f0, .int .i64 x.f1, .int .i64 x.f2, .int .i64 x.f3, .string x.f4, .slice A5 x.f5.length c5], .slice A l.length c] ++ ci) w fun e w' => e = .returned (.tuple #[]) ∧ St s' w' ∧ Kept w w' May

mutual
def span_each.l0 {σ : Type} (fb : Nat → Int → List Int → σ → Option σ) (fi : Nat → Int → SIns → List Int → σ → Option σ) : Nat → ByteArray → Int → Int → List (List SIns) → List (List Int) → List Int → Int → Int → σ → Option σ
  | 0, _, _, _, _, _, _, _, _, _ => none
  | k + 1, a0, a1, a2, l3, inn, ord, n, j, s =>
    if j < (ord.length : Int) then
      if 0 ≤ j then
        if 0 ≤ rd ord j then
          if rd ord j < (inn.length : Int) then
            if rd ord j < (l3.length : Int) then
              (fb k (wrap64 (n + 1)) (rd_LInt inn (rd ord j)) s).bind fun s1 => span_each.l1 fb fi k a0 a1 a2 l3 inn ord n (rd ord j) j 0 s1
            else none
          else none
        else none
      else none
    else some s
def span_each.l1 {σ : Type} (fb : Nat → Int → List Int → σ → Option σ) (fi : Nat → Int → SIns → List Int → σ → Option σ) : Nat → ByteArray → Int → Int → List (List SIns) → List (List Int) → List Int → Int → Int → Int → Int → σ → Option σ
  | 0, _, _, _, _, _, _, _, _, _, _, _ => none
  | k + 1, a0, a1, a2, l3, inn, ord, n, b, j, i, s =>
    if i < ((rd_LIns l3 b).length : Int) then
      if 0 ≤ i then
        (live_Ahead.f k a0 a1 a2 l3 b (wrap64 (i + 1))).bind fun bh => (fi k (wrap64 (n + 1)) (rd_TIns (rd_LIns l3 b) i) bh s).bind fun s1 => span_each.l1 fb fi k a0 a1 a2 l3 inn ord (wrap64 (n + 1)) b j (wrap64 (i + 1)) s1
      else none
    else span_each.l0 fb fi k a0 a1 a2 l3 inn ord n (wrap64 (j + 1)) s
end
def span_each.f {σ : Type} (fb : Nat → Int → List Int → σ → Option σ) (fi : Nat → Int → SIns → List Int → σ → Option σ) (k : Nat) (a0 : ByteArray) (a1 a2 : Int) (l3 : List (List SIns)) (s : σ) : Option σ :=
  (live_In.f k a0 a1 a2 l3).bind fun inn => (flow_Order.f k l3).bind fun ord => span_each.l0 fb fi k a0 a1 a2 l3 inn ord 0 0 s
def span_each.T11 : Bool × List (List Nat × List Nat) := (true, [([], []), ([], []), ([], []), ([], []), ([], []), ([], []), ([5], [5]), ([3, 4, 6], [3, 4, 6]), ([0, 1, 2, 7, 7], [0, 1, 2, 7])])
def span_each.B11 : List Nat := [0, 0, 0, 0, 0, 0, 32, 120, 255]
theorem span_each.tab11 : rtab .any (opsOf Tryd.f43 11) = span_each.T11 := by kernel_rfl
theorem span_each.bits11 : waitsOk span_each.T11.2 span_each.B11 = true := by kernel_rfl

set_option maxHeartbeats 8000000 in
set_option maxRecDepth 100000 in
theorem span_each.calls {σ : Type} {St : σ → World → Prop} {May : Nat → Prop} {fb : Nat → Int → List Int → σ → Option σ} {fi : Nat → Int → SIns → List Int → σ → Option σ} {kb ki : FuncId} {cb ci : Array Value} {w0 : World} (hcb : EachCb w0 St May fb fi kb ki cb ci)
    (k : Nat) (a0 : ByteArray) (a1 a2 : Int) (A3 : Option Addr) (c3 : Nat) (l3 : List (List SIns)) (s s' : σ) (w : World) (hL : LaidW w0) (hr : Kd.C (Kd.slice 38 kIns) w0 A3 l3.length l3) (hc : l3.length ≤ c3)
    (hm0 : ∀ q, May q → w0.heap.size ≤ q) (hm1 : ∀ q, May q → q < w.heap.size) (h : span_each.f fb fi k a0 a1 a2 l3 s = some s') (hs : St s w) :
    Calls Tryd.prog 43 #[.agg #[.string a0, .int .i64 a1, .int .i64 a2, .slice A3 l3.length c3], .func (.func kb) #[] cb, .func (.func ki) #[] ci] w
      fun e w' => e = .returned (.tuple #[]) ∧ St s' w' ∧ Kept w w' May := by
  have CB := Aside0.mk hcb
  have HR := Aside0.mk hr
  have HC := Aside0.mk hc
  have HLd := Aside0.mk hL
  have HM0 := Aside0.mk hm0
  have HM1 := Aside0.mk hm1
  have HS := Aside0.mk hs
  have HK := Aside0.mk (Kept.refl w May)
  have H := h
  clear hcb hr hc hL hm0 hm1 hs h
  unfold span_each.f at H
  replace H := qb H; obtain ⟨inn, A1, H⟩ := H
  replace H := qb H; obtain ⟨ord, A2, H⟩ := H
  have H' := Aside0.mk H
  clear H
  have hu24 := Tryd.underlying24
  have hu38 := Tryd.underlying38
  go_enter Tryd.func43, Tryd.ntmps43
  go_wp2_with (first
    | ((with_reducible refine gate_dst (N := 3) rfl ?_); refine box_event (by rfl) (N := 3) (by rfl) (cs := #[.string a0, .int .i64 a1, .int .i64 a2, .slice A3 l3.length c3]) (t := 24) ?hr ?_; (case hr => first | (go_simp; done) | (go_simp; rfl)); intro gf hg w1 hbox hb; have BF := Aside0.mk hbox; have GF := Aside0.mk (show ¬ May gf from fun e_ => by have := HM1.out gf e_; omega); replace HS := Aside0.mk (CB.out.step _ _ _ HS.out hb); replace HK := Aside0.mk (Kept.below HK.out hb); have SZ := Aside0.mk (show w.heap.size ≤ w1.heap.size from hb.size); clear hb hbox hg; have z1 := bk4 BF.out)
    | ((with_reducible refine gate_callee (f := 83) rfl ?_); refine goesL_ (some 13) rfl rfl Tryd.func83 (by kernel_rfl) rfl #[.agg #[.string a0, .int .i64 a1, .int .i64 a2, .slice A3 l3.length c3]] rfl qL ?_; (with_reducible refine (live_In.calls k a0 a1 a2 _ _ l3 inn _ ?side1 ?side2 A1.out (hL := ?side99)).mono ?_); (case side1 => exact Kd.C_below HR.out (CB.out.below _ _ HS.out)); (case side2 => exact HC.out); (case side99 => exact LaidW.below HLd.out (CB.out.below _ _ HS.out)); rintro e w2 ⟨v0, rfl, ho, hb⟩; refine ⟨_, rfl, ?_⟩; obtain ⟨Ai, ci_, ei⟩ := Kd.S_slice ho; subst ei; have HI := Aside0.mk (Kd.F_mono (Kd.S_F (Kd.S_bound ho)) (fun q hq => fun e_ => by have := HM1.out q e_; have := SZ.out; omega : ∀ q, _ → ¬ May q)); replace HS := Aside0.mk (CB.out.step _ _ _ HS.out hb); replace HK := Aside0.mk (Kept.below HK.out hb); replace BF := Aside0.mk (blk_below BF.out hb); replace SZ := Aside0.mk (Nat.le_trans SZ.out hb.size); clear z1 hb ho A1; have z1 := bk4 BF.out)
    | ((with_reducible refine gate_callee (f := 40) rfl ?_); refine goesL_ (some 16) rfl rfl Tryd.func40 (by kernel_rfl) rfl #[.slice A3 l3.length c3] rfl qL ?_; (with_reducible refine (flow_Order.calls k _ _ l3 ord _ ?side1 ?side2 A2.out).mono ?_); (case side1 => exact Kd.C_below HR.out (CB.out.below _ _ HS.out)); (case side2 => exact HC.out); rintro e w3 ⟨v0, rfl, ho, hb⟩; refine ⟨_, rfl, ?_⟩; obtain ⟨Ao, co, eo⟩ := Kd.R_slice ho; subst eo; have HO := Aside0.mk (Kd.F_mono (Kd.R_F (Kd.R_bound ho)) (fun q hq => fun e_ => by have := HM1.out q e_; have := SZ.out; omega : ∀ q, _ → ¬ May q)); replace HI := Aside0.mk (Kd.F_below HI.out hb); replace HS := Aside0.mk (CB.out.step _ _ _ HS.out hb); replace HK := Aside0.mk (Kept.below HK.out hb); replace BF := Aside0.mk (blk_below BF.out hb); replace SZ := Aside0.mk (Nat.le_trans SZ.out hb.size); clear z1 hb ho A2; have z1 := bk4 BF.out))
  go_loopg [6, 18] k (fun kq v6 v18 w' => ∃ (n j : Int) (s1 : σ), v6 = .int .i64 n ∧ v18 = .int .i64 j ∧ Aside0 (span_each.l0 fb fi kq a0 a1 a2 l3 inn ord n j s1 = some s') ∧ Aside0 (kq ≤ k) ∧ Aside0 (St s1 w') ∧ Aside0 (Kd.F (Kd.slice 3 (Kd.int .i64)) w' (fun q => ¬ May q) Ai inn.length inn) ∧ Aside0 (Kd.F (Kd.int .i64) w' (fun q => ¬ May q) Ao ord.length ord) ∧ Aside0 (w'.heap[gf]? = some (.cells #[.string a0, .int .i64 a1, .int .i64 a2, .slice A3 l3.length c3] 24 (0, 0))) ∧ Aside0 (Kept w w' May) ∧ Aside0 (w.heap.size ≤ w'.heap.size))
  case atStart => exact ⟨0, 0, s, by first | rfl | simp, by first | rfl | simp, H', ⟨Nat.le_refl _⟩, HS, HI, HO, BF, HK, SZ⟩
  case round =>
    clear H' HS HI HO BF HK SZ z1
    obtain ⟨n, j, s1, rfl, rfl, HA, HK1, HS, HI, HO, BF, HK, SZ⟩ := hrel
    cases gk with
    | zero => exact absurd HA.out (by simp [span_each.l0])
    | succ k1 =>
      have H := HA.out
      clear HA
      simp only [span_each.l0] at H
      by_cases c4 : j < (ord.length : Int)
      · rw [if_pos c4] at H
        have c4b0 : decide (j < (ord.length : Int)) = true := decide_eq_true c4
        by_cases c5 : ¬ 0 ≤ j
        · rw [if_neg c5] at H
          exact absurd H (by simp)
        replace c5 := Decidable.not_not.1 c5
        rw [if_pos c5] at H
        by_cases c6 : ¬ 0 ≤ rd ord j
        · rw [if_neg c6] at H
          exact absurd H (by simp)
        replace c6 := Decidable.not_not.1 c6
        rw [if_pos c6] at H
        by_cases c7 : ¬ rd ord j < (inn.length : Int)
        · rw [if_neg c7] at H
          exact absurd H (by simp)
        replace c7 := Decidable.not_not.1 c7
        rw [if_pos c7] at H
        by_cases c8 : ¬ rd ord j < (l3.length : Int)
        · rw [if_neg c8] at H
          exact absurd H (by simp)
        replace c8 := Decidable.not_not.1 c8
        rw [if_pos c8] at H
        replace H := qb H; obtain ⟨s2, B1, H⟩ := H
        have H' := Aside0.mk H
        clear H
        obtain ⟨ad, ea, hx1⟩ := Kd.at_int (Kd.F_now HO.out) j c5 c4
        cases ea
        generalize hbb : rd ord j = b at c6 c7 c8 B1 H' hx1
        obtain ⟨adi, ce, ei, hcl, hfk, hcc, -⟩ := Kd.F_get HI.out [] b c6 c7
        cases ei
        obtain ⟨Ab, cb_, rfl, hlb, hFb⟩ := Kd.FK_slice_open hfk
        have hx2 : wr.cell? (adi.add (b.toNat * 1 + 0)) = some _ := hcc 0 _ rfl
        rw [Nat.mul_one, Nat.add_zero] at hx2
        have HFb := Aside0.mk (show Kd.F (Kd.int .i64) wr (fun q => ¬ May q) Ab (rd_LInt inn b).length (rd_LInt inn b) from hFb)
        have HLb := Aside0.mk (show (rd_LInt inn b).length ≤ cb_ from hlb)
        replace hx2 : wr.cell? (adi.add b.toNat) = some (.slice Ab (rd_LInt inn b).length cb_) := hx2
        clear hcl hfk hcc hFb hlb
        have z1 := bk4 BF.out
        obtain ⟨fnb, hf1, hf2, hf3⟩ := CB.out.bfn
        obtain ⟨fni, hi1, hi2, hi3⟩ := CB.out.ifn
        have HFN := Aside0.mk (And.intro hf1 (And.intro hf2 hf3))
        have HIN := Aside0.mk (And.intro hi1 (And.intro hi2 hi3))
        clear hf1 hf2 hf3 hi1 hi2 hi3
        go_wp2_with (refine goesLV_ (some 29) rfl rfl HFN.out.1 HFN.out.2.1 HFN.out.2.2 cb (#[.int .i64 (wrap64 (n + 1)), .slice Ab (rd_LInt inn b).length cb_] ++ cb) rfl rfl qLV ?_; refine (CB.out.block k1 (wrap64 (n + 1)) (rd_LInt inn b) Ab cb_ s1 s2 _ B1.out HS.out HFb.out HLb.out).mono ?_; rintro e w4 ⟨rfl, hs4, hk4⟩; refine ⟨_, rfl, ?_⟩; replace HS := Aside0.mk hs4; replace HI := Aside0.mk (Kd.F_kept HI.out hk4 (fun k hk => hk)); replace HO := Aside0.mk (Kd.F_kept HO.out hk4 (fun k hk => hk)); replace BF := Aside0.mk (blk_kept BF.out hk4 GF.out); replace HK := Aside0.mk (Kept.then_ HK.out hk4 (fun k hk => .inl hk)); replace SZ := Aside0.mk (Nat.le_trans SZ.out hk4.1); clear hs4 hk4 z1 hx1 hx2; have z1 := bk4 BF.out; obtain ⟨adr, Ar, cr, er, hx3, hlr, hir⟩ := at_LIns HR.out b c6 c8; cases er; replace hx3 := ((CB.out.below _ _ HS.out).cell (World.block_lt_of_cell? w0 _ hx3)).trans hx3; have HRr := Aside0.mk hir; have HLr := Aside0.mk hlr; clear hir hlr)
        go_loopg [6, 36] k1 (fun kq v6 v36 w' => ∃ (n1 i : Int) (s3 : σ), v6 = .int .i64 n1 ∧ v36 = .int .i64 i ∧ Aside0 (span_each.l1 fb fi kq a0 a1 a2 l3 inn ord n1 b j i s3 = some s') ∧ Aside0 (kq ≤ k1) ∧ Aside0 (St s3 w') ∧ Aside0 (Kd.F (Kd.slice 3 (Kd.int .i64)) w' (fun q => ¬ May q) (some adi) inn.length inn) ∧ Aside0 (Kd.F (Kd.int .i64) w' (fun q => ¬ May q) (some ad) ord.length ord) ∧ Aside0 (w'.heap[gf]? = some (.cells #[.string a0, .int .i64 a1, .int .i64 a2, .slice (some adr) l3.length c3] 24 (0, 0))) ∧ Aside0 (Kept w w' May) ∧ Aside0 (w.heap.size ≤ w'.heap.size))
        case atStart => exact ⟨n, 0, s2, by first | rfl | simp, by first | rfl | simp, H', ⟨Nat.le_refl _⟩, HS, HI, HO, BF, HK, SZ⟩
        case round =>
          clear H' HS HI HO BF HK SZ z1 hx3
          obtain ⟨n1, i, s3, rfl, rfl, HA, HK2, HS, HI, HO, BF, HK, SZ⟩ := hrel
          cases gk with
          | zero => exact absurd HA.out (by simp [span_each.l1])
          | succ k2 =>
            have H := HA.out
            clear HA
            simp only [span_each.l1] at H
            by_cases c9 : i < ((rd_LIns l3 b).length : Int)
            · rw [if_pos c9] at H
              have c9b0 : decide (i < ((rd_LIns l3 b).length : Int)) = true := decide_eq_true c9
              by_cases c10 : ¬ 0 ≤ i
              · rw [if_neg c10] at H
                exact absurd H (by simp)
              replace c10 := Decidable.not_not.1 c10
              rw [if_pos c10] at H
              replace H := qb H; obtain ⟨bh, B2, H⟩ := H
              replace H := qb H; obtain ⟨s4, B3, H⟩ := H
              have H' := Aside0.mk H
              clear H
              obtain ⟨adx, A5, c5, ex, hy0, hy1, hy2, hy3, hy4, hy5, hl5, hi5⟩ := at_TIns HRr.out i c10 c9
              cases ex
              generalize hxx : rd_TIns (rd_LIns l3 b) i = x at B3 hy0 hy1 hy2 hy3 hy4 hy5 hl5 hi5
              have HBl := CB.out.below _ _ HS.out
              replace hy0 := (HBl.cell (World.block_lt_of_cell? w0 _ hy0)).trans hy0
              replace hy1 := (HBl.cell (World.block_lt_of_cell? w0 _ hy1)).trans hy1
              replace hy2 := (HBl.cell (World.block_lt_of_cell? w0 _ hy2)).trans hy2
              replace hy3 := (HBl.cell (World.block_lt_of_cell? w0 _ hy3)).trans hy3
              replace hy4 := (HBl.cell (World.block_lt_of_cell? w0 _ hy4)).trans hy4
              replace hy5 := (HBl.cell (World.block_lt_of_cell? w0 _ hy5)).trans hy5
              have HL5 := Aside0.mk hl5
              have HI5 := Aside0.mk (Kd.C_F (Kd.heap_int .i64) hi5)
              clear HBl hl5 hi5
              go_wp2_with (first
                | ((with_reducible refine gate_dst (N := 11) rfl ?_); (try (refine gate_guard (by rfl) ?_; dsimp only)); refine box_event (by rfl) (N := 11) (by rfl) (cs := #[.int .i64 0, .int .i64 0, .int .i64 0, .int .i64 0, .string (⟨#[]⟩ : ByteArray), .slice none 0 0]) (t := 38) ?hr ?_; (case hr => first | (go_simp; done) | (go_simp; rfl)); intro gx hg w5 hbox_ hb_; have hbox := Aside0.mk hbox_; have hb := Aside0.mk hb_; have HG := Aside0.mk (Nat.le_of_eq hg.symm); clear hbox_ hb_ hg hy0 hy1 hy2 hy3 hy4 hy5; have z5 := bk6 hbox.out))
              generalize hw : ((((((w5.setCell ⟨gx, 0, none⟩ (.int .i64 x.f0)).setCell ⟨gx, 1, none⟩ (.int .i64 x.f1)).setCell ⟨gx, 2, none⟩ (.int .i64 x.f2)).setCell ⟨gx, 3, none⟩ (.int .i64 x.f3)).setCell ⟨gx, 4, none⟩ (.string x.f4)).setCell ⟨gx, 5, none⟩ (.slice A5 x.f5.length c5)) = w6
              have hgx := HG.out
              have BX := Aside0.mk (show w6.heap[gx]? = some (.cells #[.int .i64 x.f0, .int .i64 x.f1, .int .i64 x.f2, .int .i64 x.f3, .string x.f4, .slice A5 x.f5.length c5] 38 (0, 0)) by rw [← hw]; exact (blk_put (blk_put (blk_put (blk_put (blk_put (blk_put hbox.out 0 _ rfl) 1 _ rfl) 2 _ rfl) 3 _ rfl) 4 _ rfl) 5 _ rfl))
              have hbl : Below wr.heap.size wr w6 := by rw [← hw]; exact (below_set (below_set (below_set (below_set (below_set (below_set hb.out hgx) hgx) hgx) hgx) hgx) hgx)
              have GX := Aside0.mk (show ¬ May gx from fun e_ => by have := HM1.out gx e_; have := SZ.out; omega)
              replace HS := Aside0.mk (CB.out.step _ _ _ HS.out hbl)
              replace HI := Aside0.mk (Kd.F_below HI.out hbl)
              replace HO := Aside0.mk (Kd.F_below HO.out hbl)
              replace BF := Aside0.mk (blk_below BF.out hbl)
              replace HK := Aside0.mk (Kept.below HK.out hbl)
              replace SZ := Aside0.mk (Nat.le_trans SZ.out hbl.size)
              clear hbl hw z5 hgx HG hbox hb
              have n0_ := Aside0.mk (blk_drew BX.out)
              have n1_ := Aside0.mk (CB.out.step _ _ _ HS.out (below_drew (Below.refl _ _)))
              have n2_ := Aside0.mk (Kd.F_drew HI.out)
              have n3_ := Aside0.mk (Kd.F_drew HO.out)
              have n4_ := Aside0.mk (blk_drew BF.out)
              have n5_ := Aside0.mk (Kept.drew HK.out)
              have n6_ := Aside0.mk (show w.heap.size ≤ w6.drew.heap.size from SZ.out)
              clear BX HS HI HO BF HK SZ
              refine start_ (n := 9) (S := fun w' => w'.cell? ⟨gx, 0, none⟩ = some (.int .i64 x.f0) ∧ w'.cell? ⟨gx, 1, none⟩ = some (.int .i64 x.f1) ∧ w'.cell? ⟨gx, 2, none⟩ = some (.int .i64 x.f2) ∧ w'.cell? ⟨gx, 3, none⟩ = some (.int .i64 x.f3) ∧ w'.cell? ⟨gx, 4, none⟩ = some (.string x.f4) ∧ w'.cell? ⟨gx, 5, none⟩ = some (.slice A5 x.f5.length c5) ∧ w'.cell? ⟨gf, 0, none⟩ = some (.string a0) ∧ w'.cell? ⟨gf, 1, none⟩ = some (.int .i64 a1) ∧ w'.cell? ⟨gf, 2, none⟩ = some (.int .i64 a2) ∧ w'.cell? ⟨gf, 3, none⟩ = some (.slice (some adr) l3.length c3)) (ds := []) (bA 9 0) (by kernel_rfl) rfl rfl ⟨(blk_cell n0_.out 0).trans rfl, (blk_cell n0_.out 1).trans rfl, (blk_cell n0_.out 2).trans rfl, (blk_cell n0_.out 3).trans rfl, (blk_cell n0_.out 4).trans rfl, (blk_cell n0_.out 5).trans rfl, (blk_cell n4_.out 0).trans rfl, (blk_cell n4_.out 1).trans rfl, (blk_cell n4_.out 2).trans rfl, (blk_cell n4_.out 3).trans rfl⟩ (fun hHeld => ?_); refine with_tabW span_each.tab11 span_each.bits11 (fun HT_ HW_ => ?_)
              generalize w6.drew = w7 at n0_ n1_ n2_ n3_ n4_ n5_ n6_ hHeld ⊢
              have BX := n0_
              have HS := n1_
              have HI := n2_
              have HO := n3_
              have BF := n4_
              have HK := n5_
              have SZ := n6_
              clear n0_ n1_ n2_ n3_ n4_ n5_ n6_
              refine pu_ (i := 0) (N := some 43) (bA 9 1) ?_
              refine pu_ (i := 1) (N := some 44) (bA 9 3) ?_
              refine tk_ (i := 2) (N := some 45) (bA 9 7) ?_
              refine tk_ (i := 3) (N := some 46) (bA 9 15) ?_
              refine pu_ (i := 4) (N := some 47) (bA 9 31) ?_
              refine pu_ (i := 5) (N := some 48) (bA 9 63) ?_
              refine pu_ (i := 6) (N := some 49) (bA 9 127) ?_
              refine one_ (i := 7) (N := some 50) (bA 9 255) rfl rfl (one_of HT_.out (by kernel_rfl)) (by decide) (fun K hK => ?_)
              refine goes_ Tryd.func84 (by kernel_rfl) rfl #[.agg #[.string a0, .int .i64 a1, .int .i64 a2, .slice (some adr) l3.length c3], .int .i64 b, .int .i64 (wrap64 (i + 1))] (by rfl) rfl rfl qL ?_
              with_reducible refine (live_Ahead.calls k2 a0 a1 a2 _ _ l3 b (wrap64 (i + 1)) bh _ ?side1 ?side2 B2.out (hL := ?side99)).mono ?_
              (case side1 => exact Kd.C_below HR.out (CB.out.below _ _ HS.out))
              (case side2 => exact HC.out)
              (case side99 => exact LaidW.below HLd.out (CB.out.below _ _ HS.out))
              rintro e w8 ⟨v0, rfl, ho, hb⟩
              refine ⟨_, rfl, ?_⟩
              obtain ⟨Aa, ca, ea⟩ := Kd.R_slice ho
              subst ea
              have hl_ := (Kd.R_reads' ho).2.1
              have HLa := Aside0.mk hl_
              have HFa := Aside0.mk (Kd.F_mono (Kd.R_F (Kd.R_bound ho)) (fun q hq => fun e_ => by have := HM1.out q e_; have := SZ.out; omega : ∀ q, _ → ¬ May q))
              replace HS := Aside0.mk (CB.out.step _ _ _ HS.out hb)
              replace HI := Aside0.mk (Kd.F_below HI.out hb)
              replace HO := Aside0.mk (Kd.F_below HO.out hb)
              replace BF := Aside0.mk (blk_below BF.out hb)
              replace HK := Aside0.mk (Kept.below HK.out hb)
              replace SZ := Aside0.mk (Nat.le_trans SZ.out hb.size)
              replace BX := Aside0.mk (blk_below BX.out hb)
              clear hHeld ho hb hl_ B2
              refine hK.out _ _ ⟨(blk_cell BX.out 0).trans rfl, (blk_cell BX.out 1).trans rfl, (blk_cell BX.out 2).trans rfl, (blk_cell BX.out 3).trans rfl, (blk_cell BX.out 4).trans rfl, (blk_cell BX.out 5).trans rfl, (blk_cell BF.out 0).trans rfl, (blk_cell BF.out 1).trans rfl, (blk_cell BF.out 2).trans rfl, (blk_cell BF.out 3).trans rfl⟩ (fun hHeld => ?_)
              clear hK K
              refine norm_ (a' := ?_) ?_ ?_
              rotate_left
              · show Act.put _ (some 50) _ = _
                simp only [Act.put, List.setIfInBounds_toArray, List.set_cons_zero, List.set_cons_succ, i64_w, i32_w]
                rfl
              refine one_ (i := 8) (N := some 51) (bA 9 511) rfl rfl (one_of HT_.out (by kernel_rfl)) (by decide) (fun K hK => ?_)
              refine goesV_ HIN.out.1 HIN.out.2.1 HIN.out.2.2 ci (#[.int .i64 (wrap64 (n1 + 1)), .agg #[.int .i64 x.f0, .int .i64 x.f1, .int .i64 x.f2, .int .i64 x.f3, .string x.f4, .slice A5 x.f5.length c5], .slice Aa bh.length ca] ++ ci) (by rfl) rfl rfl (by rfl) qLV ?_
              have H5 := Aside0.mk (Kd.F_mono (Kd.F_below HI5.out (CB.out.below _ _ HS.out)) (fun q hq => fun e_ => by have := HM0.out q e_; omega : ∀ q, _ → ¬ May q))
              refine (CB.out.ins k2 (wrap64 (n1 + 1)) x A5 c5 bh Aa ca s3 s4 _ B3.out HS.out H5.out HL5.out HFa.out HLa.out).mono ?_
              rintro e w9 ⟨rfl, hs9, hk9⟩
              refine ⟨_, rfl, ?_⟩
              replace HS := Aside0.mk hs9
              replace HI := Aside0.mk (Kd.F_kept HI.out hk9 (fun k hk => hk))
              replace HO := Aside0.mk (Kd.F_kept HO.out hk9 (fun k hk => hk))
              replace BF := Aside0.mk (blk_kept BF.out hk9 GF.out)
              replace BX := Aside0.mk (blk_kept BX.out hk9 GX.out)
              replace HK := Aside0.mk (Kept.then_ HK.out hk9 (fun k hk => .inl hk))
              replace SZ := Aside0.mk (Nat.le_trans SZ.out hk9.1)
              clear hs9 hk9 hHeld B3 H5 HFa HLa
              refine hK.out _ _ ⟨(blk_cell BX.out 0).trans rfl, (blk_cell BX.out 1).trans rfl, (blk_cell BX.out 2).trans rfl, (blk_cell BX.out 3).trans rfl, (blk_cell BX.out 4).trans rfl, (blk_cell BX.out 5).trans rfl, (blk_cell BF.out 0).trans rfl, (blk_cell BF.out 1).trans rfl, (blk_cell BF.out 2).trans rfl, (blk_cell BF.out 3).trans rfl⟩ (fun hHeld => ?_)
              clear hK K hHeld
              refine norm_ (a' := ?_) ?_ ?_
              rotate_left
              · show Act.put _ (some 51) _ = _
                simp only [Act.put, List.setIfInBounds_toArray, List.set_cons_zero, List.set_cons_succ, i64_w, i32_w]
                rfl
              refine done_ (done_of HT_.out (by kernel_rfl)) ?_
              go_wp2
              go_roundg k2
              case measure => have := HK1.out; have := HK2.out; omega
              case rel => exact ⟨_, _, s4, by first | rfl | simp, by first | rfl | simp, H', ⟨by have := HK1.out; have := HK2.out; omega⟩, HS, HI, HO, BF, HK, SZ⟩
            · rw [if_neg c9] at H
              have c9b0 : decide (i < ((rd_LIns l3 b).length : Int)) = false := decide_eq_false c9
              have H' := Aside0.mk H
              clear H
              go_wp2_with fail
              go_roundg k2
              case measure => have := HK1.out; have := HK2.out; omega
              case rel => exact ⟨_, _, s3, by first | rfl | simp, by first | rfl | simp, H', ⟨by have := HK1.out; have := HK2.out; omega⟩, HS, HI, HO, BF, HK, SZ⟩
      · rw [if_neg c4] at H
        have c4b0 : decide (j < (ord.length : Int)) = false := decide_eq_false c4
        obtain rfl := Option.some.inj H
        clear H
        go_wp2_with fail
        first | go_end0 | ((try simp only [Exit.inBlock, Exit.then]); refine bodyPost_ret (results_none rfl _ _ _) rfl ?_)
        exact ⟨rfl, HS.out, HK.out⟩

theorem span_cells {w : World} {base : Nat} {ok : Nat → Prop} {go n c : Nat} {l : List SSpan} (h : Kd.R kSpan 28 w base ok (.slice (some ⟨go, 0, none⟩) n c) l) (i : Int) (h0 : 0 ≤ i) (h1 : i < (l.length : Int)) :
    w.cell? ⟨go, i.toNat * 2, none⟩ = some (.int .i64 (rd_TSpan l i).f0) ∧ w.cell? ⟨go, i.toNat * 2 + 1, none⟩ = some (.int .i64 (rd_TSpan l i).f1) ∧ w.frozen? ⟨go, i.toNat * 2, none⟩ = false ∧ w.frozen? ⟨go, i.toNat * 2 + 1, none⟩ = false := by
  have hn := (Kd.R_reads' h).1
  obtain ⟨ce, hcl, hM, hcc, hfr⟩ := Kd.R_elem h zSpan i h0 (by omega)
  obtain rfl := kSpan_openM hM
  exact ⟨hcc 0 _ rfl, hcc 1 _ rfl, hfr 0, hfr 1⟩
theorem span_put {w : World} {base : Nat} {ok : Nat → Prop} {go n c : Nat} {l : List SSpan} (h : Kd.R kSpan 28 w base ok (.slice (some ⟨go, 0, none⟩) n c) l) (i : Int) (h0 : 0 ≤ i) (h1 : i < (l.length : Int)) (x : SSpan) :
    Kd.R kSpan 28 ((w.setCell ⟨go, i.toNat * 2, none⟩ (.int .i64 x.f0)).setCell ⟨go, i.toNat * 2 + 1, none⟩ (.int .i64 x.f1)) base ok (.slice (some ⟨go, 0, none⟩) n c) (l.set i.toNat x) ∧
    w.grownBy ((w.setCell ⟨go, i.toNat * 2, none⟩ (.int .i64 x.f0)).setCell ⟨go, i.toNat * 2 + 1, none⟩ (.int .i64 x.f1)) (some go) := by
  have hn := (Kd.R_reads' h).1
  obtain ⟨ce, hcl, hM, hcc, hfr⟩ := Kd.R_elem h zSpan i h0 (by omega)
  obtain rfl := kSpan_openM hM
  exact Kd.R_seg h i h0 (by omega) (seg := [.int .i64 x.f0, .int .i64 x.f1]) (j := 0) hcl hcc (show 2 ≤ 2 from by decide) (x' := x) (kSpan_mkM _ _ _ x) (fun _ hk => hk)

def span_Spans.l0 : Nat → List SSpan → Int → Int → Option (List SSpan)
  | 0, _, _, _ => none
  | k + 1, o, m, i => if i < m then (if 0 ≤ i then (if i < (o.length : Int) then span_Spans.l0 k (o.set i.toNat ⟨-1, -1⟩) m (wrap64 (i + 1)) else none) else none) else some o
def span_Spans.l2 : Nat → Int → Int → List SSpan → Option (List SSpan)
  | 0, _, _, _ => none
  | k + 1, p, i, o => if i < p then (span_Spans_1.f i 1 o).bind fun b => span_Spans.l2 k p (wrap64 (i + 1)) b else some o
def span_Spans.ins (k : Nat) (n : Int) (x : SIns) (l : List Int) (s : List SSpan) : Option (List SSpan) := span_Spans_3.f k n x.f0 x.f1 x.f2 x.f3 x.f4 x.f5 l s
def span_Spans.f (k : Nat) (a0 : ByteArray) (a1 a2 : Int) (l3 : List (List SIns)) : Option (List SSpan) :=
  (live_Check.f k a0 a1 a2 l3).bind fun t =>
  if t = 0 then
    if 0 ≤ a2 then
      if a2.toNat ≤ 17592186044416 then
        (span_Spans.l0 k (List.replicate a2.toNat zSpan) ((List.replicate a2.toNat zSpan).length : Int) 0).bind fun o1 =>
        (span_Spans.l2 k a1 0 o1).bind fun o2 => span_each.f span_Spans_2.f span_Spans.ins k a0 a1 a2 l3 o2
      else none
    else none
  else some []
theorem span_Spans.cb {w0 : World} {gb gt ga : Nat} {u : Value} (hL : LaidW w0) :
    EachCb w0 (fun s w => SpSt3 w0 w gb gt ga u s) (fun q => some q = u.ownBlock) span_Spans_2.f span_Spans.ins 42 44 #[.pointer (some ⟨gt, 0, none⟩)] #[.pointer (some ⟨ga, 0, none⟩), .pointer (some ⟨gt, 0, none⟩)] where
  below := fun s w hs => hs.st.hB
  step := fun s w w1 hs hb => hs.below hb
  bfn := ⟨_, Tryd.func42, by kernel_rfl, rfl⟩
  ifn := ⟨_, Tryd.func44, by kernel_rfl, rfl⟩
  block := fun k n l A c s s' w h hs hl hc => (span_Spans_2.st k n A c l s s' w0 w gb gt u hl h hs.st).mono (by
    rintro e w' ⟨rfl, h1, hk⟩
    exact ⟨rfl, hs.kept h1 hk, hk⟩)
  ins := fun k n x A5 c5 l A c s s' w h hs h5 hc5 hl hc => span_Spans_3.st k n x.f0 x.f1 x.f2 x.f3 x.f4 A5 c5 x.f5 A c l s s' w0 w gb gt ga u hL h5 hc5 hl h hs

set_option maxHeartbeats 8000000 in
set_option maxRecDepth 100000 in
theorem span_Spans.calls (k : Nat) (a0 : ByteArray) (a1 a2 : Int) (A3 : Option Addr) (c3 : Nat) (l3 : List (List SIns)) (r : List SSpan) (w : World) (hL : LaidW w) (hr : Kd.C (Kd.slice 38 kIns) w A3 l3.length l3) (hc : l3.length ≤ c3) (h : span_Spans.f k a0 a1 a2 l3 = some r) :
    Calls Tryd.prog 14 #[.agg #[.string a0, .int .i64 a1, .int .i64 a2, .slice A3 l3.length c3]] w fun e w' => ∃ v0_ : Value, e = .returned (v0_) ∧ Kd.R kSpan 28 w' w.heap.size (fun _ => True) v0_ r ∧ Below w.heap.size w w' := by
  have HR := Aside0.mk hr
  have HC := Aside0.mk hc
  have HLd := Aside0.mk hL
  have HB := Aside0.mk (Below.refl w.heap.size w)
  have H := h
  clear hr hc hL h
  unfold span_Spans.f at H
  replace H := qb H; obtain ⟨t, A1, H⟩ := H
  have hu24 := Tryd.underlying24
  have hmf : ∀ (fn : Fn) (first cap : Array Value) (w : World), (Instr.makeFunc fn first cap).run Tryd.prog w = .ok (.func fn first cap) w := fun _ _ _ _ => rfl
  have hsf := fun (f : FuncId) (a : Addr) (c : Array Value) (w : World) => run_store Tryd.prog w a (.func (.func f) #[] c) .plain rfl
  by_cases c1 : t = 0
  · rw [if_pos c1] at H
    obtain ⟨c1b0, c1b1⟩ := qe c1
    by_cases c2 : ¬ 0 ≤ a2
    · rw [if_neg c2] at H
      exact absurd H (by simp)
    replace c2 := Decidable.not_not.1 c2
    rw [if_pos c2] at H
    by_cases c3_ : ¬ a2.toNat ≤ 17592186044416
    · rw [if_neg c3_] at H
      exact absurd H (by simp)
    replace c3_ := Decidable.not_not.1 c3_
    rw [if_pos c3_] at H
    obtain ⟨o0, ho0⟩ : ∃ o_ : List SSpan, o_ = List.replicate a2.toNat zSpan := ⟨_, rfl⟩
    rw [← ho0] at H
    have N0 := Aside0.mk ho0
    clear ho0
    replace H := qb H; obtain ⟨o1, A2, H⟩ := H
    replace H := qb H; obtain ⟨o2, A3_, H⟩ := H
    have A4 := Aside0.mk H
    clear H
    go_enter Tryd.func14, Tryd.ntmps14
    go_wp2_with (first
      | ((with_reducible refine gate_dst (N := 1) rfl ?_); refine box_event (by rfl) (N := 1) (by rfl) (cs := #[.string a0, .int .i64 a1, .int .i64 a2, .slice A3 l3.length c3]) (t := 24) ?hr ?_; (case hr => first | (go_simp; done) | (go_simp; rfl)); intro gf hg w1 hbox hb; have BF := Aside0.mk hbox; replace HB := Aside0.mk (below_step HB.out hb); clear hb hbox hg; have z1 := bk4 BF.out)
      | ((with_reducible refine gate_callee (f := 39) rfl ?_); refine goesL_ (some 9) rfl rfl Tryd.func39 (by kernel_rfl) rfl #[.agg #[.string a0, .int .i64 a1, .int .i64 a2, .slice A3 l3.length c3]] rfl qL ?_; (with_reducible refine (live_Check.calls k a0 a1 a2 _ _ l3 t _ ?side1 ?side2 A1.out (hL := ?side99)).mono ?_); (case side1 => exact Kd.C_below HR.out HB.out); (case side2 => exact HC.out); (case side99 => exact LaidW.below HLd.out HB.out); rintro e w2 ⟨rfl, hb⟩; refine ⟨_, rfl, ?_⟩; replace HB := Aside0.mk (below_step HB.out hb); replace BF := Aside0.mk (blk_below BF.out hb); clear z1 hb A1; have z1 := bk4 BF.out)
      | ((with_reducible refine gate_dst (N := 13) rfl ?_); refine Kd.R_make kSpan _ 28 rfl (N := 13) rfl 32 _ _ rfl a2 rfl rfl Tryd.underlying32 (.agg #[.int .i64 0, .int .i64 0]) 16 info28 rfl (by decide) (by omega) zSpan (ok := fun _ => True) (okp := fun _ => True) (kSpan_mkM _ _ _ zSpan) (fun _ hk => hk) trivial c2 (by omega) (Below.refl _ _) (Nat.le_refl _) ?_; intro vm w3 ho hb hg_ hnew_; rw [← N0.out] at ho; obtain ⟨Am, cm, em⟩ := Kd.R_slice ho; subst em; have HU := Aside0.mk (Kd.R_lower ho (below_size HB.out)); replace HB := Aside0.mk (below_step HB.out hb); replace BF := Aside0.mk (blk_below BF.out hb); clear hg_ hnew_ hb ho z1)
      | ((with_reducible refine gate_dst (N := 3) rfl ?_); refine box_event ?hg (N := 3) ?hd (cs := #[.slice none 0 0]) (t := 32) ?hr ?_; (case hd => rfl); (case hg => rfl); (case hr => first | (go_simp; done) | (go_simp; rfl)); intro gb hg w4 hbox hb; have GB := Aside0.mk (show w.heap.size ≤ gb by rw [hg]; exact below_size HB.out); replace HB := Aside0.mk (below_step HB.out hb); replace BF := Aside0.mk (blk_below BF.out hb); replace HU := Aside0.mk (Kd.R_below HU.out hb); have BB := Aside0.mk hbox; clear hb hbox hg; have cm3 : w4.cell? ⟨gb, 0, none⟩ = some _ := blk_cell BB.out 0; have fm3 : w4.frozen? ⟨gb, 0, none⟩ = false := blk_frozen BB.out 0)
      | ((with_reducible refine gate_store (t := 32) (p := 3) rfl ?_); refine store_event (t := 32) (p := 3) (v := ?vo_1) (w1 := (w4.setCell ⟨gb, 0, none⟩ (.slice Am o0.length cm))) ?hg ?ho ?hn ?hr ?_; (case ho => rfl); (case hg => rfl); (case hn => rfl); (case hr => first | (go_simp; done) | (go_simp; rfl)); intro w5 hw; have n0_ := Aside0.mk (hw ▸ blk_put BB.out 0 _ rfl : w5.heap[gb]? = some (.cells #[.slice Am o0.length cm] 32 (0, 0))); have n1_ := Aside0.mk (hw ▸ blk_far BF.out (p := ⟨gb, 0, none⟩) (blk_ne BF.out BB.out (by decide)) _ : w5.heap[gf]? = some _); have n2_ := Aside0.mk (hw ▸ Kd.R_set HU.out BB.out (by decide) 0 _ : Kd.R kSpan 28 w5 _ _ _ _); have n3_ := Aside0.mk (hw ▸ below_set HB.out GB.out : Below w.heap.size w w5); clear hw HB BB HU BF cm3 fm3; have BB := n0_; have BF := n1_; have HU := n2_; have HB := n3_; clear n0_ n1_ n2_ n3_; have cb := blk_cell BB.out 0))
    have H' := A2
    clear A2
    go_loopg [16] k (fun kq v16 w' => ∃ (i : Int) (o : List SSpan), v16 = .int .i64 i ∧ Aside0 (span_Spans.l0 kq o (o0.length : Int) i = some o1) ∧ Aside0 (kq ≤ k) ∧ Aside0 (o.length = o0.length) ∧ Aside0 (w'.heap[gb]? = some (.cells #[.slice Am o0.length cm] 32 (0, 0))) ∧ Aside0 (w'.heap[gf]? = some (.cells #[.string a0, .int .i64 a1, .int .i64 a2, .slice A3 l3.length c3] 24 (0, 0))) ∧ Aside0 (Kd.R kSpan 28 w' w.heap.size (fun _ => True) (.slice Am o0.length cm) o) ∧ Aside0 (Below w.heap.size w w'))
    case atStart => exact ⟨0, o0, by first | rfl | simp, H', ⟨Nat.le_refl _⟩, ⟨rfl⟩, BB, BF, HU, HB⟩
    case round =>
      clear H' BB BF HU HB cb
      obtain ⟨i, o, rfl, HA, HK1, HLo, BB, BF, HU, HB⟩ := hrel
      cases gk with
      | zero => exact absurd HA.out (by simp [span_Spans.l0])
      | succ k1 =>
        have H := HA.out
        clear HA
        simp only [span_Spans.l0] at H
        by_cases c4 : i < (o0.length : Int)
        · rw [if_pos c4] at H
          have c4b0 : decide (i < (o0.length : Int)) = true := decide_eq_true c4
          by_cases c5 : ¬ 0 ≤ i
          · rw [if_neg c5] at H
            exact absurd H (by simp)
          replace c5 := Decidable.not_not.1 c5
          rw [if_pos c5] at H
          by_cases c6 : ¬ i < (o.length : Int)
          · rw [if_neg c6] at H
            exact absurd H (by simp)
          replace c6 := Decidable.not_not.1 c6
          rw [if_pos c6] at H
          have H' := Aside0.mk H
          clear H
          obtain ⟨go, co, eo, gbo, glo, clo, HGo⟩ := Kd.R_form HU.out (by omega)
          injection eo with e1 e2 e3
          subst e1
          clear e2 e3 glo clo HGo
          have GO := Aside0.mk gbo
          clear gbo
          have hz := span_cells HU.out i c5 c6
          have cb := blk_cell BB.out 0
          go_wp2_with fail
          generalize hw : ((wr.setCell ⟨go, i.toNat * 2, none⟩ (.int .i64 (-1))).setCell ⟨go, i.toNat * 2 + 1, none⟩ (.int .i64 (-1))) = w6
          have hp : Kd.R kSpan 28 w6 w.heap.size (fun _ => True) (.slice (some ⟨go, 0, none⟩) o0.length cm) (o.set i.toNat ⟨-1, -1⟩) ∧ wr.grownBy w6 (some go) := by rw [← hw]; exact span_put HU.out i c5 c6 ⟨-1, -1⟩
          replace BB := Aside0.mk (blk_grown BB.out hp.2 (Kd.R_ne HU.out BB.out (by decide)))
          replace BF := Aside0.mk (blk_grown BF.out hp.2 (Kd.R_ne HU.out BF.out (by decide)))
          have HB6 := Aside0.mk (show Below w.heap.size w w6 by rw [← hw]; exact below_set (below_set HB.out GO.out) GO.out)
          replace HU := Aside0.mk hp.1
          clear hw hp hz cb HB
          go_roundg k1
          case measure => have := HK1.out; omega
          case rel => exact ⟨_, _, by first | rfl | simp, H', ⟨by have := HK1.out; omega⟩, ⟨by have := HLo.out; simp only [List.length_set]; omega⟩, BB, BF, HU, HB6⟩
        · rw [if_neg c4] at H
          have c4b0 : decide (i < (o0.length : Int)) = false := decide_eq_false c4
          obtain rfl := Option.some.inj H
          clear H
          have z1 := bk4 BF.out
          have cb := blk_cell BB.out 0
          go_wp2_with (first
              | ((with_reducible refine gate_dst (N := 5) rfl ?_); refine box_event ?hg (N := 5) ?hd (cs := #[.nilFunc]) (t := 74) ?hr ?_; (case hd => rfl); (case hg => rfl); (case hr => first | (go_simp; done) | (go_simp; rfl)); intro gt hg w_gt hbox hb; have Ggt := Aside0.mk (show w.heap.size ≤ gt by rw [hg]; exact below_size HB.out); replace BB := Aside0.mk (blk_below BB.out hb); replace BF := Aside0.mk (blk_below BF.out hb); replace HU := Aside0.mk (Kd.R_below HU.out hb); replace HB := Aside0.mk (below_step HB.out hb); have Bgt := Aside0.mk hbox; clear hb hbox hg; have cm3 : w_gt.cell? ⟨gt, 0, none⟩ = some _ := blk_cell Bgt.out 0; have fm3 : w_gt.frozen? ⟨gt, 0, none⟩ = false := blk_frozen Bgt.out 0)
              | ((with_reducible refine gate_store (t := 74) (p := 5) rfl ?_); refine store_event (t := 74) (p := 5) (v := ?vo_2) (w1 := (w_gt.setCell ⟨gt, 0, none⟩ (.func (.func 41) #[] #[.pointer (some ⟨gb, 0, none⟩)]))) ?hg ?ho ?hn ?hr ?_; (case ho => rfl); (case hg => rfl); (case hn => rfl); (case hr => first | (go_simp; done) | (go_simp; rfl)); intro wq_gt hw; have nb_ := Aside0.mk (hw ▸ blk_put Bgt.out 0 _ rfl : wq_gt.heap[gt]? = some (.cells #[.func (.func 41) #[] #[.pointer (some ⟨gb, 0, none⟩)]] 74 (0, 0))); have n0_ := Aside0.mk (hw ▸ blk_far BB.out (p := ⟨gt, 0, none⟩) (blk_ne BB.out Bgt.out (by decide)) _ : wq_gt.heap[gb]? = some _); have n1_ := Aside0.mk (hw ▸ blk_far BF.out (p := ⟨gt, 0, none⟩) (blk_ne BF.out Bgt.out (by decide)) _ : wq_gt.heap[gf]? = some _); have n2_ := Aside0.mk (hw ▸ Kd.R_set HU.out Bgt.out (by decide) 0 _ : Kd.R kSpan 28 wq_gt _ _ _ _); have n3_ := Aside0.mk (hw ▸ below_set HB.out Ggt.out : Below w.heap.size w wq_gt); clear hw BB BF HU HB Bgt cm3 fm3; have Bgt := nb_; have BB := n0_; have BF := n1_; have HU := n2_; have HB := n3_; clear nb_ n0_ n1_ n2_ n3_; have cb := blk_cell BB.out 0; have z2 := bk4 BF.out; have cg_gt := blk_cell Bgt.out 0))
          have HS := Aside0.mk (show SpSt w wq_gt gb gt (.slice Am o0.length cm) o from ⟨BB.out, Bgt.out, HU.out, HB.out⟩)
          have H' := A3_
          clear A3_ BB Bgt HU HB cb cg_gt z2
          go_loopg [27] k (fun kq v27 w' => ∃ (j : Int) (o' : List SSpan), v27 = .int .i64 j ∧ Aside0 (span_Spans.l2 kq a1 j o' = some o2) ∧ Aside0 (kq ≤ k) ∧ Aside0 (SpSt w w' gb gt (.slice Am o0.length cm) o') ∧ Aside0 (w'.heap[gf]? = some (.cells #[.string a0, .int .i64 a1, .int .i64 a2, .slice A3 l3.length c3] 24 (0, 0))))
          case atStart => exact ⟨0, o, by first | rfl | simp, H', ⟨Nat.le_refl _⟩, HS, BF⟩
          case round =>
            clear H' HS BF z1
            obtain ⟨j, o, rfl, HA, HK1, HS, BF⟩ := hrel
            cases gk with
            | zero => exact absurd HA.out (by simp [span_Spans.l2])
            | succ k1 =>
              have H := HA.out
              clear HA
              simp only [span_Spans.l2] at H
              by_cases d1 : j < a1
              · rw [if_pos d1] at H
                have d1b0 : decide (j < a1) = true := decide_eq_true d1
                replace H := qb H; obtain ⟨o3, A5, H⟩ := H
                have H' := Aside0.mk H
                clear H
                have ct := blk_cell HS.out.bt 0
                go_wp2_with fail
                refine (span_Spans_1.st j 1 o3 A5.out HS.out).mono ?_
                rintro e w6 ⟨rfl, hs6, hk6⟩
                replace BF := Aside0.mk (blk_kept BF.out hk6 (fun e => ne_own BF.out (Kd.R_typed HS.out.hu) (by decide) e.symm))
                replace HS := Aside0.mk hs6
                clear hs6 hk6 ct
                go_wp2_with fail
                go_roundg k1
                case measure => have := HK1.out; omega
                case rel => exact ⟨_, o3, by first | rfl | simp, H', ⟨by have := HK1.out; omega⟩, HS, BF⟩
              · rw [if_neg d1] at H
                have d1b0 : decide (j < a1) = false := decide_eq_false d1
                obtain rfl := Option.some.inj H
                clear H
                have z1 := bk4 BF.out
                have BB := Aside0.mk HS.out.bb
                have Bgt := Aside0.mk HS.out.bt
                have HU := Aside0.mk HS.out.hu
                have HB := Aside0.mk HS.out.hB
                clear HS
                go_wp2_with (first
                    | ((with_reducible refine gate_dst (N := 7) rfl ?_); refine box_event ?hg (N := 7) ?hd (cs := #[.nilFunc]) (t := 75) ?hr ?_; (case hd => rfl); (case hg => rfl); (case hr => first | (go_simp; done) | (go_simp; rfl)); intro ga hg w_ga hbox hb; have Gga := Aside0.mk (show w.heap.size ≤ ga by rw [hg]; exact below_size HB.out); replace BB := Aside0.mk (blk_below BB.out hb); replace Bgt := Aside0.mk (blk_below Bgt.out hb); replace BF := Aside0.mk (blk_below BF.out hb); replace HU := Aside0.mk (Kd.R_below HU.out hb); replace HB := Aside0.mk (below_step HB.out hb); have Bga := Aside0.mk hbox; clear hb hbox hg; have cm3 : w_ga.cell? ⟨ga, 0, none⟩ = some _ := blk_cell Bga.out 0; have fm3 : w_ga.frozen? ⟨ga, 0, none⟩ = false := blk_frozen Bga.out 0)
                    | ((with_reducible refine gate_store (t := 75) (p := 7) rfl ?_); refine store_event (t := 75) (p := 7) (v := ?vo_3) (w1 := (w_ga.setCell ⟨ga, 0, none⟩ (.func (.func 42) #[] #[.pointer (some ⟨gt, 0, none⟩)]))) ?hg ?ho ?hn ?hr ?_; (case ho => rfl); (case hg => rfl); (case hn => rfl); (case hr => first | (go_simp; done) | (go_simp; rfl)); intro wq_ga hw; have nb_ := Aside0.mk (hw ▸ blk_put Bga.out 0 _ rfl : wq_ga.heap[ga]? = some (.cells #[.func (.func 42) #[] #[.pointer (some ⟨gt, 0, none⟩)]] 75 (0, 0))); have n0_ := Aside0.mk (hw ▸ blk_far BB.out (p := ⟨ga, 0, none⟩) (blk_ne BB.out Bga.out (by decide)) _ : wq_ga.heap[gb]? = some _); have n1_ := Aside0.mk (hw ▸ blk_far Bgt.out (p := ⟨ga, 0, none⟩) (blk_ne Bgt.out Bga.out (by decide)) _ : wq_ga.heap[gt]? = some _); have n2_ := Aside0.mk (hw ▸ blk_far BF.out (p := ⟨ga, 0, none⟩) (blk_ne BF.out Bga.out (by decide)) _ : wq_ga.heap[gf]? = some _); have n3_ := Aside0.mk (hw ▸ Kd.R_set HU.out Bga.out (by decide) 0 _ : Kd.R kSpan 28 wq_ga _ _ _ _); have n4_ := Aside0.mk (hw ▸ below_set HB.out Gga.out : Below w.heap.size w wq_ga); clear hw BB Bgt BF HU HB Bga cm3 fm3; have Bga := nb_; have BB := n0_; have Bgt := n1_; have BF := n2_; have HU := n3_; have HB := n4_; clear nb_ n0_ n1_ n2_ n3_ n4_; have cb := blk_cell BB.out 0; have z2 := bk4 BF.out; have cg_ga := blk_cell Bga.out 0)
                    | ((with_reducible refine gate_callee (f := 43) rfl ?_); refine goesL_ (some 38) rfl rfl Tryd.func43 (by kernel_rfl) rfl #[.agg #[.string a0, .int .i64 a1, .int .i64 a2, .slice A3 l3.length c3], .func (.func 42) #[] #[.pointer (some ⟨gt, 0, none⟩)], .func (.func 44) #[] #[.pointer (some ⟨ga, 0, none⟩), .pointer (some ⟨gt, 0, none⟩)]] rfl qL ?_; (refine (span_each.calls (span_Spans.cb (gb := gb) (u := .slice Am o0.length cm) HLd.out) k a0 a1 a2 A3 c3 l3 o r _ HLd.out HR.out HC.out (fun q e_ => Kd.R_base HU.out q e_.symm) (fun q e_ => Kd.R_lt HU.out q e_.symm) A4.out ⟨⟨BB.out, Bgt.out, HU.out, HB.out⟩, Bga.out⟩).mono ?_); rintro e w8 ⟨rfl, hs8, hk8⟩; refine ⟨_, rfl, ?_⟩; have HS := Aside0.mk hs8.st; clear hs8 hk8 BB Bgt Bga HU HB cb cg_ga; have cb := blk_cell HS.out.bb 0))
                go_ret
                exact ⟨_, rfl, HS.out.hu, HS.out.hB⟩
  · rw [if_neg c1] at H
    obtain ⟨c1b0, c1b1⟩ := qn c1
    obtain rfl := Option.some.inj H
    clear H
    go_enter Tryd.func14, Tryd.ntmps14
    go_wp2_with (first
      | ((with_reducible refine gate_dst (N := 1) rfl ?_); refine box_event (by rfl) (N := 1) (by rfl) (cs := #[.string a0, .int .i64 a1, .int .i64 a2, .slice A3 l3.length c3]) (t := 24) ?hr ?_; (case hr => first | (go_simp; done) | (go_simp; rfl)); intro gf hg w1 hbox hb; have BF := Aside0.mk hbox; replace HB := Aside0.mk (below_step HB.out hb); clear hb hbox hg; have z1 := bk4 BF.out)
      | ((with_reducible refine gate_callee (f := 39) rfl ?_); refine goesL_ (some 9) rfl rfl Tryd.func39 (by kernel_rfl) rfl #[.agg #[.string a0, .int .i64 a1, .int .i64 a2, .slice A3 l3.length c3]] rfl qL ?_; (with_reducible refine (live_Check.calls k a0 a1 a2 _ _ l3 t _ ?side1 ?side2 A1.out (hL := ?side99)).mono ?_); (case side1 => exact Kd.C_below HR.out HB.out); (case side2 => exact HC.out); (case side99 => exact LaidW.below HLd.out HB.out); rintro e w2 ⟨rfl, hb⟩; refine ⟨_, rfl, ?_⟩; replace HB := Aside0.mk (below_step HB.out hb); replace BF := Aside0.mk (blk_below BF.out hb); clear z1 hb A1; have z1 := bk4 BF.out))
    go_ret
    exact ⟨_, rfl, Kd.R_nil _ _ _ _ _, HB.out⟩
end Go.Proofs.YtpkimbkjjmbmcaaDoor.Q
namespace Go.Proofs.YtpkimbkjjmbmcaaDoor.Q
open Go.RowKit Go.Proofs.YtpkimbkjjmbmcaaDoorW.PrintWords Go.Proofs.YtpkimbkjjmbmcaaDoorW.PrintLast Go.Proofs.YtpkimbkjjmbmcaaDoorW.PrintMore
attribute [local go_sem] max2_int min2_int max_two min_two max_three min_three max_four min_four
set_option linter.unusedVariables false
set_option linter.unusedSimpArgs false


mutual
def cubbylaw12_SpanInside.j0 : Nat → Int → Int → List (List Int) → List (SSpan) → Bool → ByteArray → Int → Int → List (List (SIns)) → Option (Bool)
 | 0, _, _, _, _, _, _, _, _, _ => none
 | k + 1, x7, x8, x9, x10, x66, x463000, x463001, x463002, x463003 => if x66 = true then (some false) else (cubbylaw12_SpanInside.l0 k x7 x8 x9 x10 0 x463000 x463001 x463002 x463003)
def cubbylaw12_SpanInside.l0 : Nat → Int → Int → List (List Int) → List (SSpan) → Int → ByteArray → Int → Int → List (List (SIns)) → Option (Bool)
 | 0, _, _, _, _, _, _, _, _, _ => none
 | k + 1, x7, x8, x9, x10, x12, x463000, x463001, x463002, x463003 => if x12 < x463001 then (if 0 ≤ x12 then (if x12 < (x10.length : Int) then (if ((rd_TSpan x10 x12).f0) = 1 then (cubbylaw12_SpanInside.l0 k x7 x8 x9 x10 (wrap64 (x12 + 1)) x463000 x463001 x463002 x463003) else (some false)) else (none)) else (none)) else (if 0 ≤ x7 then (if x7 < (x9.length : Int) then (if ((rd_LInt x9 x7).length : Int) = 0 then (some true) else (if 0 ≤ x8 then (if x8 < ((rd_LInt x9 x7).length : Int) then (if x7 < (x463003.length : Int) then (if x8 < ((rd_LIns x463003 x7).length : Int) then ((cubbyref07_Uses.f k ((rd_TIns (rd_LIns x463003 x7) x8).f0) ((rd_TIns (rd_LIns x463003 x7) x8).f1) ((rd_TIns (rd_LIns x463003 x7) x8).f2) ((rd_TIns (rd_LIns x463003 x7) x8).f3) ((rd_TIns (rd_LIns x463003 x7) x8).f4) ((rd_TIns (rd_LIns x463003 x7) x8).f5)).bind fun t484 => (cubbylaw12_SpanInside.l1 k x7 x8 x10 (rd (rd_LInt x9 x7) x8) t484 0 x463000 x463001 x463002 x463003)) else (none)) else (none)) else (none)) else (none))) else (none)) else (none))
def cubbylaw12_SpanInside.l1 : Nat → Int → Int → List (SSpan) → Int → List Int → Int → ByteArray → Int → Int → List (List (SIns)) → Option (Bool)
 | 0, _, _, _, _, _, _, _, _, _, _ => none
 | k + 1, x7, x8, x10, x13, x14, x15, x463000, x463001, x463002, x463003 => if x15 < (x14.length : Int) then (if 0 ≤ x15 then (if 0 ≤ (rd x14 x15) then (if (rd x14 x15) < (x10.length : Int) then (if ((rd_TSpan x10 (rd x14 x15)).f0) > (wrap64 (2 * x13)) then (some false) else (if ((rd_TSpan x10 (rd x14 x15)).f1) < (wrap64 (2 * x13)) then (some false) else (if ((rd_TSpan x10 (rd x14 x15)).f0) < 0 then (some false) else (cubbylaw12_SpanInside.l1 k x7 x8 x10 x13 x14 (wrap64 (x15 + 1)) x463000 x463001 x463002 x463003)))) else (none)) else (none)) else (none)) else (if 0 ≤ x7 then (if x7 < (x463003.length : Int) then (if 0 ≤ x8 then (if x8 < ((rd_LIns x463003 x7).length : Int) then ((cubbyref07_Def.f ((rd_TIns (rd_LIns x463003 x7) x8).f0) ((rd_TIns (rd_LIns x463003 x7) x8).f1) ((rd_TIns (rd_LIns x463003 x7) x8).f2) ((rd_TIns (rd_LIns x463003 x7) x8).f3) ((rd_TIns (rd_LIns x463003 x7) x8).f4) ((rd_TIns (rd_LIns x463003 x7) x8).f5)).bind fun t495 => (if t495 < 0 then (some true) else (if 0 ≤ t495 then (if t495 < (x10.length : Int) then (if ((rd_TSpan x10 t495).f0) ≥ 0 then (if ((rd_TSpan x10 t495).f0) ≤ (wrap64 ((wrap64 (2 * x13)) + 1)) then (some (decide (((rd_TSpan x10 t495).f1) ≥ (wrap64 ((wrap64 (2 * x13)) + 1))))) else (some false)) else (some false)) else (none)) else (none)))) else (none)) else (none)) else (none)) else (none))
end
def cubbylaw12_SpanInside.f (k : Nat) (a0_0 : ByteArray) (a0_1 : Int) (a0_2 : Int) (l0_3 : List (List (SIns))) (a1 : Int) (a2 : Int) : Option (Bool) := (cubbylaw12_heavy.f k a0_0 a0_1 a0_2 l0_3).bind fun t463 => (if t463 = true then ((span_Meet.f 1 3 3 3).bind fun t464 => (some t464)) else (if (l0_3.length : Int) = 0 then (none) else (if 0 ≤ (Int.tmod (wrap64 (a1)) (l0_3.length : Int)) then (if (Int.tmod (wrap64 (a1)) (l0_3.length : Int)) < (l0_3.length : Int) then (if ((rd_LIns l0_3 (Int.tmod (wrap64 (a1)) (l0_3.length : Int))).length : Int) = 0 then (none) else ((span_Places.f k a0_0 a0_1 a0_2 l0_3).bind fun t466 => ((span_Spans.f k a0_0 a0_1 a0_2 l0_3).bind fun t469 => ((cubbyref12_Places.f k a0_0 a0_1 a0_2 l0_3).bind fun t472 => (if (t466.length : Int) = (t472.length : Int) then (if (t469.length : Int) = a0_2 then (if (Int.tmod (wrap64 (a1)) (l0_3.length : Int)) < (t466.length : Int) then (if (Int.tmod (wrap64 (a1)) (l0_3.length : Int)) < (t472.length : Int) then ((cubbyref10_Ints.f k (rd_LInt t466 (Int.tmod (wrap64 (a1)) (l0_3.length : Int))) (rd_LInt t472 (Int.tmod (wrap64 (a1)) (l0_3.length : Int)))).bind fun t477 => (cubbylaw12_SpanInside.j0 k (Int.tmod (wrap64 (a1)) (l0_3.length : Int)) (Int.tmod (wrap64 (a2)) ((rd_LIns l0_3 (Int.tmod (wrap64 (a1)) (l0_3.length : Int))).length : Int)) t466 t469 (!t477) a0_0 a0_1 a0_2 l0_3)) else (none)) else (none)) else (cubbylaw12_SpanInside.j0 k (Int.tmod (wrap64 (a1)) (l0_3.length : Int)) (Int.tmod (wrap64 (a2)) ((rd_LIns l0_3 (Int.tmod (wrap64 (a1)) (l0_3.length : Int))).length : Int)) t466 t469 true a0_0 a0_1 a0_2 l0_3)) else (cubbylaw12_SpanInside.j0 k (Int.tmod (wrap64 (a1)) (l0_3.length : Int)) (Int.tmod (wrap64 (a2)) ((rd_LIns l0_3 (Int.tmod (wrap64 (a1)) (l0_3.length : Int))).length : Int)) t466 t469 true a0_0 a0_1 a0_2 l0_3)))))) else (none)) else (none))))
set_option maxHeartbeats 8000000 in
set_option maxRecDepth 100000 in
theorem cubbylaw12_SpanInside.calls (k : Nat) (a0_0 : ByteArray) (a0_1 : Int) (a0_2 : Int) (A0_3 : Option Addr) (c0_3 : Nat) (l0_3 : List (List (SIns))) (a1 : Int) (a2 : Int) (r : Bool) (w : World) (hL : LaidW w) (hr : r = true) (hr0_3 : Kd.C (Kd.slice 38 kIns) w A0_3 l0_3.length l0_3) (hc0_3 : l0_3.length ≤ c0_3) (h : cubbylaw12_SpanInside.f k a0_0 a0_1 a0_2 l0_3 a1 a2 = some r) :
  Calls Tryd.prog 3 #[.agg #[.string a0_0, .int .i64 a0_1, .int .i64 a0_2, .slice A0_3 l0_3.length c0_3], .int .u8 a1, .int .u8 a2] w fun e w' => e = .returned (.bool r) ∧ Below w.heap.size w w' := by
 have hu24 := Tryd.underlying24
 have hu28 := Tryd.underlying28
 have hu38 := Tryd.underlying38
 have HR0_3 := Aside0.mk hr0_3
 have HC0_3 := Aside0.mk hc0_3
 clear hr0_3 hc0_3
 have HB := Aside0.mk (Below.refl w.heap.size w)
 have HLd := Aside0.mk hL
 clear hL
 have HRt := Aside0.mk hr
 clear hr
 have H := h; clear h; unfold cubbylaw12_SpanInside.f at H
 replace H := qb H; obtain ⟨t463, A4, H⟩ := H
 by_cases c5 : t463 = true
 ·subst c5
  have H1 : ((span_Meet.f 1 3 3 3).bind fun t464 => (some t464)) = some r := by rw [if_pos rfl] at H; exact H
  clear H
  have H := H1
  clear H1
  replace H := qb H; obtain ⟨t464, A6, H⟩ := H
  obtain rfl := Option.some.inj H
  go_enter Tryd.func3, Tryd.ntmps3
  go_wp2_with (first | ((with_reducible refine gate_dst (N := 3) rfl ?_); (try (refine gate_guard (by rfl) ?_; dsimp only)); refine box_event (by rfl) (N := 3) (by rfl) (cs := #[.string a0_0, .int .i64 a0_1, .int .i64 a0_2, .slice A0_3 l0_3.length c0_3]) (t := 24) ?hr ?_; (case hr => first | (go_simp; done) | (go_simp; rfl)); intro gb462 hg w7 hbox hb; have BK462 := Aside0.mk (hbox); have GW462 := qG hg; have GE462 := GW462; replace HB := qH hb; clear hb hbox hg; have z8_0 := bk4 BK462.out) | (go_at_call 11; (with_reducible refine (cubbylaw12_heavy.calls k a0_0 a0_1 a0_2 _ _ l0_3 true _ ?side1 ?side2 A4.out).mono ?_); (case side1 => exact qCB HR0_3.out); (case side2 => exact HC0_3.out); rintro e w9 ⟨rfl, hb⟩; replace BK462 := qW BK462 hb; replace HB := qH hb; (try clear hb)) | (go_at_call 12; (with_reducible refine (span_Meet.calls 1 3 3 3 t464 _ A6.out).mono ?_); rintro e w10 ⟨rfl, hb⟩; replace BK462 := qW BK462 hb; replace HB := qH hb; (try clear hb)))
  repeat (go_quiet (first | ((with_reducible refine gate_dst (N := 3) rfl ?_); (try (refine gate_guard (by rfl) ?_; dsimp only)); refine box_event (by rfl) (N := 3) (by rfl) (cs := #[.string a0_0, .int .i64 a0_1, .int .i64 a0_2, .slice A0_3 l0_3.length c0_3]) (t := 24) ?hr ?_; (case hr => first | (go_simp; done) | (go_simp; rfl)); intro gb462 hg w7 hbox hb; have BK462 := Aside0.mk (hbox); have GW462 := qG hg; have GE462 := GW462; replace HB := qH hb; clear hb hbox hg; have z8_0 := bk4 BK462.out) | (go_at_call 11; (with_reducible refine (cubbylaw12_heavy.calls k a0_0 a0_1 a0_2 _ _ l0_3 true _ ?side1 ?side2 A4.out).mono ?_); (case side1 => exact qCB HR0_3.out); (case side2 => exact HC0_3.out); rintro e w9 ⟨rfl, hb⟩; replace BK462 := qW BK462 hb; replace HB := qH hb; (try clear hb)) | (go_at_call 12; (with_reducible refine (span_Meet.calls 1 3 3 3 t464 _ A6.out).mono ?_); rintro e w10 ⟨rfl, hb⟩; replace BK462 := qW BK462 hb; replace HB := qH hb; (try clear hb))); try go_wp2_with (first | ((with_reducible refine gate_dst (N := 3) rfl ?_); (try (refine gate_guard (by rfl) ?_; dsimp only)); refine box_event (by rfl) (N := 3) (by rfl) (cs := #[.string a0_0, .int .i64 a0_1, .int .i64 a0_2, .slice A0_3 l0_3.length c0_3]) (t := 24) ?hr ?_; (case hr => first | (go_simp; done) | (go_simp; rfl)); intro gb462 hg w7 hbox hb; have BK462 := Aside0.mk (hbox); have GW462 := qG hg; have GE462 := GW462; replace HB := qH hb; clear hb hbox hg; have z8_0 := bk4 BK462.out) | (go_at_call 11; (with_reducible refine (cubbylaw12_heavy.calls k a0_0 a0_1 a0_2 _ _ l0_3 true _ ?side1 ?side2 A4.out).mono ?_); (case side1 => exact qCB HR0_3.out); (case side2 => exact HC0_3.out); rintro e w9 ⟨rfl, hb⟩; replace BK462 := qW BK462 hb; replace HB := qH hb; (try clear hb)) | (go_at_call 12; (with_reducible refine (span_Meet.calls 1 3 3 3 t464 _ A6.out).mono ?_); rintro e w10 ⟨rfl, hb⟩; replace BK462 := qW BK462 hb; replace HB := qH hb; (try clear hb))))
  go_ret
  exact ⟨qE, qB⟩
 ·replace c5 := Bool.eq_false_iff.mpr c5
  subst c5
  have H1 : (if (l0_3.length : Int) = 0 then (none) else (if 0 ≤ (Int.tmod (wrap64 (a1)) (l0_3.length : Int)) then (if (Int.tmod (wrap64 (a1)) (l0_3.length : Int)) < (l0_3.length : Int) then (if ((rd_LIns l0_3 (Int.tmod (wrap64 (a1)) (l0_3.length : Int))).length : Int) = 0 then (none) else ((span_Places.f k a0_0 a0_1 a0_2 l0_3).bind fun t466 => ((span_Spans.f k a0_0 a0_1 a0_2 l0_3).bind fun t469 => ((cubbyref12_Places.f k a0_0 a0_1 a0_2 l0_3).bind fun t472 => (if (t466.length : Int) = (t472.length : Int) then (if (t469.length : Int) = a0_2 then (if (Int.tmod (wrap64 (a1)) (l0_3.length : Int)) < (t466.length : Int) then (if (Int.tmod (wrap64 (a1)) (l0_3.length : Int)) < (t472.length : Int) then ((cubbyref10_Ints.f k (rd_LInt t466 (Int.tmod (wrap64 (a1)) (l0_3.length : Int))) (rd_LInt t472 (Int.tmod (wrap64 (a1)) (l0_3.length : Int)))).bind fun t477 => (cubbylaw12_SpanInside.j0 k (Int.tmod (wrap64 (a1)) (l0_3.length : Int)) (Int.tmod (wrap64 (a2)) ((rd_LIns l0_3 (Int.tmod (wrap64 (a1)) (l0_3.length : Int))).length : Int)) t466 t469 (!t477) a0_0 a0_1 a0_2 l0_3)) else (none)) else (none)) else (cubbylaw12_SpanInside.j0 k (Int.tmod (wrap64 (a1)) (l0_3.length : Int)) (Int.tmod (wrap64 (a2)) ((rd_LIns l0_3 (Int.tmod (wrap64 (a1)) (l0_3.length : Int))).length : Int)) t466 t469 true a0_0 a0_1 a0_2 l0_3)) else (cubbylaw12_SpanInside.j0 k (Int.tmod (wrap64 (a1)) (l0_3.length : Int)) (Int.tmod (wrap64 (a2)) ((rd_LIns l0_3 (Int.tmod (wrap64 (a1)) (l0_3.length : Int))).length : Int)) t466 t469 true a0_0 a0_1 a0_2 l0_3)))))) else (none)) else (none))) = some r := by rw [if_neg (show ¬ (false = true) by decide)] at H; exact H
  clear H
  have H := H1
  clear H1
  by_cases c11 : (l0_3.length : Int) = 0
  ·rw [if_pos c11] at H
   exact absurd H (by simp)
  ·rw [if_neg c11] at H
   obtain ⟨c11b0, c11b1⟩ := qn c11
   have c11b2 : ¬ (l0_3 = []) := fun h_ => c11 (by rw [h_]; rfl)
   obtain ⟨ji12, hji12⟩ : ∃ j_ : Int, (Int.tmod (wrap64 (a1)) (l0_3.length : Int)) = j_ := ⟨_, rfl⟩
   replace H : (if 0 ≤ (ji12) then (if (ji12) < (l0_3.length : Int) then (if ((rd_LIns l0_3 (ji12)).length : Int) = 0 then (none) else ((span_Places.f k a0_0 a0_1 a0_2 l0_3).bind fun t466 => ((span_Spans.f k a0_0 a0_1 a0_2 l0_3).bind fun t469 => ((cubbyref12_Places.f k a0_0 a0_1 a0_2 l0_3).bind fun t472 => (if (t466.length : Int) = (t472.length : Int) then (if (t469.length : Int) = a0_2 then (if (ji12) < (t466.length : Int) then (if (ji12) < (t472.length : Int) then ((cubbyref10_Ints.f k (rd_LInt t466 (ji12)) (rd_LInt t472 (ji12))).bind fun t477 => (cubbylaw12_SpanInside.j0 k ji12 (Int.tmod (wrap64 (a2)) ((rd_LIns l0_3 (ji12)).length : Int)) t466 t469 (!t477) a0_0 a0_1 a0_2 l0_3)) else (none)) else (none)) else (cubbylaw12_SpanInside.j0 k ji12 (Int.tmod (wrap64 (a2)) ((rd_LIns l0_3 (ji12)).length : Int)) t466 t469 true a0_0 a0_1 a0_2 l0_3)) else (cubbylaw12_SpanInside.j0 k ji12 (Int.tmod (wrap64 (a2)) ((rd_LIns l0_3 (ji12)).length : Int)) t466 t469 true a0_0 a0_1 a0_2 l0_3)))))) else (none)) else (none)) = some r := by first | (rw [hji12] at H; exact H) | (simp only [hji12] at H ⊢; exact H)
   (try rw [hji12] at A4)
   by_cases c13 : 0 ≤ (ji12)
   ·rw [if_pos c13] at H
    have c13b0 := decide_eq_true c13
    clear c13
    by_cases c14 : (ji12) < (l0_3.length : Int)
    ·rw [if_pos c14] at H
     have c14b0 := decide_eq_true c14
     clear c14
     by_cases c15 : ((rd_LIns l0_3 (ji12)).length : Int) = 0
     ·rw [if_pos c15] at H
      exact absurd H (by simp)
     ·rw [if_neg c15] at H
      obtain ⟨c15b0, c15b1⟩ := qn c15
      have c15b2 : ¬ ((rd_LIns l0_3 (ji12)) = []) := fun h_ => c15 (by rw [h_]; rfl)
      replace H := qb H; obtain ⟨t466, A16, H⟩ := H
      replace H := qb H; obtain ⟨t469, A17, H⟩ := H
      replace H := qb H; obtain ⟨t472, A18, H⟩ := H
      have HC19 := Aside0.mk H
      clear H
      go_enter Tryd.func3, Tryd.ntmps3
      go_upto_region 8 with (first | ((with_reducible refine gate_dst (N := 3) rfl ?_); (try (refine gate_guard (by rfl) ?_; dsimp only)); refine box_event (by rfl) (N := 3) (by rfl) (cs := #[.string a0_0, .int .i64 a0_1, .int .i64 a0_2, .slice A0_3 l0_3.length c0_3]) (t := 24) ?hr ?_; (case hr => first | (go_simp; done) | (go_simp; rfl)); intro gb462 hg w20 hbox hb; have BK462 := Aside0.mk (hbox); have GW462 := qG hg; have GE462 := GW462; replace HB := qH hb; clear hb hbox hg; have z21_0 := bk4 BK462.out) | (go_at_call 11; (with_reducible refine (cubbylaw12_heavy.calls k a0_0 a0_1 a0_2 _ _ l0_3 false _ ?side1 ?side2 A4.out).mono ?_); (case side1 => exact qCB HR0_3.out); (case side2 => exact HC0_3.out); rintro e w22 ⟨rfl, hb⟩; replace BK462 := qW BK462 hb; replace HB := qH hb; (try clear hb); have z23_0 := bk4 BK462.out; have p465 : 0 ≤ ((ji12) : Int) := of_decide_eq_true qA; have q465 : (ji12) < (l0_3.length : Int) := of_decide_eq_true qA; obtain ⟨ad465, A465_0, c465_0, e465, hx465_0, hl465_0, hi465_0⟩ := at_LIns HR0_3.out (ji12) p465 q465; cases e465; replace hx465_0 := (HB.out.cell (World.block_lt_of_cell? w _ hx465_0)).trans hx465_0; have HR465_0 := Aside0.mk hi465_0; have HC465_0 := Aside0.mk hl465_0; clear hi465_0 hl465_0; replace p465 := eq_true p465; replace q465 := eq_true q465) | (go_at_call 13; (with_reducible refine (span_Places.calls k a0_0 a0_1 a0_2 _ _ l0_3 t466 _ ?side1 ?side2 A16.out (hL := ?side99)).mono ?_); (case side1 => exact qCB HR0_3.out); (case side2 => exact HC0_3.out); (case side99 => exact LaidW.below HLd.out qB); rintro e w24 ⟨v467, rfl, ho0, hb⟩; have HO468 := Aside0.mk (Kd.S_lower ho0 (below_size qB)); replace BK462 := qW BK462 hb; replace HB := qH hb; (try clear hb); (try clear ho0); have z25_0 := bk4 BK462.out) | (go_at_call 14; (with_reducible refine (span_Spans.calls k a0_0 a0_1 a0_2 _ _ l0_3 t469 _ ?side1 ?side2 A17.out (hL := ?side99)).mono ?_); (case side1 => exact qCB HR0_3.out); (case side2 => exact HC0_3.out); (case side99 => exact LaidW.below HLd.out qB); rintro e w26 ⟨v470, rfl, ho0, hb⟩; replace HO468 := Aside0.mk (Kd.S_below (qS HO468.out) hb); have HO471 := Aside0.mk (Kd.R_lower ho0 (below_size qB)); replace BK462 := qW BK462 hb; replace HB := qH hb; (try clear hb); (try clear ho0); have z27_0 := bk4 BK462.out) | (go_at_call 15; (with_reducible refine (cubbyref12_Places.calls k a0_0 a0_1 a0_2 _ _ l0_3 t472 _ ?side1 ?side2 A18.out).mono ?_); (case side1 => exact qCB HR0_3.out); (case side2 => exact HC0_3.out); rintro e w28 ⟨v473, rfl, ho0, hb⟩; replace HO471 := Aside0.mk (Kd.R_below (qR HO471.out) hb); have HO474 := Aside0.mk (Kd.S_lower (Kd.S_new' ho0 (Kd.S_lt (qS HO468.out))) (below_size qB)); replace HO468 := Aside0.mk (Kd.S_elder' (qS HO468.out) (Kd.S_base ho0) hb); replace BK462 := qW BK462 hb; replace HB := qH hb; (try clear hb); (try clear ho0)))
      repeat (go_quiet (first | ((with_reducible refine gate_dst (N := 3) rfl ?_); (try (refine gate_guard (by rfl) ?_; dsimp only)); refine box_event (by rfl) (N := 3) (by rfl) (cs := #[.string a0_0, .int .i64 a0_1, .int .i64 a0_2, .slice A0_3 l0_3.length c0_3]) (t := 24) ?hr ?_; (case hr => first | (go_simp; done) | (go_simp; rfl)); intro gb462 hg w20 hbox hb; have BK462 := Aside0.mk (hbox); have GW462 := qG hg; have GE462 := GW462; replace HB := qH hb; clear hb hbox hg; have z21_0 := bk4 BK462.out) | (go_at_call 11; (with_reducible refine (cubbylaw12_heavy.calls k a0_0 a0_1 a0_2 _ _ l0_3 false _ ?side1 ?side2 A4.out).mono ?_); (case side1 => exact qCB HR0_3.out); (case side2 => exact HC0_3.out); rintro e w22 ⟨rfl, hb⟩; replace BK462 := qW BK462 hb; replace HB := qH hb; (try clear hb); have z23_0 := bk4 BK462.out; have p465 : 0 ≤ ((ji12) : Int) := of_decide_eq_true qA; have q465 : (ji12) < (l0_3.length : Int) := of_decide_eq_true qA; obtain ⟨ad465, A465_0, c465_0, e465, hx465_0, hl465_0, hi465_0⟩ := at_LIns HR0_3.out (ji12) p465 q465; cases e465; replace hx465_0 := (HB.out.cell (World.block_lt_of_cell? w _ hx465_0)).trans hx465_0; have HR465_0 := Aside0.mk hi465_0; have HC465_0 := Aside0.mk hl465_0; clear hi465_0 hl465_0; replace p465 := eq_true p465; replace q465 := eq_true q465) | (go_at_call 13; (with_reducible refine (span_Places.calls k a0_0 a0_1 a0_2 _ _ l0_3 t466 _ ?side1 ?side2 A16.out (hL := ?side99)).mono ?_); (case side1 => exact qCB HR0_3.out); (case side2 => exact HC0_3.out); (case side99 => exact LaidW.below HLd.out qB); rintro e w24 ⟨v467, rfl, ho0, hb⟩; have HO468 := Aside0.mk (Kd.S_lower ho0 (below_size qB)); replace BK462 := qW BK462 hb; replace HB := qH hb; (try clear hb); (try clear ho0); have z25_0 := bk4 BK462.out) | (go_at_call 14; (with_reducible refine (span_Spans.calls k a0_0 a0_1 a0_2 _ _ l0_3 t469 _ ?side1 ?side2 A17.out (hL := ?side99)).mono ?_); (case side1 => exact qCB HR0_3.out); (case side2 => exact HC0_3.out); (case side99 => exact LaidW.below HLd.out qB); rintro e w26 ⟨v470, rfl, ho0, hb⟩; replace HO468 := Aside0.mk (Kd.S_below (qS HO468.out) hb); have HO471 := Aside0.mk (Kd.R_lower ho0 (below_size qB)); replace BK462 := qW BK462 hb; replace HB := qH hb; (try clear hb); (try clear ho0); have z27_0 := bk4 BK462.out) | (go_at_call 15; (with_reducible refine (cubbyref12_Places.calls k a0_0 a0_1 a0_2 _ _ l0_3 t472 _ ?side1 ?side2 A18.out).mono ?_); (case side1 => exact qCB HR0_3.out); (case side2 => exact HC0_3.out); rintro e w28 ⟨v473, rfl, ho0, hb⟩; replace HO471 := Aside0.mk (Kd.R_below (qR HO471.out) hb); have HO474 := Aside0.mk (Kd.S_lower (Kd.S_new' ho0 (Kd.S_lt (qS HO468.out))) (below_size qB)); replace HO468 := Aside0.mk (Kd.S_elder' (qS HO468.out) (Kd.S_base ho0) hb); replace BK462 := qW BK462 hb; replace HB := qH hb; (try clear hb); (try clear ho0))); go_upto_region 8 with (first | ((with_reducible refine gate_dst (N := 3) rfl ?_); (try (refine gate_guard (by rfl) ?_; dsimp only)); refine box_event (by rfl) (N := 3) (by rfl) (cs := #[.string a0_0, .int .i64 a0_1, .int .i64 a0_2, .slice A0_3 l0_3.length c0_3]) (t := 24) ?hr ?_; (case hr => first | (go_simp; done) | (go_simp; rfl)); intro gb462 hg w20 hbox hb; have BK462 := Aside0.mk (hbox); have GW462 := qG hg; have GE462 := GW462; replace HB := qH hb; clear hb hbox hg; have z21_0 := bk4 BK462.out) | (go_at_call 11; (with_reducible refine (cubbylaw12_heavy.calls k a0_0 a0_1 a0_2 _ _ l0_3 false _ ?side1 ?side2 A4.out).mono ?_); (case side1 => exact qCB HR0_3.out); (case side2 => exact HC0_3.out); rintro e w22 ⟨rfl, hb⟩; replace BK462 := qW BK462 hb; replace HB := qH hb; (try clear hb); have z23_0 := bk4 BK462.out; have p465 : 0 ≤ ((ji12) : Int) := of_decide_eq_true qA; have q465 : (ji12) < (l0_3.length : Int) := of_decide_eq_true qA; obtain ⟨ad465, A465_0, c465_0, e465, hx465_0, hl465_0, hi465_0⟩ := at_LIns HR0_3.out (ji12) p465 q465; cases e465; replace hx465_0 := (HB.out.cell (World.block_lt_of_cell? w _ hx465_0)).trans hx465_0; have HR465_0 := Aside0.mk hi465_0; have HC465_0 := Aside0.mk hl465_0; clear hi465_0 hl465_0; replace p465 := eq_true p465; replace q465 := eq_true q465) | (go_at_call 13; (with_reducible refine (span_Places.calls k a0_0 a0_1 a0_2 _ _ l0_3 t466 _ ?side1 ?side2 A16.out (hL := ?side99)).mono ?_); (case side1 => exact qCB HR0_3.out); (case side2 => exact HC0_3.out); (case side99 => exact LaidW.below HLd.out qB); rintro e w24 ⟨v467, rfl, ho0, hb⟩; have HO468 := Aside0.mk (Kd.S_lower ho0 (below_size qB)); replace BK462 := qW BK462 hb; replace HB := qH hb; (try clear hb); (try clear ho0); have z25_0 := bk4 BK462.out) | (go_at_call 14; (with_reducible refine (span_Spans.calls k a0_0 a0_1 a0_2 _ _ l0_3 t469 _ ?side1 ?side2 A17.out (hL := ?side99)).mono ?_); (case side1 => exact qCB HR0_3.out); (case side2 => exact HC0_3.out); (case side99 => exact LaidW.below HLd.out qB); rintro e w26 ⟨v470, rfl, ho0, hb⟩; replace HO468 := Aside0.mk (Kd.S_below (qS HO468.out) hb); have HO471 := Aside0.mk (Kd.R_lower ho0 (below_size qB)); replace BK462 := qW BK462 hb; replace HB := qH hb; (try clear hb); (try clear ho0); have z27_0 := bk4 BK462.out) | (go_at_call 15; (with_reducible refine (cubbyref12_Places.calls k a0_0 a0_1 a0_2 _ _ l0_3 t472 _ ?side1 ?side2 A18.out).mono ?_); (case side1 => exact qCB HR0_3.out); (case side2 => exact HC0_3.out); rintro e w28 ⟨v473, rfl, ho0, hb⟩; replace HO471 := Aside0.mk (Kd.R_below (qR HO471.out) hb); have HO474 := Aside0.mk (Kd.S_lower (Kd.S_new' ho0 (Kd.S_lt (qS HO468.out))) (below_size qB)); replace HO468 := Aside0.mk (Kd.S_elder' (qS HO468.out) (Kd.S_base ho0) hb); replace BK462 := qW BK462 hb; replace HB := qH hb; (try clear hb); (try clear ho0))))
      (try simp only [Act.put, List.setIfInBounds_toArray, List.set_cons_zero, List.set_cons_succ])
      go_cut [66] (fun v66 wc => ∃ (kq : Nat) (x66_18 : Bool), v66 = .bool x66_18 ∧ Aside0 (cubbylaw12_SpanInside.j0 kq ji12 (Int.tmod (wrap64 (a2)) ((rd_LIns l0_3 (ji12)).length : Int)) t466 t469 x66_18 a0_0 a0_1 a0_2 l0_3 = some r) ∧ Aside0 (kq ≤ k) ∧ Aside0 (Kd.S (Kd.slice 3 (Kd.int .i64)) 35 wc w.heap.size (fun _ => True) v467 t466) ∧ Aside0 (Kd.R kSpan 28 wc w.heap.size (fun _ => True) v470 t469) ∧ Aside0 (wc.heap[gb462]? = some (.cells #[.string a0_0, .int .i64 a0_1, .int .i64 a0_2, (.slice (some ad465) l0_3.length c0_3)] 24 (0, 0))) ∧ Aside0 (Below w.heap.size w wc))
      case first =>
       have H := HC19.out
       clear HC19
       by_cases c29 : (t466.length : Int) = (t472.length : Int)
       ·rw [if_pos c29] at H
        obtain ⟨c29b0, c29b1⟩ := qe c29
        have c29b2 : (t466.length == t472.length) = true := by first | simpa using c29 | (simp at c29 ⊢; omega)
        clear c29
        (first | rw [c29b0] | (simp only [i64_w, i32_w]; rw [c29b0]) | skip)
        by_cases c30 : (t469.length : Int) = a0_2
        ·rw [if_pos c30] at H
         obtain ⟨c30b0, c30b1⟩ := qe c30; clear c30
         by_cases c31 : (ji12) < (t466.length : Int)
         ·rw [if_pos c31] at H
          have c31b0 := decide_eq_true c31
          clear c31
          by_cases c32 : (ji12) < (t472.length : Int)
          ·rw [if_pos c32] at H
           have c32b0 := decide_eq_true c32
           clear c32
           replace H := qb H; obtain ⟨t477, A33, H⟩ := H
           have H' := Aside0.mk H
           clear H
           obtain ⟨Ao34, co34, eo34⟩ := Kd.S_slice HO468.out
           subst eo34
           obtain ⟨Ao35, co35, eo35⟩ := Kd.S_slice HO474.out
           subst eo35
           obtain ⟨Ao36, co36, eo36⟩ := Kd.R_slice HO471.out
           subst eo36
           have z37_0 := bk4 BK462.out
           have p475 : 0 ≤ ((ji12) : Int) := of_decide_eq_true qA
           have q475 : (ji12) < (t466.length : Int) := of_decide_eq_true qA
           obtain ⟨ad475, A475_0, c475_0, e475, hx475_0, hl475_0, hi475_0⟩ := at_LInt (Kd.S_reads' HO468.out).2.2 (ji12) p475 q475
           cases e475
           obtain ⟨ce475, hce475, hMe475, hcc475⟩ := Kd.S_get HO468.out [] (ji12) p475 (by first | exact q475 | exact of_decide_eq_true qA | (have e_ := (Kd.S_reads' HO468.out).1; omega))
           obtain ⟨ve475_0, rfl, ge475_0⟩ := hMe475
           have hv475_0 := hcc475 0 _ rfl
           rw [Nat.add_zero, show ((Kd.slice 3 (Kd.int .i64))).sz = 1 from rfl, Nat.mul_one] at hv475_0
           replace hv475_0 := Option.some.inj (hv475_0.symm.trans hx475_0)
           rw [hv475_0] at ge475_0
           have HL475_0 := Aside0.mk (show Kd.R (Kd.int .i64) 3 _ _ _ _ (rd_LInt t466 (ji12)) from ge475_0)
           clear hv475_0 ge475_0
           clear hcc475 hce475
           have HR475_0 := Aside0.mk hi475_0
           have HC475_0 := Aside0.mk hl475_0
           clear hi475_0 hl475_0
           replace p475 := eq_true p475
           replace q475 := eq_true q475
           have p476 : 0 ≤ ((ji12) : Int) := of_decide_eq_true qA
           have q476 : (ji12) < (t472.length : Int) := of_decide_eq_true qA
           obtain ⟨ad476, A476_0, c476_0, e476, hx476_0, hl476_0, hi476_0⟩ := at_LInt (Kd.S_reads' HO474.out).2.2 (ji12) p476 q476
           cases e476
           obtain ⟨ce476, hce476, hMe476, hcc476⟩ := Kd.S_get HO474.out [] (ji12) p476 (by first | exact q476 | exact of_decide_eq_true qA | (have e_ := (Kd.S_reads' HO474.out).1; omega))
           obtain ⟨ve476_0, rfl, ge476_0⟩ := hMe476
           have hv476_0 := hcc476 0 _ rfl
           rw [Nat.add_zero, show ((Kd.slice 3 (Kd.int .i64))).sz = 1 from rfl, Nat.mul_one] at hv476_0
           replace hv476_0 := Option.some.inj (hv476_0.symm.trans hx476_0)
           rw [hv476_0] at ge476_0
           have HL476_0 := Aside0.mk (show Kd.R (Kd.int .i64) 3 _ _ _ _ (rd_LInt t472 (ji12)) from ge476_0)
           clear hv476_0 ge476_0
           clear hcc476 hce476
           have HR476_0 := Aside0.mk hi476_0
           have HC476_0 := Aside0.mk hl476_0
           clear hi476_0 hl476_0
           replace p476 := eq_true p476
           replace q476 := eq_true q476
           go_wp2_with (first | (go_at_call 16; (with_reducible refine (cubbyref10_Ints.calls k _ _ (rd_LInt t466 (ji12)) _ _ (rd_LInt t472 (ji12)) t477 _ ?side1 ?side2 ?side3 ?side4 A33.out).mono ?_); (case side1 => repeat (first | exact (by repeat (first | (with_reducible exact HR475_0.out) | (with_reducible refine Kd.C_alloc ?_ _) | (with_reducible refine Kd.C_drewN ?_ _) | (with_reducible refine Kd.C_drew ?_) | exact HR475_0.out)) | (with_reducible refine Kd.C_alloc ?_ _) | (with_reducible refine Kd.C_drewN ?_ _) | (with_reducible refine Kd.C_drew ?_))); (case side2 => exact HC475_0.out); (case side3 => repeat (first | exact (by repeat (first | (with_reducible exact HR476_0.out) | (with_reducible refine Kd.C_alloc ?_ _) | (with_reducible refine Kd.C_drewN ?_ _) | (with_reducible refine Kd.C_drew ?_) | exact HR476_0.out)) | (with_reducible refine Kd.C_alloc ?_ _) | (with_reducible refine Kd.C_drewN ?_ _) | (with_reducible refine Kd.C_drew ?_))); (case side4 => exact HC476_0.out); (try clear A33); rintro e w' ⟨rfl, ⟨nd, rfl⟩⟩; (try first | exact ⟨rfl, _, World.drewN_drewN _ _ _⟩ | exact ⟨rfl, _, Eq.trans (World.drewN_drewN _ _ _) (congrArg (World.drewN _) (Nat.add_assoc _ _ _))⟩)))
           repeat (go_quiet (first | (go_at_call 16; (with_reducible refine (cubbyref10_Ints.calls k _ _ (rd_LInt t466 (ji12)) _ _ (rd_LInt t472 (ji12)) t477 _ ?side1 ?side2 ?side3 ?side4 A33.out).mono ?_); (case side1 => repeat (first | exact (by repeat (first | (with_reducible exact HR475_0.out) | (with_reducible refine Kd.C_alloc ?_ _) | (with_reducible refine Kd.C_drewN ?_ _) | (with_reducible refine Kd.C_drew ?_) | exact HR475_0.out)) | (with_reducible refine Kd.C_alloc ?_ _) | (with_reducible refine Kd.C_drewN ?_ _) | (with_reducible refine Kd.C_drew ?_))); (case side2 => exact HC475_0.out); (case side3 => repeat (first | exact (by repeat (first | (with_reducible exact HR476_0.out) | (with_reducible refine Kd.C_alloc ?_ _) | (with_reducible refine Kd.C_drewN ?_ _) | (with_reducible refine Kd.C_drew ?_) | exact HR476_0.out)) | (with_reducible refine Kd.C_alloc ?_ _) | (with_reducible refine Kd.C_drewN ?_ _) | (with_reducible refine Kd.C_drew ?_))); (case side4 => exact HC476_0.out); (try clear A33); rintro e w' ⟨rfl, ⟨nd, rfl⟩⟩; (try first | exact ⟨rfl, _, World.drewN_drewN _ _ _⟩ | exact ⟨rfl, _, Eq.trans (World.drewN_drewN _ _ _) (congrArg (World.drewN _) (Nat.add_assoc _ _ _))⟩))); try go_wp2_with (first | (go_at_call 16; (with_reducible refine (cubbyref10_Ints.calls k _ _ (rd_LInt t466 (ji12)) _ _ (rd_LInt t472 (ji12)) t477 _ ?side1 ?side2 ?side3 ?side4 A33.out).mono ?_); (case side1 => repeat (first | exact (by repeat (first | (with_reducible exact HR475_0.out) | (with_reducible refine Kd.C_alloc ?_ _) | (with_reducible refine Kd.C_drewN ?_ _) | (with_reducible refine Kd.C_drew ?_) | exact HR475_0.out)) | (with_reducible refine Kd.C_alloc ?_ _) | (with_reducible refine Kd.C_drewN ?_ _) | (with_reducible refine Kd.C_drew ?_))); (case side2 => exact HC475_0.out); (case side3 => repeat (first | exact (by repeat (first | (with_reducible exact HR476_0.out) | (with_reducible refine Kd.C_alloc ?_ _) | (with_reducible refine Kd.C_drewN ?_ _) | (with_reducible refine Kd.C_drew ?_) | exact HR476_0.out)) | (with_reducible refine Kd.C_alloc ?_ _) | (with_reducible refine Kd.C_drewN ?_ _) | (with_reducible refine Kd.C_drew ?_))); (case side4 => exact HC476_0.out); (try clear A33); rintro e w' ⟨rfl, ⟨nd, rfl⟩⟩; (try first | exact ⟨rfl, _, World.drewN_drewN _ _ _⟩ | exact ⟨rfl, _, Eq.trans (World.drewN_drewN _ _ _) (congrArg (World.drewN _) (Nat.add_assoc _ _ _))⟩))))
           go_meet
           case rel => exact ⟨_, (!t477), qT, H', ⟨qO⟩, ⟨by (with_reducible repeat (first | apply Kd.S_alloc | apply Kd.S_drewN | apply Kd.S_drew)); exact Kd.S_mono HO468.out (fun _ hk => trivial)⟩, ⟨qR HO471.out⟩, ⟨qK BK462.out⟩, ⟨qB⟩⟩
          ·rw [if_neg c32] at H
           exact absurd H (by simp)
         ·rw [if_neg c31] at H
          exact absurd H (by simp)
        ·rw [if_neg c30] at H
         obtain ⟨c30b0, c30b1⟩ := qn c30
         have H' := Aside0.mk H
         clear H
         obtain ⟨Ao38, co38, eo38⟩ := Kd.S_slice HO468.out
         subst eo38
         obtain ⟨Ao39, co39, eo39⟩ := Kd.S_slice HO474.out
         subst eo39
         obtain ⟨Ao40, co40, eo40⟩ := Kd.R_slice HO471.out
         subst eo40
         have z41_0 := bk4 BK462.out
         go_wp2
         repeat (go_quiet (fail); try go_wp2)
         go_meet
         case rel => exact ⟨_, (true), qT, H', ⟨qO⟩, ⟨by (with_reducible repeat (first | apply Kd.S_alloc | apply Kd.S_drewN | apply Kd.S_drew)); exact Kd.S_mono HO468.out (fun _ hk => trivial)⟩, ⟨qR HO471.out⟩, ⟨qK BK462.out⟩, ⟨qB⟩⟩
       ·rw [if_neg c29] at H
        obtain ⟨c29b0, c29b1⟩ := qn c29
        have c29b2 : (t466.length == t472.length) = false := by first | simpa using c29 | (simp at c29 ⊢; omega)
        (first | rw [c29b0] | (simp only [i64_w, i32_w]; rw [c29b0]) | skip)
        have H' := Aside0.mk H
        clear H
        obtain ⟨Ao42, co42, eo42⟩ := Kd.S_slice HO468.out
        subst eo42
        obtain ⟨Ao43, co43, eo43⟩ := Kd.S_slice HO474.out
        subst eo43
        go_wp2
        repeat (go_quiet (fail); try go_wp2)
        go_meet
        case rel => exact ⟨_, (true), qT, H', ⟨qO⟩, ⟨by (with_reducible repeat (first | apply Kd.S_alloc | apply Kd.S_drewN | apply Kd.S_drew)); exact Kd.S_mono HO468.out (fun _ hk => trivial)⟩, ⟨qR HO471.out⟩, ⟨qK BK462.out⟩, ⟨qB⟩⟩
      case rest =>
       clear HC19
       obtain ⟨kq, x66_18, rfl, HA, HJ18, HO_9, HO_10, BK462, HB⟩ := hcut
       cases kq with
       | zero => exact absurd HA.out (by simp [cubbylaw12_SpanInside.j0])
       | succ kj18 =>
        have H := HA.out
        clear HA
        simp only [cubbylaw12_SpanInside.j0] at H
        by_cases c44 : x66_18 = true
        ·subst c44
         have H1 : (some false) = some r := by rw [if_pos rfl] at H; exact H
         clear H
         have H := H1
         clear H1
         exact absurd ((Option.some.inj H).trans HRt.out) (by decide)
        ·replace c44 := Bool.eq_false_iff.mpr c44
         subst c44
         have H1 : (cubbylaw12_SpanInside.l0 kj18 ji12 (Int.tmod (wrap64 (a2)) ((rd_LIns l0_3 (ji12)).length : Int)) t466 t469 0 a0_0 a0_1 a0_2 l0_3) = some r := by rw [if_neg (show ¬ (false = true) by decide)] at H; exact H
         clear H
         have H := H1
         clear H1
         have H' := Aside0.mk H
         clear H
         go_wp2
         repeat (go_quiet (fail); try go_wp2)
         go_loopg [12] kj18 (fun kq v12 w' => ∃ (x12_2 : Int), v12 = .int .i64 x12_2 ∧ Aside0 (cubbylaw12_SpanInside.l0 kq ji12 (Int.tmod (wrap64 (a2)) ((rd_LIns l0_3 (ji12)).length : Int)) t466 t469 x12_2 a0_0 a0_1 a0_2 l0_3 = some r) ∧ Aside0 (kq ≤ kj18) ∧ Aside0 (Kd.S (Kd.slice 3 (Kd.int .i64)) 35 w' w.heap.size (fun _ => True) v467 t466) ∧ Aside0 (Kd.R kSpan 28 w' w.heap.size (fun _ => True) v470 t469) ∧ Aside0 (w'.heap[gb462]? = some (.cells #[.string a0_0, .int .i64 a0_1, .int .i64 a0_2, (.slice (some ad465) l0_3.length c0_3)] 24 (0, 0))) ∧ Aside0 (Below w.heap.size w w'))
         case atStart => exact ⟨(0), qT, H', ⟨Nat.le_refl _⟩, ⟨qS HO_9.out⟩, ⟨qR HO_10.out⟩, ⟨qK BK462.out⟩, ⟨qB⟩⟩
         case round =>
          clear H'
          obtain ⟨x12_2, rfl, HA, HK2, HO_9, HO_10, BK462, HB⟩ := hrel
          cases gk with
          | zero => exact absurd HA.out (by simp [cubbylaw12_SpanInside.l0])
          | succ k2 =>
           have H := HA.out
           clear HA
           simp only [cubbylaw12_SpanInside.l0] at H
           by_cases c45 : x12_2 < a0_1
           ·rw [if_pos c45] at H
            have c45b0 := decide_eq_true c45
            clear c45
            by_cases c46 : 0 ≤ x12_2
            ·rw [if_pos c46] at H
             have c46b0 := decide_eq_true c46
             clear c46
             by_cases c47 : x12_2 < (t469.length : Int)
             ·rw [if_pos c47] at H
              have c47b0 := decide_eq_true c47
              clear c47
              by_cases c48 : ((rd_TSpan t469 x12_2).f0) = 1
              ·rw [if_pos c48] at H
               obtain ⟨c48b0, c48b1⟩ := qe c48; clear c48
               have H' := Aside0.mk H
               clear H
               have z49_0 := bk4 BK462.out
               obtain ⟨Ao50, co50, eo50⟩ := Kd.R_slice HO_10.out
               subst eo50
               have p478 : 0 ≤ (x12_2 : Int) := of_decide_eq_true qA
               have q478 : x12_2 < (t469.length : Int) := of_decide_eq_true qA
               obtain ⟨ad478, e478, hx478_0, hx478_1⟩ := at_TSpan (Kd.R_reads' HO_10.out).2.2 x12_2 p478 q478
               cases e478
               replace p478 := eq_true p478
               replace q478 := eq_true q478
               go_wp2
               repeat (go_quiet (fail); try go_wp2)
               go_roundg k2
               case measure => have := HJ18.out; have := HK2.out; omega
               case rel => exact ⟨(wrap64 (x12_2 + 1)), qT, H', ⟨by have := HJ18.out; have := HK2.out; omega⟩, ⟨qS HO_9.out⟩, ⟨qR HO_10.out⟩, ⟨qK BK462.out⟩, ⟨qB⟩⟩
              ·rw [if_neg c48] at H
               obtain ⟨c48b0, c48b1⟩ := qn c48
               exact absurd ((Option.some.inj H).trans HRt.out) (by decide)
             ·rw [if_neg c47] at H
              exact absurd H (by simp)
            ·rw [if_neg c46] at H
             exact absurd H (by simp)
           ·rw [if_neg c45] at H
            have c45b0 := decide_eq_false c45
            clear c45
            by_cases c51 : 0 ≤ ji12
            ·rw [if_pos c51] at H
             have c51b0 := decide_eq_true c51
             clear c51
             by_cases c52 : ji12 < (t466.length : Int)
             ·rw [if_pos c52] at H
              have c52b0 := decide_eq_true c52
              clear c52
              by_cases c53 : ((rd_LInt t466 ji12).length : Int) = 0
              ·rw [if_pos c53] at H
               obtain ⟨c53b0, c53b1⟩ := qe c53; clear c53
               obtain rfl := Option.some.inj H
               have z54_0 := bk4 BK462.out
               obtain ⟨Ao55, co55, eo55⟩ := Kd.S_slice HO_9.out
               subst eo55
               have p479 : 0 ≤ (ji12 : Int) := of_decide_eq_true qA
               have q479 : ji12 < (t466.length : Int) := of_decide_eq_true qA
               obtain ⟨ad479, A479_0, c479_0, e479, hx479_0, hl479_0, hi479_0⟩ := at_LInt (Kd.S_reads' HO_9.out).2.2 ji12 p479 q479
               cases e479
               obtain ⟨ce479, hce479, hMe479, hcc479⟩ := Kd.S_get HO_9.out [] ji12 p479 (by first | exact q479 | exact of_decide_eq_true qA | (have e_ := (Kd.S_reads' HO_9.out).1; omega))
               obtain ⟨ve479_0, rfl, ge479_0⟩ := hMe479
               have hv479_0 := hcc479 0 _ rfl
               rw [Nat.add_zero, show ((Kd.slice 3 (Kd.int .i64))).sz = 1 from rfl, Nat.mul_one] at hv479_0
               replace hv479_0 := Option.some.inj (hv479_0.symm.trans hx479_0)
               rw [hv479_0] at ge479_0
               have HL479_0 := Aside0.mk (show Kd.R (Kd.int .i64) 3 _ _ _ _ (rd_LInt t466 ji12) from ge479_0)
               clear hv479_0 ge479_0
               clear hcc479 hce479
               have HR479_0 := Aside0.mk hi479_0
               have HC479_0 := Aside0.mk hl479_0
               clear hi479_0 hl479_0
               replace p479 := eq_true p479
               replace q479 := eq_true q479
               go_wp2
               repeat (go_quiet (fail); try go_wp2)
               go_ret
               exact ⟨by first | rfl | (simp [errW_none, errW_some] <;> rfl) | (simp only [← hji12]; first | rfl | (simp [errW_none, errW_some] <;> rfl)) | (simp [*, errW_none, errW_some] <;> rfl), qB⟩
              ·rw [if_neg c53] at H
               obtain ⟨c53b0, c53b1⟩ := qn c53
               have c53b2 : ¬ ((rd_LInt t466 ji12) = []) := fun h_ => c53 (by rw [h_]; rfl)
               obtain ⟨ji56, hji56⟩ : ∃ j_ : Int, (Int.tmod (wrap64 (a2)) ((rd_LIns l0_3 (ji12)).length : Int)) = j_ := ⟨_, rfl⟩
               replace H : (if 0 ≤ (ji56) then (if (ji56) < ((rd_LInt t466 ji12).length : Int) then (if ji12 < (l0_3.length : Int) then (if (ji56) < ((rd_LIns l0_3 ji12).length : Int) then ((cubbyref07_Uses.f k2 ((rd_TIns (rd_LIns l0_3 ji12) (ji56)).f0) ((rd_TIns (rd_LIns l0_3 ji12) (ji56)).f1) ((rd_TIns (rd_LIns l0_3 ji12) (ji56)).f2) ((rd_TIns (rd_LIns l0_3 ji12) (ji56)).f3) ((rd_TIns (rd_LIns l0_3 ji12) (ji56)).f4) ((rd_TIns (rd_LIns l0_3 ji12) (ji56)).f5)).bind fun t484 => (cubbylaw12_SpanInside.l1 k2 ji12 (ji56) t469 (rd (rd_LInt t466 ji12) (ji56)) t484 0 a0_0 a0_1 a0_2 l0_3)) else (none)) else (none)) else (none)) else (none)) = some r := by first | (rw [hji56] at H; exact H) | (simp only [hji56] at H ⊢; exact H)
               by_cases c57 : 0 ≤ (ji56)
               ·rw [if_pos c57] at H
                have c57b0 := decide_eq_true c57
                clear c57
                by_cases c58 : (ji56) < ((rd_LInt t466 ji12).length : Int)
                ·rw [if_pos c58] at H
                 have c58b0 := decide_eq_true c58
                 clear c58
                 by_cases c59 : ji12 < (l0_3.length : Int)
                 ·rw [if_pos c59] at H
                  have c59b0 := decide_eq_true c59
                  clear c59
                  by_cases c60 : (ji56) < ((rd_LIns l0_3 ji12).length : Int)
                  ·rw [if_pos c60] at H
                   have c60b0 := decide_eq_true c60
                   clear c60
                   replace H := qb H; obtain ⟨t484, A61, H⟩ := H
                   have H' := Aside0.mk H
                   clear H
                   have z62_0 := bk4 BK462.out
                   obtain ⟨Ao63, co63, eo63⟩ := Kd.S_slice HO_9.out
                   subst eo63
                   have p479 : 0 ≤ (ji12 : Int) := of_decide_eq_true qA
                   have q479 : ji12 < (t466.length : Int) := of_decide_eq_true qA
                   obtain ⟨ad479, A479_0, c479_0, e479, hx479_0, hl479_0, hi479_0⟩ := at_LInt (Kd.S_reads' HO_9.out).2.2 ji12 p479 q479
                   cases e479
                   obtain ⟨ce479, hce479, hMe479, hcc479⟩ := Kd.S_get HO_9.out [] ji12 p479 (by first | exact q479 | exact of_decide_eq_true qA | (have e_ := (Kd.S_reads' HO_9.out).1; omega))
                   obtain ⟨ve479_0, rfl, ge479_0⟩ := hMe479
                   have hv479_0 := hcc479 0 _ rfl
                   rw [Nat.add_zero, show ((Kd.slice 3 (Kd.int .i64))).sz = 1 from rfl, Nat.mul_one] at hv479_0
                   replace hv479_0 := Option.some.inj (hv479_0.symm.trans hx479_0)
                   rw [hv479_0] at ge479_0
                   have HL479_0 := Aside0.mk (show Kd.R (Kd.int .i64) 3 _ _ _ _ (rd_LInt t466 ji12) from ge479_0)
                   clear hv479_0 ge479_0
                   clear hcc479 hce479
                   have HR479_0 := Aside0.mk hi479_0
                   have HC479_0 := Aside0.mk hl479_0
                   clear hi479_0 hl479_0
                   replace p479 := eq_true p479
                   replace q479 := eq_true q479
                   have p480 : 0 ≤ (ji12 : Int) := of_decide_eq_true qA
                   have q480 : ji12 < (t466.length : Int) := of_decide_eq_true qA
                   obtain ⟨ad480, A480_0, c480_0, e480, hx480_0, hl480_0, hi480_0⟩ := at_LInt (Kd.S_reads' HO_9.out).2.2 ji12 p480 q480
                   obtain rfl : ad479 = ad480 := (by injection e480)
                   obtain ⟨ce480, hce480, hMe480, hcc480⟩ := Kd.S_get HO_9.out [] ji12 p480 (by first | exact q480 | exact of_decide_eq_true qA | (have e_ := (Kd.S_reads' HO_9.out).1; omega))
                   obtain ⟨ve480_0, rfl, ge480_0⟩ := hMe480
                   have hv480_0 := hcc480 0 _ rfl
                   rw [Nat.add_zero, show ((Kd.slice 3 (Kd.int .i64))).sz = 1 from rfl, Nat.mul_one] at hv480_0
                   replace hv480_0 := Option.some.inj (hv480_0.symm.trans hx480_0)
                   rw [hv480_0] at ge480_0
                   have HL480_0 := Aside0.mk (show Kd.R (Kd.int .i64) 3 _ _ _ _ (rd_LInt t466 ji12) from ge480_0)
                   clear hv480_0 ge480_0
                   clear hcc480 hce480
                   have HR480_0 := Aside0.mk hi480_0
                   have HC480_0 := Aside0.mk hl480_0
                   clear hi480_0 hl480_0
                   replace p480 := eq_true p480
                   replace q480 := eq_true q480
                   have ea_ := Option.some.inj (hx479_0.symm.trans hx480_0)
                   injection ea_ with ea_ en_ ec_
                   subst ea_
                   subst ec_
                   clear en_
                   have p481 : 0 ≤ ((ji56) : Int) := of_decide_eq_true qA
                   have q481 : (ji56) < ((rd_LInt t466 ji12).length : Int) := of_decide_eq_true qA
                   obtain ⟨ad481, e481, hx481_0⟩ := Kd.at_int (by repeat (first | (with_reducible exact HR480_0.out) | (with_reducible refine Kd.C_alloc ?_ _) | (with_reducible refine Kd.C_drewN ?_ _) | (with_reducible refine Kd.C_drew ?_) | exact HR480_0.out)) (ji56) p481 q481
                   cases e481
                   replace p481 := eq_true p481
                   replace q481 := eq_true q481
                   have p482 : 0 ≤ (ji12 : Int) := of_decide_eq_true qA
                   have q482 : ji12 < (l0_3.length : Int) := of_decide_eq_true qA
                   obtain ⟨ad482, A482_0, c482_0, e482, hx482_0, hl482_0, hi482_0⟩ := at_LIns HR0_3.out ji12 p482 q482
                   obtain rfl : ad465 = ad482 := (by injection e482)
                   replace hx482_0 := (HB.out.cell (World.block_lt_of_cell? w _ hx482_0)).trans hx482_0
                   have HR482_0 := Aside0.mk hi482_0
                   have HC482_0 := Aside0.mk hl482_0
                   clear hi482_0 hl482_0
                   replace p482 := eq_true p482
                   replace q482 := eq_true q482
                   have p483 : 0 ≤ ((ji56) : Int) := of_decide_eq_true qA
                   have q483 : (ji56) < ((rd_LIns l0_3 ji12).length : Int) := of_decide_eq_true qA
                   obtain ⟨ad483, A483_5, c483_5, e483, hx483_0, hx483_1, hx483_2, hx483_3, hx483_4, hx483_5, hl483_5, hi483_5⟩ := at_TIns HR482_0.out (ji56) p483 q483
                   cases e483
                   replace hx483_0 := (HB.out.cell (World.block_lt_of_cell? w _ hx483_0)).trans hx483_0
                   replace hx483_1 := (HB.out.cell (World.block_lt_of_cell? w _ hx483_1)).trans hx483_1
                   replace hx483_2 := (HB.out.cell (World.block_lt_of_cell? w _ hx483_2)).trans hx483_2
                   replace hx483_3 := (HB.out.cell (World.block_lt_of_cell? w _ hx483_3)).trans hx483_3
                   replace hx483_4 := (HB.out.cell (World.block_lt_of_cell? w _ hx483_4)).trans hx483_4
                   replace hx483_5 := (HB.out.cell (World.block_lt_of_cell? w _ hx483_5)).trans hx483_5
                   have HR483_5 := Aside0.mk hi483_5
                   have HC483_5 := Aside0.mk hl483_5
                   clear hi483_5 hl483_5
                   replace p483 := eq_true p483
                   replace q483 := eq_true q483
                   go_wp2_with (first | (go_at_call 17; (with_reducible refine (cubbyref07_Uses.calls k2 ((rd_TIns (rd_LIns l0_3 ji12) (ji56)).f0) ((rd_TIns (rd_LIns l0_3 ji12) (ji56)).f1) ((rd_TIns (rd_LIns l0_3 ji12) (ji56)).f2) ((rd_TIns (rd_LIns l0_3 ji12) (ji56)).f3) ((rd_TIns (rd_LIns l0_3 ji12) (ji56)).f4) _ _ ((rd_TIns (rd_LIns l0_3 ji12) (ji56)).f5) t484 _ ?side1 ?side2 A61.out).mono ?_); (case side1 => exact qCB HR483_5.out); (case side2 => exact HC483_5.out); rintro e w64 ⟨v485, rfl, ho0, hb⟩; replace HO_9 := Aside0.mk (Kd.S_elder' (qS HO_9.out) (Kd.R_base ho0) hb); replace HO_10 := Aside0.mk (Kd.R_below (qR HO_10.out) hb); have HO486 := Aside0.mk (Kd.R_lower (Kd.R_new' (Kd.R_new' ho0 (Kd.R_lt (qR HL479_0.out))) (Kd.R_lt (qR HL480_0.out))) (below_size qB)); replace HL479_0 := Aside0.mk (Kd.R_elder' (qR HL479_0.out) (Kd.R_base ho0) hb); replace HL480_0 := Aside0.mk (Kd.R_elder' (qR HL480_0.out) (Kd.R_base ho0) hb); replace BK462 := qW BK462 hb; replace HR479_0 := Aside0.mk (Kd.C_below (by repeat (first | (with_reducible exact HR479_0.out) | (with_reducible refine Kd.C_alloc ?_ _) | (with_reducible refine Kd.C_drewN ?_ _) | (with_reducible refine Kd.C_drew ?_) | exact HR479_0.out)) hb); replace HR480_0 := Aside0.mk (Kd.C_below (by repeat (first | (with_reducible exact HR480_0.out) | (with_reducible refine Kd.C_alloc ?_ _) | (with_reducible refine Kd.C_drewN ?_ _) | (with_reducible refine Kd.C_drew ?_) | exact HR480_0.out)) hb); replace HB := qH hb))
                   repeat (go_quiet (first | (go_at_call 17; (with_reducible refine (cubbyref07_Uses.calls k2 ((rd_TIns (rd_LIns l0_3 ji12) (ji56)).f0) ((rd_TIns (rd_LIns l0_3 ji12) (ji56)).f1) ((rd_TIns (rd_LIns l0_3 ji12) (ji56)).f2) ((rd_TIns (rd_LIns l0_3 ji12) (ji56)).f3) ((rd_TIns (rd_LIns l0_3 ji12) (ji56)).f4) _ _ ((rd_TIns (rd_LIns l0_3 ji12) (ji56)).f5) t484 _ ?side1 ?side2 A61.out).mono ?_); (case side1 => exact qCB HR483_5.out); (case side2 => exact HC483_5.out); rintro e w64 ⟨v485, rfl, ho0, hb⟩; replace HO_9 := Aside0.mk (Kd.S_elder' (qS HO_9.out) (Kd.R_base ho0) hb); replace HO_10 := Aside0.mk (Kd.R_below (qR HO_10.out) hb); have HO486 := Aside0.mk (Kd.R_lower (Kd.R_new' (Kd.R_new' ho0 (Kd.R_lt (qR HL479_0.out))) (Kd.R_lt (qR HL480_0.out))) (below_size qB)); replace HL479_0 := Aside0.mk (Kd.R_elder' (qR HL479_0.out) (Kd.R_base ho0) hb); replace HL480_0 := Aside0.mk (Kd.R_elder' (qR HL480_0.out) (Kd.R_base ho0) hb); replace BK462 := qW BK462 hb; replace HR479_0 := Aside0.mk (Kd.C_below (by repeat (first | (with_reducible exact HR479_0.out) | (with_reducible refine Kd.C_alloc ?_ _) | (with_reducible refine Kd.C_drewN ?_ _) | (with_reducible refine Kd.C_drew ?_) | exact HR479_0.out)) hb); replace HR480_0 := Aside0.mk (Kd.C_below (by repeat (first | (with_reducible exact HR480_0.out) | (with_reducible refine Kd.C_alloc ?_ _) | (with_reducible refine Kd.C_drewN ?_ _) | (with_reducible refine Kd.C_drew ?_) | exact HR480_0.out)) hb); replace HB := qH hb)); try go_wp2_with (first | (go_at_call 17; (with_reducible refine (cubbyref07_Uses.calls k2 ((rd_TIns (rd_LIns l0_3 ji12) (ji56)).f0) ((rd_TIns (rd_LIns l0_3 ji12) (ji56)).f1) ((rd_TIns (rd_LIns l0_3 ji12) (ji56)).f2) ((rd_TIns (rd_LIns l0_3 ji12) (ji56)).f3) ((rd_TIns (rd_LIns l0_3 ji12) (ji56)).f4) _ _ ((rd_TIns (rd_LIns l0_3 ji12) (ji56)).f5) t484 _ ?side1 ?side2 A61.out).mono ?_); (case side1 => exact qCB HR483_5.out); (case side2 => exact HC483_5.out); rintro e w64 ⟨v485, rfl, ho0, hb⟩; replace HO_9 := Aside0.mk (Kd.S_elder' (qS HO_9.out) (Kd.R_base ho0) hb); replace HO_10 := Aside0.mk (Kd.R_below (qR HO_10.out) hb); have HO486 := Aside0.mk (Kd.R_lower (Kd.R_new' (Kd.R_new' ho0 (Kd.R_lt (qR HL479_0.out))) (Kd.R_lt (qR HL480_0.out))) (below_size qB)); replace HL479_0 := Aside0.mk (Kd.R_elder' (qR HL479_0.out) (Kd.R_base ho0) hb); replace HL480_0 := Aside0.mk (Kd.R_elder' (qR HL480_0.out) (Kd.R_base ho0) hb); replace BK462 := qW BK462 hb; replace HR479_0 := Aside0.mk (Kd.C_below (by repeat (first | (with_reducible exact HR479_0.out) | (with_reducible refine Kd.C_alloc ?_ _) | (with_reducible refine Kd.C_drewN ?_ _) | (with_reducible refine Kd.C_drew ?_) | exact HR479_0.out)) hb); replace HR480_0 := Aside0.mk (Kd.C_below (by repeat (first | (with_reducible exact HR480_0.out) | (with_reducible refine Kd.C_alloc ?_ _) | (with_reducible refine Kd.C_drewN ?_ _) | (with_reducible refine Kd.C_drew ?_) | exact HR480_0.out)) hb); replace HB := qH hb)))
                   go_loopg [15] k2 (fun kq v15 w' => ∃ (x15_3 : Int), v15 = .int .i64 x15_3 ∧ Aside0 (cubbylaw12_SpanInside.l1 kq ji12 (ji56) t469 (rd (rd_LInt t466 ji12) (ji56)) t484 x15_3 a0_0 a0_1 a0_2 l0_3 = some r) ∧ Aside0 (kq ≤ k2) ∧ Aside0 (Kd.R kSpan 28 w' w.heap.size (fun _ => True) v470 t469) ∧ Aside0 (Kd.R (Kd.int .i64) 3 w' w.heap.size (fun _ => True) v485 t484) ∧ Aside0 (w'.heap[gb462]? = some (.cells #[.string a0_0, .int .i64 a0_1, .int .i64 a0_2, (.slice (some ad465) l0_3.length c0_3)] 24 (0, 0))) ∧ Aside0 (Kd.C (Kd.int .i64) w' (some ad481) (rd_LInt t466 ji12).length (rd_LInt t466 ji12)) ∧ Aside0 (Kd.C (Kd.int .i64) w' (some ad481) (rd_LInt t466 ji12).length (rd_LInt t466 ji12)) ∧ Aside0 (Below w.heap.size w w'))
                   case atStart => exact ⟨(0), qT, H', ⟨Nat.le_refl _⟩, ⟨qR HO_10.out⟩, ⟨by (with_reducible repeat (first | apply Kd.R_alloc | apply Kd.R_drewN | apply Kd.R_drew)); exact Kd.R_mono HO486.out (fun _ hk => trivial)⟩, ⟨qK BK462.out⟩, ⟨by repeat (first | (with_reducible exact HR479_0.out) | (with_reducible refine Kd.C_alloc ?_ _) | (with_reducible refine Kd.C_drewN ?_ _) | (with_reducible refine Kd.C_drew ?_) | exact HR479_0.out)⟩, ⟨by repeat (first | (with_reducible exact HR480_0.out) | (with_reducible refine Kd.C_alloc ?_ _) | (with_reducible refine Kd.C_drewN ?_ _) | (with_reducible refine Kd.C_drew ?_) | exact HR480_0.out)⟩, ⟨qB⟩⟩
                   case round =>
                    clear H'
                    obtain ⟨x15_3, rfl, HA, HK3, HO_10, HO_14, BK462, HR479_0, HR480_0, HB⟩ := hrel
                    cases gk with
                    | zero => exact absurd HA.out (by simp [cubbylaw12_SpanInside.l1])
                    | succ k3 =>
                     have H := HA.out
                     clear HA
                     simp only [cubbylaw12_SpanInside.l1] at H
                     by_cases c65 : x15_3 < (t484.length : Int)
                     ·rw [if_pos c65] at H
                      have c65b0 := decide_eq_true c65
                      clear c65
                      by_cases c66 : 0 ≤ x15_3
                      ·rw [if_pos c66] at H
                       have c66b0 := decide_eq_true c66
                       clear c66
                       by_cases c67 : 0 ≤ (rd t484 x15_3)
                       ·rw [if_pos c67] at H
                        have c67b0 := decide_eq_true c67
                        clear c67
                        by_cases c68 : (rd t484 x15_3) < (t469.length : Int)
                        ·rw [if_pos c68] at H
                         have c68b0 := decide_eq_true c68
                         clear c68
                         by_cases c69 : ((rd_TSpan t469 (rd t484 x15_3)).f0) > (wrap64 (2 * (rd (rd_LInt t466 ji12) (ji56))))
                         ·rw [if_pos c69] at H
                          have c69b0 : decide ((wrap64 (2 * (rd (rd_LInt t466 ji12) (ji56)))) < ((rd_TSpan t469 (rd t484 x15_3)).f0)) = true := decide_eq_true c69
                          clear c69
                          exact absurd ((Option.some.inj H).trans HRt.out) (by decide)
                         ·rw [if_neg c69] at H
                          have c69b0 : decide ((wrap64 (2 * (rd (rd_LInt t466 ji12) (ji56)))) < ((rd_TSpan t469 (rd t484 x15_3)).f0)) = false := decide_eq_false c69
                          clear c69
                          by_cases c70 : ((rd_TSpan t469 (rd t484 x15_3)).f1) < (wrap64 (2 * (rd (rd_LInt t466 ji12) (ji56))))
                          ·rw [if_pos c70] at H
                           have c70b0 := decide_eq_true c70
                           clear c70
                           exact absurd ((Option.some.inj H).trans HRt.out) (by decide)
                          ·rw [if_neg c70] at H
                           have c70b0 := decide_eq_false c70
                           clear c70
                           by_cases c71 : ((rd_TSpan t469 (rd t484 x15_3)).f0) < 0
                           ·rw [if_pos c71] at H
                            have c71b0 := decide_eq_true c71
                            clear c71
                            exact absurd ((Option.some.inj H).trans HRt.out) (by decide)
                           ·rw [if_neg c71] at H
                            have c71b0 := decide_eq_false c71
                            clear c71
                            have H' := Aside0.mk H
                            clear H
                            obtain ⟨Ao72, co72, eo72⟩ := Kd.R_slice HO_14.out
                            subst eo72
                            have p487 : 0 ≤ (x15_3 : Int) := of_decide_eq_true qA
                            have q487 : x15_3 < (t484.length : Int) := of_decide_eq_true qA
                            obtain ⟨ad487, e487, hx487_0⟩ := Kd.at_int (Kd.R_reads' HO_14.out).2.2 x15_3 p487 q487
                            cases e487
                            replace p487 := eq_true p487
                            replace q487 := eq_true q487
                            obtain ⟨Ao73, co73, eo73⟩ := Kd.R_slice HO_10.out
                            subst eo73
                            have p488 : 0 ≤ ((rd t484 x15_3) : Int) := of_decide_eq_true qA
                            have q488 : (rd t484 x15_3) < (t469.length : Int) := of_decide_eq_true qA
                            obtain ⟨ad488, e488, hx488_0, hx488_1⟩ := at_TSpan (Kd.R_reads' HO_10.out).2.2 (rd t484 x15_3) p488 q488
                            cases e488
                            replace p488 := eq_true p488
                            replace q488 := eq_true q488
                            have p489 : 0 ≤ (x15_3 : Int) := of_decide_eq_true qA
                            have q489 : x15_3 < (t484.length : Int) := of_decide_eq_true qA
                            obtain ⟨ad489, e489, hx489_0⟩ := Kd.at_int (Kd.R_reads' HO_14.out).2.2 x15_3 p489 q489
                            obtain rfl : ad487 = ad489 := (by injection e489)
                            replace p489 := eq_true p489
                            replace q489 := eq_true q489
                            have p490 : 0 ≤ ((rd t484 x15_3) : Int) := of_decide_eq_true qA
                            have q490 : (rd t484 x15_3) < (t469.length : Int) := of_decide_eq_true qA
                            obtain ⟨ad490, e490, hx490_0, hx490_1⟩ := at_TSpan (Kd.R_reads' HO_10.out).2.2 (rd t484 x15_3) p490 q490
                            obtain rfl : ad488 = ad490 := (by injection e490)
                            replace p490 := eq_true p490
                            replace q490 := eq_true q490
                            have p491 : 0 ≤ (x15_3 : Int) := of_decide_eq_true qA
                            have q491 : x15_3 < (t484.length : Int) := of_decide_eq_true qA
                            obtain ⟨ad491, e491, hx491_0⟩ := Kd.at_int (Kd.R_reads' HO_14.out).2.2 x15_3 p491 q491
                            obtain rfl : ad487 = ad491 := (by injection e491)
                            replace p491 := eq_true p491
                            replace q491 := eq_true q491
                            have p492 : 0 ≤ ((rd t484 x15_3) : Int) := of_decide_eq_true qA
                            have q492 : (rd t484 x15_3) < (t469.length : Int) := of_decide_eq_true qA
                            obtain ⟨ad492, e492, hx492_0, hx492_1⟩ := at_TSpan (Kd.R_reads' HO_10.out).2.2 (rd t484 x15_3) p492 q492
                            obtain rfl : ad488 = ad492 := (by injection e492)
                            replace p492 := eq_true p492
                            replace q492 := eq_true q492
                            go_wp2
                            repeat (go_quiet (fail); try go_wp2)
                            go_roundg k3
                            case measure => have := HJ18.out; have := HK2.out; have := HK3.out; omega
                            case rel => exact ⟨(wrap64 (x15_3 + 1)), qT, H', ⟨by have := HJ18.out; have := HK2.out; have := HK3.out; omega⟩, ⟨qR HO_10.out⟩, ⟨qR HO_14.out⟩, ⟨qK BK462.out⟩, ⟨by repeat (first | (with_reducible exact HR479_0.out) | (with_reducible refine Kd.C_alloc ?_ _) | (with_reducible refine Kd.C_drewN ?_ _) | (with_reducible refine Kd.C_drew ?_) | exact HR479_0.out)⟩, ⟨by repeat (first | (with_reducible exact HR480_0.out) | (with_reducible refine Kd.C_alloc ?_ _) | (with_reducible refine Kd.C_drewN ?_ _) | (with_reducible refine Kd.C_drew ?_) | exact HR480_0.out)⟩, ⟨qB⟩⟩
                        ·rw [if_neg c68] at H
                         exact absurd H (by simp)
                       ·rw [if_neg c67] at H
                        exact absurd H (by simp)
                      ·rw [if_neg c66] at H
                       exact absurd H (by simp)
                     ·rw [if_neg c65] at H
                      have c65b0 := decide_eq_false c65
                      clear c65
                      by_cases c74 : 0 ≤ ji12
                      ·rw [if_pos c74] at H
                       have c74b0 := decide_eq_true c74
                       clear c74
                       by_cases c75 : ji12 < (l0_3.length : Int)
                       ·rw [if_pos c75] at H
                        have c75b0 := decide_eq_true c75
                        clear c75
                        by_cases c76 : 0 ≤ (ji56)
                        ·rw [if_pos c76] at H
                         have c76b0 := decide_eq_true c76
                         clear c76
                         by_cases c77 : (ji56) < ((rd_LIns l0_3 ji12).length : Int)
                         ·rw [if_pos c77] at H
                          have c77b0 := decide_eq_true c77
                          clear c77
                          replace H := qb H; obtain ⟨t495, A78, H⟩ := H
                          by_cases c79 : t495 < 0
                          ·rw [if_pos c79] at H
                           have c79b0 := decide_eq_true c79
                           clear c79
                           obtain rfl := Option.some.inj H
                           obtain ⟨Ao80, co80, eo80⟩ := Kd.R_slice HO_14.out
                           subst eo80
                           have z81_0 := bk4 BK462.out
                           have p493 : 0 ≤ (ji12 : Int) := of_decide_eq_true qA
                           have q493 : ji12 < (l0_3.length : Int) := of_decide_eq_true qA
                           obtain ⟨ad493, A493_0, c493_0, e493, hx493_0, hl493_0, hi493_0⟩ := at_LIns HR0_3.out ji12 p493 q493
                           obtain rfl : ad465 = ad493 := (by injection e493)
                           replace hx493_0 := (HB.out.cell (World.block_lt_of_cell? w _ hx493_0)).trans hx493_0
                           have HR493_0 := Aside0.mk hi493_0
                           have HC493_0 := Aside0.mk hl493_0
                           clear hi493_0 hl493_0
                           replace p493 := eq_true p493
                           replace q493 := eq_true q493
                           have p494 : 0 ≤ ((ji56) : Int) := of_decide_eq_true qA
                           have q494 : (ji56) < ((rd_LIns l0_3 ji12).length : Int) := of_decide_eq_true qA
                           obtain ⟨ad494, A494_5, c494_5, e494, hx494_0, hx494_1, hx494_2, hx494_3, hx494_4, hx494_5, hl494_5, hi494_5⟩ := at_TIns HR493_0.out (ji56) p494 q494
                           cases e494
                           replace hx494_0 := (HB.out.cell (World.block_lt_of_cell? w _ hx494_0)).trans hx494_0
                           replace hx494_1 := (HB.out.cell (World.block_lt_of_cell? w _ hx494_1)).trans hx494_1
                           replace hx494_2 := (HB.out.cell (World.block_lt_of_cell? w _ hx494_2)).trans hx494_2
                           replace hx494_3 := (HB.out.cell (World.block_lt_of_cell? w _ hx494_3)).trans hx494_3
                           replace hx494_4 := (HB.out.cell (World.block_lt_of_cell? w _ hx494_4)).trans hx494_4
                           replace hx494_5 := (HB.out.cell (World.block_lt_of_cell? w _ hx494_5)).trans hx494_5
                           have HR494_5 := Aside0.mk hi494_5
                           have HC494_5 := Aside0.mk hl494_5
                           clear hi494_5 hl494_5
                           replace p494 := eq_true p494
                           replace q494 := eq_true q494
                           go_wp2_with (first | (go_at_call 18; (with_reducible refine (cubbyref07_Def.calls ((rd_TIns (rd_LIns l0_3 ji12) (ji56)).f0) ((rd_TIns (rd_LIns l0_3 ji12) (ji56)).f1) ((rd_TIns (rd_LIns l0_3 ji12) (ji56)).f2) ((rd_TIns (rd_LIns l0_3 ji12) (ji56)).f3) ((rd_TIns (rd_LIns l0_3 ji12) (ji56)).f4) _ _ ((rd_TIns (rd_LIns l0_3 ji12) (ji56)).f5) t495 _ ?side1 ?side2 A78.out).mono ?_); (case side1 => exact qCB HR494_5.out); (case side2 => exact HC494_5.out); rintro e w82 ⟨rfl, hb⟩; replace HO_10 := Aside0.mk (Kd.R_below (qR HO_10.out) hb); replace HO_14 := Aside0.mk (Kd.R_below (qR HO_14.out) hb); replace BK462 := qW BK462 hb; replace HR479_0 := Aside0.mk (Kd.C_below (by repeat (first | (with_reducible exact HR479_0.out) | (with_reducible refine Kd.C_alloc ?_ _) | (with_reducible refine Kd.C_drewN ?_ _) | (with_reducible refine Kd.C_drew ?_) | exact HR479_0.out)) hb); replace HR480_0 := Aside0.mk (Kd.C_below (by repeat (first | (with_reducible exact HR480_0.out) | (with_reducible refine Kd.C_alloc ?_ _) | (with_reducible refine Kd.C_drewN ?_ _) | (with_reducible refine Kd.C_drew ?_) | exact HR480_0.out)) hb); replace HB := qH hb; (try clear hb)))
                           repeat (go_quiet (first | (go_at_call 18; (with_reducible refine (cubbyref07_Def.calls ((rd_TIns (rd_LIns l0_3 ji12) (ji56)).f0) ((rd_TIns (rd_LIns l0_3 ji12) (ji56)).f1) ((rd_TIns (rd_LIns l0_3 ji12) (ji56)).f2) ((rd_TIns (rd_LIns l0_3 ji12) (ji56)).f3) ((rd_TIns (rd_LIns l0_3 ji12) (ji56)).f4) _ _ ((rd_TIns (rd_LIns l0_3 ji12) (ji56)).f5) t495 _ ?side1 ?side2 A78.out).mono ?_); (case side1 => exact qCB HR494_5.out); (case side2 => exact HC494_5.out); rintro e w82 ⟨rfl, hb⟩; replace HO_10 := Aside0.mk (Kd.R_below (qR HO_10.out) hb); replace HO_14 := Aside0.mk (Kd.R_below (qR HO_14.out) hb); replace BK462 := qW BK462 hb; replace HR479_0 := Aside0.mk (Kd.C_below (by repeat (first | (with_reducible exact HR479_0.out) | (with_reducible refine Kd.C_alloc ?_ _) | (with_reducible refine Kd.C_drewN ?_ _) | (with_reducible refine Kd.C_drew ?_) | exact HR479_0.out)) hb); replace HR480_0 := Aside0.mk (Kd.C_below (by repeat (first | (with_reducible exact HR480_0.out) | (with_reducible refine Kd.C_alloc ?_ _) | (with_reducible refine Kd.C_drewN ?_ _) | (with_reducible refine Kd.C_drew ?_) | exact HR480_0.out)) hb); replace HB := qH hb; (try clear hb))); try go_wp2_with (first | (go_at_call 18; (with_reducible refine (cubbyref07_Def.calls ((rd_TIns (rd_LIns l0_3 ji12) (ji56)).f0) ((rd_TIns (rd_LIns l0_3 ji12) (ji56)).f1) ((rd_TIns (rd_LIns l0_3 ji12) (ji56)).f2) ((rd_TIns (rd_LIns l0_3 ji12) (ji56)).f3) ((rd_TIns (rd_LIns l0_3 ji12) (ji56)).f4) _ _ ((rd_TIns (rd_LIns l0_3 ji12) (ji56)).f5) t495 _ ?side1 ?side2 A78.out).mono ?_); (case side1 => exact qCB HR494_5.out); (case side2 => exact HC494_5.out); rintro e w82 ⟨rfl, hb⟩; replace HO_10 := Aside0.mk (Kd.R_below (qR HO_10.out) hb); replace HO_14 := Aside0.mk (Kd.R_below (qR HO_14.out) hb); replace BK462 := qW BK462 hb; replace HR479_0 := Aside0.mk (Kd.C_below (by repeat (first | (with_reducible exact HR479_0.out) | (with_reducible refine Kd.C_alloc ?_ _) | (with_reducible refine Kd.C_drewN ?_ _) | (with_reducible refine Kd.C_drew ?_) | exact HR479_0.out)) hb); replace HR480_0 := Aside0.mk (Kd.C_below (by repeat (first | (with_reducible exact HR480_0.out) | (with_reducible refine Kd.C_alloc ?_ _) | (with_reducible refine Kd.C_drewN ?_ _) | (with_reducible refine Kd.C_drew ?_) | exact HR480_0.out)) hb); replace HB := qH hb; (try clear hb))))
                           go_ret
                           exact ⟨by first | rfl | (simp [errW_none, errW_some] <;> rfl) | (simp only [← hji12, ← hji56]; first | rfl | (simp [errW_none, errW_some] <;> rfl)) | (simp [*, errW_none, errW_some] <;> rfl), qB⟩
                          ·rw [if_neg c79] at H
                           have c79b0 := decide_eq_false c79
                           clear c79
                           by_cases c83 : 0 ≤ t495
                           ·rw [if_pos c83] at H
                            have c83b0 := decide_eq_true c83
                            clear c83
                            by_cases c84 : t495 < (t469.length : Int)
                            ·rw [if_pos c84] at H
                             have c84b0 := decide_eq_true c84
                             clear c84
                             by_cases c85 : ((rd_TSpan t469 t495).f0) ≥ 0
                             ·rw [if_pos c85] at H
                              have c85b0 : decide (0 ≤ ((rd_TSpan t469 t495).f0)) = true := decide_eq_true c85
                              clear c85
                              by_cases c86 : ((rd_TSpan t469 t495).f0) ≤ (wrap64 ((wrap64 (2 * (rd (rd_LInt t466 ji12) (ji56)))) + 1))
                              ·rw [if_pos c86] at H
                               have c86b0 := decide_eq_true c86
                               clear c86
                               obtain rfl := Option.some.inj H
                               obtain ⟨Ao87, co87, eo87⟩ := Kd.R_slice HO_14.out
                               subst eo87
                               have z88_0 := bk4 BK462.out
                               have p493 : 0 ≤ (ji12 : Int) := of_decide_eq_true qA
                               have q493 : ji12 < (l0_3.length : Int) := of_decide_eq_true qA
                               obtain ⟨ad493, A493_0, c493_0, e493, hx493_0, hl493_0, hi493_0⟩ := at_LIns HR0_3.out ji12 p493 q493
                               obtain rfl : ad465 = ad493 := (by injection e493)
                               replace hx493_0 := (HB.out.cell (World.block_lt_of_cell? w _ hx493_0)).trans hx493_0
                               have HR493_0 := Aside0.mk hi493_0
                               have HC493_0 := Aside0.mk hl493_0
                               clear hi493_0 hl493_0
                               replace p493 := eq_true p493
                               replace q493 := eq_true q493
                               have p494 : 0 ≤ ((ji56) : Int) := of_decide_eq_true qA
                               have q494 : (ji56) < ((rd_LIns l0_3 ji12).length : Int) := of_decide_eq_true qA
                               obtain ⟨ad494, A494_5, c494_5, e494, hx494_0, hx494_1, hx494_2, hx494_3, hx494_4, hx494_5, hl494_5, hi494_5⟩ := at_TIns HR493_0.out (ji56) p494 q494
                               cases e494
                               replace hx494_0 := (HB.out.cell (World.block_lt_of_cell? w _ hx494_0)).trans hx494_0
                               replace hx494_1 := (HB.out.cell (World.block_lt_of_cell? w _ hx494_1)).trans hx494_1
                               replace hx494_2 := (HB.out.cell (World.block_lt_of_cell? w _ hx494_2)).trans hx494_2
                               replace hx494_3 := (HB.out.cell (World.block_lt_of_cell? w _ hx494_3)).trans hx494_3
                               replace hx494_4 := (HB.out.cell (World.block_lt_of_cell? w _ hx494_4)).trans hx494_4
                               replace hx494_5 := (HB.out.cell (World.block_lt_of_cell? w _ hx494_5)).trans hx494_5
                               have HR494_5 := Aside0.mk hi494_5
                               have HC494_5 := Aside0.mk hl494_5
                               clear hi494_5 hl494_5
                               replace p494 := eq_true p494
                               replace q494 := eq_true q494
                               go_wp2_with (first | (go_at_call 18; (with_reducible refine (cubbyref07_Def.calls ((rd_TIns (rd_LIns l0_3 ji12) (ji56)).f0) ((rd_TIns (rd_LIns l0_3 ji12) (ji56)).f1) ((rd_TIns (rd_LIns l0_3 ji12) (ji56)).f2) ((rd_TIns (rd_LIns l0_3 ji12) (ji56)).f3) ((rd_TIns (rd_LIns l0_3 ji12) (ji56)).f4) _ _ ((rd_TIns (rd_LIns l0_3 ji12) (ji56)).f5) t495 _ ?side1 ?side2 A78.out).mono ?_); (case side1 => exact qCB HR494_5.out); (case side2 => exact HC494_5.out); rintro e w89 ⟨rfl, hb⟩; replace HO_10 := Aside0.mk (Kd.R_below (qR HO_10.out) hb); replace HO_14 := Aside0.mk (Kd.R_below (qR HO_14.out) hb); replace BK462 := qW BK462 hb; replace HR479_0 := Aside0.mk (Kd.C_below (by repeat (first | (with_reducible exact HR479_0.out) | (with_reducible refine Kd.C_alloc ?_ _) | (with_reducible refine Kd.C_drewN ?_ _) | (with_reducible refine Kd.C_drew ?_) | exact HR479_0.out)) hb); replace HR480_0 := Aside0.mk (Kd.C_below (by repeat (first | (with_reducible exact HR480_0.out) | (with_reducible refine Kd.C_alloc ?_ _) | (with_reducible refine Kd.C_drewN ?_ _) | (with_reducible refine Kd.C_drew ?_) | exact HR480_0.out)) hb); replace HB := qH hb; (try clear hb); obtain ⟨Ao90, co90, eo90⟩ := Kd.R_slice HO_10.out; subst eo90; have p496 : 0 ≤ (t495 : Int) := of_decide_eq_true qA; have q496 : t495 < (t469.length : Int) := of_decide_eq_true qA; obtain ⟨ad496, e496, hx496_0, hx496_1⟩ := at_TSpan (Kd.R_reads' HO_10.out).2.2 t495 p496 q496; cases e496; replace p496 := eq_true p496; replace q496 := eq_true q496; have p497 : 0 ≤ (t495 : Int) := of_decide_eq_true qA; have q497 : t495 < (t469.length : Int) := of_decide_eq_true qA; obtain ⟨ad497, e497, hx497_0, hx497_1⟩ := at_TSpan (Kd.R_reads' HO_10.out).2.2 t495 p497 q497; obtain rfl : ad496 = ad497 := (by injection e497); replace p497 := eq_true p497; replace q497 := eq_true q497; have p498 : 0 ≤ (t495 : Int) := of_decide_eq_true qA; have q498 : t495 < (t469.length : Int) := of_decide_eq_true qA; obtain ⟨ad498, e498, hx498_0, hx498_1⟩ := at_TSpan (Kd.R_reads' HO_10.out).2.2 t495 p498 q498; obtain rfl : ad496 = ad498 := (by injection e498); replace p498 := eq_true p498; replace q498 := eq_true q498))
                               repeat (go_quiet (first | (go_at_call 18; (with_reducible refine (cubbyref07_Def.calls ((rd_TIns (rd_LIns l0_3 ji12) (ji56)).f0) ((rd_TIns (rd_LIns l0_3 ji12) (ji56)).f1) ((rd_TIns (rd_LIns l0_3 ji12) (ji56)).f2) ((rd_TIns (rd_LIns l0_3 ji12) (ji56)).f3) ((rd_TIns (rd_LIns l0_3 ji12) (ji56)).f4) _ _ ((rd_TIns (rd_LIns l0_3 ji12) (ji56)).f5) t495 _ ?side1 ?side2 A78.out).mono ?_); (case side1 => exact qCB HR494_5.out); (case side2 => exact HC494_5.out); rintro e w89 ⟨rfl, hb⟩; replace HO_10 := Aside0.mk (Kd.R_below (qR HO_10.out) hb); replace HO_14 := Aside0.mk (Kd.R_below (qR HO_14.out) hb); replace BK462 := qW BK462 hb; replace HR479_0 := Aside0.mk (Kd.C_below (by repeat (first | (with_reducible exact HR479_0.out) | (with_reducible refine Kd.C_alloc ?_ _) | (with_reducible refine Kd.C_drewN ?_ _) | (with_reducible refine Kd.C_drew ?_) | exact HR479_0.out)) hb); replace HR480_0 := Aside0.mk (Kd.C_below (by repeat (first | (with_reducible exact HR480_0.out) | (with_reducible refine Kd.C_alloc ?_ _) | (with_reducible refine Kd.C_drewN ?_ _) | (with_reducible refine Kd.C_drew ?_) | exact HR480_0.out)) hb); replace HB := qH hb; (try clear hb); obtain ⟨Ao90, co90, eo90⟩ := Kd.R_slice HO_10.out; subst eo90; have p496 : 0 ≤ (t495 : Int) := of_decide_eq_true qA; have q496 : t495 < (t469.length : Int) := of_decide_eq_true qA; obtain ⟨ad496, e496, hx496_0, hx496_1⟩ := at_TSpan (Kd.R_reads' HO_10.out).2.2 t495 p496 q496; cases e496; replace p496 := eq_true p496; replace q496 := eq_true q496; have p497 : 0 ≤ (t495 : Int) := of_decide_eq_true qA; have q497 : t495 < (t469.length : Int) := of_decide_eq_true qA; obtain ⟨ad497, e497, hx497_0, hx497_1⟩ := at_TSpan (Kd.R_reads' HO_10.out).2.2 t495 p497 q497; obtain rfl : ad496 = ad497 := (by injection e497); replace p497 := eq_true p497; replace q497 := eq_true q497; have p498 : 0 ≤ (t495 : Int) := of_decide_eq_true qA; have q498 : t495 < (t469.length : Int) := of_decide_eq_true qA; obtain ⟨ad498, e498, hx498_0, hx498_1⟩ := at_TSpan (Kd.R_reads' HO_10.out).2.2 t495 p498 q498; obtain rfl : ad496 = ad498 := (by injection e498); replace p498 := eq_true p498; replace q498 := eq_true q498)); try go_wp2_with (first | (go_at_call 18; (with_reducible refine (cubbyref07_Def.calls ((rd_TIns (rd_LIns l0_3 ji12) (ji56)).f0) ((rd_TIns (rd_LIns l0_3 ji12) (ji56)).f1) ((rd_TIns (rd_LIns l0_3 ji12) (ji56)).f2) ((rd_TIns (rd_LIns l0_3 ji12) (ji56)).f3) ((rd_TIns (rd_LIns l0_3 ji12) (ji56)).f4) _ _ ((rd_TIns (rd_LIns l0_3 ji12) (ji56)).f5) t495 _ ?side1 ?side2 A78.out).mono ?_); (case side1 => exact qCB HR494_5.out); (case side2 => exact HC494_5.out); rintro e w89 ⟨rfl, hb⟩; replace HO_10 := Aside0.mk (Kd.R_below (qR HO_10.out) hb); replace HO_14 := Aside0.mk (Kd.R_below (qR HO_14.out) hb); replace BK462 := qW BK462 hb; replace HR479_0 := Aside0.mk (Kd.C_below (by repeat (first | (with_reducible exact HR479_0.out) | (with_reducible refine Kd.C_alloc ?_ _) | (with_reducible refine Kd.C_drewN ?_ _) | (with_reducible refine Kd.C_drew ?_) | exact HR479_0.out)) hb); replace HR480_0 := Aside0.mk (Kd.C_below (by repeat (first | (with_reducible exact HR480_0.out) | (with_reducible refine Kd.C_alloc ?_ _) | (with_reducible refine Kd.C_drewN ?_ _) | (with_reducible refine Kd.C_drew ?_) | exact HR480_0.out)) hb); replace HB := qH hb; (try clear hb); obtain ⟨Ao90, co90, eo90⟩ := Kd.R_slice HO_10.out; subst eo90; have p496 : 0 ≤ (t495 : Int) := of_decide_eq_true qA; have q496 : t495 < (t469.length : Int) := of_decide_eq_true qA; obtain ⟨ad496, e496, hx496_0, hx496_1⟩ := at_TSpan (Kd.R_reads' HO_10.out).2.2 t495 p496 q496; cases e496; replace p496 := eq_true p496; replace q496 := eq_true q496; have p497 : 0 ≤ (t495 : Int) := of_decide_eq_true qA; have q497 : t495 < (t469.length : Int) := of_decide_eq_true qA; obtain ⟨ad497, e497, hx497_0, hx497_1⟩ := at_TSpan (Kd.R_reads' HO_10.out).2.2 t495 p497 q497; obtain rfl : ad496 = ad497 := (by injection e497); replace p497 := eq_true p497; replace q497 := eq_true q497; have p498 : 0 ≤ (t495 : Int) := of_decide_eq_true qA; have q498 : t495 < (t469.length : Int) := of_decide_eq_true qA; obtain ⟨ad498, e498, hx498_0, hx498_1⟩ := at_TSpan (Kd.R_reads' HO_10.out).2.2 t495 p498 q498; obtain rfl : ad496 = ad498 := (by injection e498); replace p498 := eq_true p498; replace q498 := eq_true q498)))
                               go_ret
                               exact ⟨by first | rfl | (simp [errW_none, errW_some] <;> rfl) | (simp only [← hji12, ← hji56]; first | rfl | (simp [errW_none, errW_some] <;> rfl)) | (simp [*, errW_none, errW_some] <;> rfl), qB⟩
                              ·rw [if_neg c86] at H
                               have c86b0 := decide_eq_false c86
                               clear c86
                               exact absurd ((Option.some.inj H).trans HRt.out) (by decide)
                             ·rw [if_neg c85] at H
                              have c85b0 : decide (0 ≤ ((rd_TSpan t469 t495).f0)) = false := decide_eq_false c85
                              clear c85
                              exact absurd ((Option.some.inj H).trans HRt.out) (by decide)
                            ·rw [if_neg c84] at H
                             exact absurd H (by simp)
                           ·rw [if_neg c83] at H
                            exact absurd H (by simp)
                         ·rw [if_neg c77] at H
                          exact absurd H (by simp)
                        ·rw [if_neg c76] at H
                         exact absurd H (by simp)
                       ·rw [if_neg c75] at H
                        exact absurd H (by simp)
                      ·rw [if_neg c74] at H
                       exact absurd H (by simp)
                  ·rw [if_neg c60] at H
                   exact absurd H (by simp)
                 ·rw [if_neg c59] at H
                  exact absurd H (by simp)
                ·rw [if_neg c58] at H
                 exact absurd H (by simp)
               ·rw [if_neg c57] at H
                exact absurd H (by simp)
             ·rw [if_neg c52] at H
              exact absurd H (by simp)
            ·rw [if_neg c51] at H
             exact absurd H (by simp)
    ·rw [if_neg c14] at H
     exact absurd H (by simp)
   ·rw [if_neg c13] at H
    exact absurd H (by simp)

end Go.Proofs.YtpkimbkjjmbmcaaDoor.Q
namespace Go.Proofs.YtpkimbkjjmbmcaaDoor.RSpanInside
open Go Go.RowKit Go.Proofs.YtpkimbkjjmbmcaaDoorW.PrintWords Go.Proofs.YtpkimbkjjmbmcaaDoor.Q
set_option linter.unusedVariables false
def GIns (x : SIns) : Prop := (Lit.int .i64 (x.f0)).wf = true ∧ (Lit.int .i64 (x.f1)).wf = true ∧ (Lit.int .i64 (x.f2)).wf = true ∧ (Lit.int .i64 (x.f3)).wf = true ∧ (x.f4).size ≤ 140737488351232 ∧ ((x.f5).length * 8 ≤ 140737488351232 ∧ (x.f5).length ≤ maxLen ∧ ∀ y1 ∈ (x.f5), (Lit.int .i64 (y1)).wf = true)
def SpanInside.Pure : Prop := ∀ (a0_0 : ByteArray) (a0_1 : Int) (a0_2 : Int) (l0_3 : List (List (SIns))) (a1 : Int) (a2 : Int), (a0_0).size ≤ 140737488351232 → (Lit.int .i64 (a0_1)).wf = true → (Lit.int .i64 (a0_2)).wf = true → ((l0_3).length * 24 ≤ 140737488351232 ∧ (l0_3).length ≤ maxLen ∧ ∀ y1 ∈ (l0_3), ((y1).length * 72 ≤ 140737488351232 ∧ (y1).length ≤ maxLen ∧ ∀ y2 ∈ (y1), GIns (y2))) → (Lit.int .u8 (a1)).wf = true → (Lit.int .u8 (a2)).wf = true → ∃ k, cubbylaw12_SpanInside.f k a0_0 a0_1 a0_2 l0_3 a1 a2 = some true
end Go.Proofs.YtpkimbkjjmbmcaaDoor.RSpanInside
namespace Go.Proofs.YtpkimbkjjmbmcaaDoor.Plain
open Go Go.RowKit Go.Proofs.YtpkimbkjjmbmcaaDoorW.PrintWords Go.Proofs.YtpkimbkjjmbmcaaDoorW.PrintMore

theorem wrap_nat {j : Nat} (h : j ≤ 4611686018427387904) : wrap64 ((j : Int) + 1) = ((j + 1 : Nat) : Int) := by
  unfold wrap64
  omega
theorem wrap_pred {j : Nat} (h0 : 0 < j) (h : j ≤ 4611686018427387904) : wrap64 ((j : Int) - 1) = ((j - 1 : Nat) : Int) := by
  unfold wrap64
  omega
theorem wrap_id {i : Int} (h0 : -4611686018427387904 ≤ i) (h : i ≤ 4611686018427387904) : wrap64 i = i := by
  unfold wrap64
  omega
theorem rd_nat (l : List Int) (j : Nat) : rd l (j : Int) = l.getD j 0 := rfl
theorem rd_get {l : List Int} {j : Nat} (h : j < l.length) : rd l (j : Int) = l[j] := by
  rw [rd_nat, List.getD_eq_getElem?_getD, List.getElem?_eq_getElem h]
  rfl
theorem drop_cons {α : Type} {l : List α} {j : Nat} (h : j < l.length) : l.drop j = l[j] :: l.drop (j + 1) := by
  rw [List.drop_eq_getElem_cons h]
theorem loop_eq (bs : ByteArray) : ∀ (n i : Nat) (r : List UInt8), bs.size - i = n → ByteArray.toList.loop bs i r = r.reverse ++ bs.data.toList.drop i := by
  intro n
  induction n with
  | zero =>
    intro i r h
    unfold ByteArray.toList.loop
    rw [if_neg (by omega), List.drop_eq_nil_of_le (by simp; have : bs.data.size = bs.size := rfl; omega), List.append_nil]
  | succ n ih =>
    intro i r h
    unfold ByteArray.toList.loop
    have hs : bs.data.size = bs.size := rfl
    rw [if_pos (by omega), ih (i + 1) _ (by omega), List.drop_eq_getElem_cons (i := i) (by simp; omega)]
    have : bs.get! i = bs.data.toList[i]'(by simp; omega) := by
      show bs.data[i]! = _
      rw [getElem!_pos bs.data i (by omega)]
      simp
    rw [this]
    simp
theorem toList_data (bs : ByteArray) : bs.toList = bs.data.toList := by
  unfold ByteArray.toList
  rw [loop_eq bs _ 0 [] rfl]
  simp
end Go.Proofs.YtpkimbkjjmbmcaaDoor.Plain
namespace Go.Proofs.YtpkimbkjjmbmcaaDoor.PlainIr
open Go Go.RowKit Go.Proofs.YtpkimbkjjmbmcaaDoorW.PrintWords Go.Proofs.YtpkimbkjjmbmcaaDoorW.PrintMore Go.Proofs.YtpkimbkjjmbmcaaDoor.Q Go.Proofs.YtpkimbkjjmbmcaaDoor.Plain
set_option linter.unusedVariables false
set_option linter.unusedSimpArgs false

theorem op_cases {op : Int} (h : 1 ≤ op ∧ op ≤ 14) : op = 1 ∨ op = 2 ∨ op = 3 ∨ op = 4 ∨ op = 5 ∨ op = 6 ∨ op = 7 ∨ op = 8 ∨ op = 9 ∨ op = 10 ∨ op = 11 ∨ op = 12 ∨ op = 13 ∨ op = 14 := by omega
theorem shape_none {op : Int} (h : ¬ (1 ≤ op ∧ op ≤ 14)) : ir_shape.f op = some ⟨#[]⟩ := by
  unfold ir_shape.f
  split
  · have : op = 0 := by omega
    subst this
    rfl
  · rfl
theorem nil_toList : (⟨#[]⟩ : ByteArray).toList = [] := by decide +kernel
def uses (op a b : Int) (args : List Int) : List Int :=
  if op = 2 ∨ op = 8 ∨ op = 10 ∨ op = 13 ∨ op = 14 then [a] else if (3 ≤ op ∧ op ≤ 7) ∨ op = 9 then [a, b] else if op = 11 then args else []
def defOf (op d : Int) : Int := if (1 ≤ op ∧ op ≤ 8) ∨ op = 11 then d else -1
def lastOp (op : Int) : Bool := decide (12 ≤ op ∧ op ≤ 14)
def targets7 (op d a b : Int) : List Int := if op = 12 then [a] else if op = 13 then [b, d] else []

structure Sh (op : Int) (s : ByteArray) : Prop where
  ne : ¬ s.toList = []
  size : s.size = 3
  b0 : bt s 0 = 114 ↔ ((1 ≤ op ∧ op ≤ 8) ∨ op = 11)
  b1 : bt s 1 = 114 ↔ ((2 ≤ op ∧ op ≤ 10) ∨ op = 13 ∨ op = 14)
  b2 : bt s 2 = 114 ↔ ((3 ≤ op ∧ op ≤ 7) ∨ op = 9)
  f0 : bt s 0 = 32 ↔ (op = 9 ∨ op = 10 ∨ op = 12 ∨ op = 14)
  f1 : bt s 1 = 32 ↔ op = 11
  f2 : bt s 2 = 32 ↔ (op = 1 ∨ op = 2 ∨ op = 8 ∨ op = 10 ∨ op = 11 ∨ op = 12 ∨ op = 14)
  n0 : ¬ bt s 0 = 110
  n1 : bt s 1 = 110 ↔ op = 1
  n2 : ¬ bt s 2 = 110
theorem shape_some {op : Int} (h : 1 ≤ op ∧ op ≤ 14) : ∃ s, ir_shape.f op = some s ∧ Sh op s := by
  rcases op_cases h with rfl | rfl | rfl | rfl | rfl | rfl | rfl | rfl | rfl | rfl | rfl | rfl | rfl | rfl
  all_goals exact ⟨_, rfl, by decide +kernel, rfl, by decide +kernel, by decide +kernel, by decide +kernel, by decide +kernel, by decide +kernel, by decide +kernel, by decide +kernel, by decide +kernel, by decide +kernel⟩

theorem def_eq (op d a b : Int) (nm : ByteArray) (args : List Int) : ir_Def.f op d a b nm args = some (defOf op d) := by
  unfold ir_Def.f defOf
  by_cases h : 1 ≤ op ∧ op ≤ 14
  · obtain ⟨s, hs, S⟩ := shape_some h
    rw [hs, Option.bind_some, if_neg S.ne, if_pos (by rw [S.size]; decide)]
    by_cases h0 : (1 ≤ op ∧ op ≤ 8) ∨ op = 11
    · rw [if_pos (S.b0.2 h0), if_pos h0]
    · rw [if_neg (fun h => h0 (S.b0.1 h)), if_neg h0]
  · rw [shape_none h, Option.bind_some, if_pos nil_toList, if_neg (by omega)]
theorem refdef_eq (op d a b : Int) (nm : ByteArray) (args : List Int) : cubbyref07_Def.f op d a b nm args = some (defOf op d) := by
  unfold cubbyref07_Def.f defOf
  by_cases h : (1 ≤ op ∧ op ≤ 8) ∨ op = 11
  · rw [if_pos h]
    repeat' split
    all_goals first | rfl | omega
  · rw [if_neg h]
    repeat' split
    all_goals first | rfl | omega
theorem last_eq (op : Int) : ir_Last.f op = some (lastOp op) := by
  unfold ir_Last.f lastOp
  split
  · rw [Option.some.injEq, decide_eq_decide]
    omega
  · rw [decide_eq_false (by omega)]
theorem reflast_eq (op : Int) : cubbyref07_Last.f op = some (lastOp op) := by
  unfold cubbyref07_Last.f lastOp
  split
  · rw [decide_eq_true (by omega)]
  · split
    · rw [decide_eq_true (by omega)]
    · by_cases h : op = 14
      · rw [decide_eq_true (by omega), beq_iff_eq.2 h]
      · rw [decide_eq_false (by omega), beq_eq_false_iff_ne.2 h]
theorem targets_eq (op d a b : Int) (nm : ByteArray) (args : List Int) : ir_Targets.f op d a b nm args = some (targets7 op d a b) := by
  unfold ir_Targets.f targets7
  split
  · rfl
  · split <;> rfl
theorem reftargets_eq (op d a b : Int) (nm : ByteArray) (args : List Int) : cubbyref07_Targets.f op d a b nm args = some (targets7 op d a b) := by
  unfold cubbyref07_Targets.f targets7
  simp only [Option.bind_some]
  split
  · rw [if_pos (by simp)]; rfl
  · split
    · rw [if_pos (by simp)]; rfl
    · rfl

theorem refuses_j1 (k : Nat) (op : Int) (c : Bool) (d a b : Int) (nm : ByteArray) (args : List Int) (ha : args.length ≤ 17592186043904) (hc : c = decide ((3 ≤ op ∧ op ≤ 7) ∨ op = 9)) (h : ¬ (op = 2 ∨ op = 8 ∨ op = 10 ∨ op = 13 ∨ op = 14)) :
    cubbyref07_Uses.j1 (k + 1) [] op c op d a b nm args = some (uses op a b args) := by
  simp only [cubbyref07_Uses.j1, Option.bind_some]
  unfold uses
  rw [if_neg h]
  by_cases h2 : (3 ≤ op ∧ op ≤ 7) ∨ op = 9
  · rw [if_pos (by rw [hc]; exact decide_eq_true h2), if_pos (by simp), if_pos h2]
    rfl
  · rw [if_neg (by rw [hc]; simpa using h2), if_neg h2]
    split
    · rw [if_pos (by simp; omega)]
      rfl
    · rfl
theorem refuses_ev (op d a b : Int) (nm : ByteArray) (args : List Int) (ha : args.length ≤ 17592186043904) : Ev (fun k => cubbyref07_Uses.f k op d a b nm args) (uses op a b args) := by
  refine ⟨2, fun k hk => ?_⟩
  obtain ⟨k, rfl⟩ : ∃ m, k = m + 2 := ⟨k - 2, by omega⟩
  show cubbyref07_Uses.f (k + 2) op d a b nm args = some (uses op a b args)
  unfold cubbyref07_Uses.f
  simp only [Option.bind_some]
  have yes : (op = 2 ∨ op = 8 ∨ op = 10 ∨ op = 13 ∨ op = 14) → cubbyref07_Uses.j0 (k + 2) [] op true op d a b nm args = some (uses op a b args) := fun h => by
    simp only [cubbyref07_Uses.j0, if_true]
    rw [if_pos (by simp)]
    unfold uses
    rw [if_pos h]
    rfl
  by_cases h1 : op = 2
  · rw [if_pos h1, beq_iff_eq.2 h1]
    exact yes (.inl h1)
  rw [if_neg h1]
  by_cases h2 : op = 8
  · rw [if_pos h2, beq_iff_eq.2 h2]
    exact yes (by omega)
  rw [if_neg h2]
  by_cases h3 : op = 10
  · rw [if_pos h3, beq_iff_eq.2 h3]
    exact yes (by omega)
  rw [if_neg h3]
  by_cases h4 : op = 14
  · rw [if_pos h4, beq_iff_eq.2 h4]
    exact yes (by omega)
  rw [if_neg h4]
  by_cases h5 : op = 13
  · rw [beq_iff_eq.2 h5]
    exact yes (by omega)
  rw [beq_eq_false_iff_ne.2 h5]
  simp only [cubbyref07_Uses.j0]
  rw [if_neg (by simp)]
  have g : ∀ c, c = decide ((3 ≤ op ∧ op ≤ 7) ∨ op = 9) → cubbyref07_Uses.j1 (k + 1) [] op c op d a b nm args = some (uses op a b args) := fun c hc => refuses_j1 k op c d a b nm args ha hc (by omega)
  repeat' split
  all_goals
    refine g _ ?_
    first
    | (rename_i h; rw [beq_iff_eq.2 h, decide_eq_true (by omega)])
    | (by_cases h9 : op = 9
       · rw [beq_iff_eq.2 h9, decide_eq_true (by omega)]
       · rw [beq_eq_false_iff_ne.2 h9, decide_eq_false (by omega)])

theorem uses_j (k : Nat) (out : List Int) (s : ByteArray) (op d a b : Int) (nm : ByteArray) (args : List Int) (ho : out.length ≤ 1) (ha : args.length ≤ 17592186043904) (hs : s.size = 3) :
    ir_Uses.j0 (k + 1) out s op d a b nm args = some (out ++ (if bt s 2 = 114 then [b] else []) ++ (if op = 11 then args else [])) := by
  simp only [ir_Uses.j0]
  rw [if_pos (by rw [hs]; decide)]
  split
  · rw [if_pos (by omega), Option.bind_some]
    split
    · rw [if_pos (by simp; omega)]
    · rw [List.append_nil]
  · split
    · rw [if_pos (by omega)]
      simp
    · simp
theorem uses_ev (op d a b : Int) (nm : ByteArray) (args : List Int) (ha : args.length ≤ 17592186043904) : Ev (fun k => ir_Uses.f k op d a b nm args) (uses op a b args) := by
  refine ⟨1, fun k hk => ?_⟩
  obtain ⟨k, rfl⟩ : ∃ m, k = m + 1 := ⟨k - 1, by omega⟩
  show ir_Uses.f (k + 1) op d a b nm args = some (uses op a b args)
  unfold ir_Uses.f
  by_cases h : 1 ≤ op ∧ op ≤ 14
  · obtain ⟨s, hs, S⟩ := shape_some h
    rw [hs, Option.bind_some, if_neg S.ne, if_pos (by rw [S.size]; decide)]
    have hb2 : (if bt s 2 = 114 then [b] else []) = if (3 ≤ op ∧ op ≤ 7) ∨ op = 9 then [b] else [] := by
      by_cases h2 : (3 ≤ op ∧ op ≤ 7) ∨ op = 9
      · rw [if_pos (S.b2.2 h2), if_pos h2]
      · rw [if_neg (fun h => h2 (S.b2.1 h)), if_neg h2]
    by_cases h1 : (2 ≤ op ∧ op ≤ 10) ∨ op = 13 ∨ op = 14
    · rw [if_pos (S.b1.2 h1), if_pos (by simp), uses_j k _ s op d a b nm args (by simp) ha S.size, hb2]
      unfold uses
      by_cases h2 : (3 ≤ op ∧ op ≤ 7) ∨ op = 9
      · rw [if_pos h2, if_neg (by omega), if_neg (by omega), if_pos h2]
        rfl
      · rw [if_neg h2, if_neg (by omega), if_pos (by omega)]
        rfl
    · rw [if_neg (fun h => h1 (S.b1.1 h)), uses_j k _ s op d a b nm args (by simp) ha S.size, hb2]
      unfold uses
      rw [if_neg (show ¬ ((3 ≤ op ∧ op ≤ 7) ∨ op = 9) by omega), if_neg (show ¬ (op = 2 ∨ op = 8 ∨ op = 10 ∨ op = 13 ∨ op = 14) by omega), if_neg (show ¬ ((3 ≤ op ∧ op ≤ 7) ∨ op = 9) by omega)]
      simp
  · rw [shape_none h, Option.bind_some, if_pos nil_toList]
    unfold uses
    rw [if_neg (by omega), if_neg (by omega), if_neg (by omega)]
end Go.Proofs.YtpkimbkjjmbmcaaDoor.PlainIr
namespace Go.Proofs.YtpkimbkjjmbmcaaDoor.Plain
open Go Go.RowKit Go.Proofs.YtpkimbkjjmbmcaaDoorW.PrintWords Go.Proofs.YtpkimbkjjmbmcaaDoorW.PrintMore

theorem scan {α : Type} (g : Nat → Nat → Option α) (n : Nat) (R : Nat → α) (hend : Ev (fun k => g k n) (R n)) (hstep : ∀ i, i < n → Ev (fun k => g k (i + 1)) (R (i + 1)) → Ev (fun k => g k i) (R i)) : ∀ i, i ≤ n → Ev (fun k => g k i) (R i) := by
  have h : ∀ d i, i + d = n → Ev (fun k => g k i) (R i) := by
    intro d
    induction d with
    | zero =>
      intro i hi
      obtain rfl : i = n := by omega
      exact hend
    | succ d ih =>
      intro i hi
      exact hstep i (by omega) (ih (i + 1) (by omega))
  intro i hi
  exact h (n - i) i (by omega)
theorem seek {α : Type} (g : Nat → Nat → Option α) (n : Nat) (bad : Nat → Prop) (e r : α) (hbad : ∀ i, i < n → bad i → Ev (fun k => g k i) e) (hgo : ∀ i, i < n → ¬ bad i → ∀ r', Ev (fun k => g k (i + 1)) r' → Ev (fun k => g k i) r')
    (hr : (∃ i, i < n ∧ bad i) → r = e) (hend : (∀ i, i < n → ¬ bad i) → Ev (fun k => g k n) r) : Ev (fun k => g k 0) r := by
  by_cases h : ∃ i, i < n ∧ bad i
  · obtain rfl := hr h
    obtain ⟨m, hm, hb⟩ := h
    refine scan g m (fun _ => r) (hbad m hm hb) ?_ 0 (Nat.zero_le _)
    intro i hi hE
    by_cases c : bad i
    · exact hbad i (by omega) c
    · exact hgo i (by omega) c _ hE
  · have hn : ∀ i, i < n → ¬ bad i := fun i hi hb => h ⟨i, hi, hb⟩
    refine scan g n (fun _ => r) (hend hn) ?_ 0 (Nat.zero_le _)
    intro i hi hE
    exact hgo i hi (hn i hi) _ hE
end Go.Proofs.YtpkimbkjjmbmcaaDoor.Plain
namespace Go.Proofs.YtpkimbkjjmbmcaaDoor.PlainBits
open Go Go.RowKit Go.Proofs.YtpkimbkjjmbmcaaDoorW.PrintWords Go.Proofs.YtpkimbkjjmbmcaaDoorW.PrintMore Go.Proofs.YtpkimbkjjmbmcaaDoor.Plain
set_option linter.unusedVariables false
set_option linter.unusedSimpArgs false

theorem shl_one {r : Nat} (h : r < 64) : shl .u64 1 (IntKind.u64.wrap (r : Int)) = ((2 ^ r : Nat) : Int) := by
  have hp : 2 ^ r < 18446744073709551616 := by
    have := Nat.pow_lt_pow_right (a := 2) (by omega) h
    omega
  unfold shl
  rw [IntKind.wrap_u64, IntKind.wrap_u64]
  have h1 : ((r : Int) % 18446744073709551616).toNat = r := by omega
  rw [h1, show IntKind.u64.bits = 64 from rfl, Nat.min_eq_left (by omega), Int.one_mul]
  rw [show ((2 : Int) ^ r) = ((2 ^ r : Nat) : Int) by simp]
  generalize 2 ^ r = q at hp ⊢
  omega
def withB (s r : Nat) : Nat := s ||| 2 ^ r
def withoutB (s r : Nat) : Nat := s &&& (18446744073709551615 - 2 ^ r)
theorem withB_bit (s r i : Nat) : (withB s r).testBit i = (s.testBit i || decide (i = r)) := by
  unfold withB
  rw [Nat.testBit_or, Nat.testBit_two_pow]
  congr 1
  apply decide_eq_decide.2
  exact eq_comm
theorem withoutB_bit {s r i : Nat} (hr : r < 64) (hs : s < 2 ^ 64) : (withoutB s r).testBit i = (s.testBit i && decide (i ≠ r)) := by
  unfold withoutB
  have hp : 2 ^ r < 2 ^ 64 := Nat.pow_lt_pow_right (by omega) hr
  rw [Nat.testBit_and, show 18446744073709551615 - 2 ^ r = 2 ^ 64 - (2 ^ r + 1) by omega, Nat.testBit_two_pow_sub_succ hp, Nat.testBit_two_pow]
  by_cases hi : i < 64
  · rw [decide_eq_true hi, Bool.true_and]
    congr 1
    by_cases c : r = i
    · subst c
      simp
    · have : i ≠ r := fun e => c e.symm
      simp [c, this]
  · have : s.testBit i = false := Nat.testBit_lt_two_pow (Nat.lt_of_lt_of_le hs (Nat.pow_le_pow_right (by omega) (by omega)))
    rw [this]
    simp
theorem withB_lt {s r R : Nat} (hr : r < R) (hs : s < 2 ^ R) : withB s r < 2 ^ R := Nat.or_lt_two_pow hs (Nat.pow_lt_pow_right (by omega) hr)
theorem withoutB_lt {s r R : Nat} (hs : s < 2 ^ R) : withoutB s r < 2 ^ R := Nat.lt_of_le_of_lt Nat.and_le_left hs
theorem bits_with {s r : Nat} (hr : r < 64) (hs : s < 2 ^ 64) : Go.bits .or .u64 (s : Int) (shl .u64 1 (IntKind.u64.wrap (r : Int))) = (withB s r : Int) := by
  have hp : 2 ^ r < 2 ^ 64 := Nat.pow_lt_pow_right (by omega) hr
  rw [shl_one hr, u64_or_nat _ _ (by omega) (by omega)]
  rfl
theorem bits_without {s r : Nat} (hr : r < 64) (hs : s < 2 ^ 64) : Go.bits .andNot .u64 (s : Int) (shl .u64 1 (IntKind.u64.wrap (r : Int))) = (withoutB s r : Int) := by
  have hp : 2 ^ r < 2 ^ 64 := Nat.pow_lt_pow_right (by omega) hr
  rw [shl_one hr, u64_andNot_nat _ _ (by omega) (by omega)]
  rfl
theorem wrap_nonneg (n : Int) : 0 ≤ IntKind.u64.wrap n := by
  rw [IntKind.wrap_u64]
  omega

def toN (R s : Nat) : List Nat := (List.range R).filter (fun r => s.testBit r)
def toL (R s : Nat) : List Int := (toN R s).map (fun n : Nat => (n : Int))
theorem mem_toN {R s r : Nat} : r ∈ toN R s ↔ r < R ∧ s.testBit r = true := by
  unfold toN
  simp
theorem filter_first (p : Nat → Bool) (c : Nat) : ∀ (n s : Nat), s ≤ c → c < s + n → (∀ i, s ≤ i → i < c → p i = false) → p c = true → (List.range' s n).filter p = c :: (List.range' s n).filter (fun i => p i && decide (i ≠ c)) := by
  intro n
  induction n with
  | zero =>
    intro s h1 h2
    omega
  | succ n ih =>
    intro s h1 h2 h3 h4
    rw [List.range'_succ]
    by_cases c1 : s = c
    · subst c1
      rw [List.filter_cons_of_pos h4, List.filter_cons_of_neg (by simp)]
      congr 1
      apply List.filter_congr
      intro i hi
      have := List.mem_range'_1.1 hi
      have : i ≠ s := by omega
      simp [this]
    · rw [List.filter_cons_of_neg (by rw [h3 s (by omega) (by omega)]; simp), List.filter_cons_of_neg (by rw [h3 s (by omega) (by omega)]; simp)]
      exact ih (s + 1) (by omega) (by omega) (fun i hi hc => h3 i (by omega) hc) h4
theorem low_bit {x : Nat} (h0 : 0 < x) (h : x < 2 ^ 64) : Lib.ctz 64 x < 64 ∧ x.testBit (Lib.ctz 64 x) = true ∧ (∀ i, i < Lib.ctz 64 x → x.testBit i = false) ∧ (∀ i, (x &&& (x - 1)).testBit i = (x.testBit i && decide (i ≠ Lib.ctz 64 x))) := by
  have hc : Lib.ctz 64 x = Lib.ctzFrom 64 x := by
    unfold Lib.ctz
    rw [if_neg (by omega)]
  rw [hc]
  obtain ⟨m, hm, hlt⟩ := Lib.ctzFrom_spec 64 x h0 h
  generalize Lib.ctzFrom 64 x = c at *
  have hb : ∀ i, x.testBit i = (decide (c ≤ i) && (2 * m + 1).testBit (i - c)) := by
    intro i
    rw [hm, Nat.testBit_two_pow_mul]
  have hp : 0 < 2 ^ c := Nat.pos_of_ne_zero (by simp)
  have hx1 : x - 1 = 2 ^ c * (2 * m) + (2 ^ c - 1) := by
    rw [hm, Nat.mul_add, Nat.mul_one]
    omega
  have hb1 : ∀ i, (x - 1).testBit i = if i < c then (2 ^ c - 1).testBit i else (2 * m).testBit (i - c) := by
    intro i
    rw [hx1, Nat.testBit_two_pow_mul_add _ (by omega)]
  refine ⟨hlt, ?_, ?_, ?_⟩
  · rw [hb]
    simp
  · intro i hi
    rw [hb, decide_eq_false (by omega)]
    rfl
  · intro i
    rw [Nat.testBit_and, hb1]
    by_cases c1 : i < c
    · rw [hb, decide_eq_false (by omega)]
      rfl
    · rw [if_neg c1, hb, decide_eq_true (by omega), Bool.true_and]
      by_cases c2 : i = c
      · subst c2
        simp
      · rw [decide_eq_true c2, Bool.and_true]
        obtain ⟨d, hd⟩ : ∃ d, i - c = d + 1 := ⟨i - c - 1, by omega⟩
        rw [hd, Nat.testBit_succ, Nat.testBit_succ, show (2 * m + 1) / 2 = m by omega, show (2 * m) / 2 = m by omega, Bool.and_self]
theorem toN_low {R x : Nat} (h0 : 0 < x) (h : x < 2 ^ R) (hR : R ≤ 64) : toN R x = Lib.ctz 64 x :: toN R (x &&& (x - 1)) := by
  have h64 : x < 2 ^ 64 := Nat.lt_of_lt_of_le h (Nat.pow_le_pow_right (by omega) hR)
  obtain ⟨h1, h2, h3, h4⟩ := low_bit h0 h64
  have hcR : Lib.ctz 64 x < R := by
    apply Decidable.byContradiction
    intro hn
    have : x.testBit (Lib.ctz 64 x) = false := Nat.testBit_lt_two_pow (Nat.lt_of_lt_of_le h (Nat.pow_le_pow_right (by omega) (by omega)))
    rw [this] at h2
    exact absurd h2 (by simp)
  unfold toN
  rw [List.range_eq_range', filter_first _ (Lib.ctz 64 x) R 0 (by omega) (by omega) (fun i _ hi => h3 i hi) h2]
  congr 1
  apply List.filter_congr
  intro i _
  rw [h4]
theorem toN_zero (R : Nat) : toN R 0 = [] := by
  unfold toN
  rw [List.filter_eq_nil_iff]
  intro a _
  simp
theorem toN_len (R s : Nat) : (toN R s).length ≤ R := by
  unfold toN
  have := List.length_filter_le (fun r => s.testBit r) (List.range R)
  rw [List.length_range] at this
  exact this
theorem toN_ext {R s t : Nat} (hs : s < 2 ^ R) (ht : t < 2 ^ R) (h : ∀ r, r < R → s.testBit r = t.testBit r) : s = t := by
  apply Nat.eq_of_testBit_eq
  intro i
  by_cases c : i < R
  · exact h i c
  · rw [Nat.testBit_lt_two_pow (Nat.lt_of_lt_of_le hs (Nat.pow_le_pow_right (by omega) (by omega))), Nat.testBit_lt_two_pow (Nat.lt_of_lt_of_le ht (Nat.pow_le_pow_right (by omega) (by omega)))]
def Sub (s t : Nat) : Prop := ∀ r, s.testBit r = true → t.testBit r = true
theorem filter_mono {p q : Nat → Bool} : ∀ (l : List Nat), (∀ i ∈ l, p i = true → q i = true) → (l.filter p).length ≤ (l.filter q).length ∧ ((l.filter p).length = (l.filter q).length → ∀ i ∈ l, p i = q i)
  | [], _ => by simp
  | a :: l, h => by
    obtain ⟨h1, h2⟩ := filter_mono l (fun i hi => h i (List.mem_cons_of_mem _ hi))
    have ha := h a List.mem_cons_self
    cases hp : p a <;> cases hq : q a
    · rw [List.filter_cons_of_neg (by simp [hp]), List.filter_cons_of_neg (by simp [hq])]
      refine ⟨h1, fun e i hi => ?_⟩
      rcases List.mem_cons.1 hi with rfl | hi
      · rw [hp, hq]
      · exact h2 e i hi
    · rw [List.filter_cons_of_neg (by simp [hp]), List.filter_cons_of_pos hq, List.length_cons]
      exact ⟨by omega, fun e => by omega⟩
    · rw [hp, hq] at ha
      exact absurd (ha rfl) (by simp)
    · rw [List.filter_cons_of_pos hp, List.filter_cons_of_pos hq, List.length_cons, List.length_cons]
      refine ⟨by omega, fun e i hi => ?_⟩
      rcases List.mem_cons.1 hi with rfl | hi
      · rw [hp, hq]
      · exact h2 (by omega) i hi
theorem toN_mono {R s t : Nat} (h : Sub s t) : (toN R s).length ≤ (toN R t).length := (filter_mono _ (fun i _ => h i)).1
theorem toN_eq {R s t : Nat} (h : Sub s t) (hs : s < 2 ^ R) (ht : t < 2 ^ R) (e : (toN R s).length = (toN R t).length) : s = t :=
  toN_ext hs ht fun r hr => (filter_mono _ (fun i _ => h i)).2 e r (List.mem_range.2 hr)
end Go.Proofs.YtpkimbkjjmbmcaaDoor.PlainBits
namespace Go.Proofs.YtpkimbkjjmbmcaaDoor.PlainFix
open Go.Proofs.YtpkimbkjjmbmcaaDoor.PlainBits
set_option linter.unusedVariables false
set_option linter.unusedSimpArgs false

def at_ (x : List Nat) (b : Nat) : Nat := x.getD b 0
def LE (x y : List Nat) : Prop := ∀ b, Sub (at_ x b) (at_ y b)
theorem LE.refl (x : List Nat) : LE x x := fun _ _ h => h
theorem LE.trans {x y z : List Nat} (h : LE x y) (k : LE y z) : LE x z := fun b r hr => k b r (h b r hr)
structure Eqs (n R : Nat) (A : List Nat → Nat → Nat) : Prop where
  mono : ∀ x y, LE x y → ∀ b, b < n → Sub (A x b) (A y b)
  lt : ∀ x, (∀ b, at_ x b < 2 ^ R) → ∀ b, b < n → A x b < 2 ^ R
theorem at_map {n : Nat} {f : Nat → Nat} {b : Nat} : at_ ((List.range n).map f) b = if b < n then f b else 0 := by
  unfold at_
  rw [List.getD_eq_getElem?_getD]
  split
  · next h =>
    rw [List.getElem?_map, List.getElem?_range h]
    rfl
  · next h =>
    rw [List.getElem?_eq_none (by simp; omega)]
    rfl
theorem at_set {x : List Nat} {b c v : Nat} (hb : b < x.length) : at_ (x.set b v) c = if c = b then v else at_ x c := by
  unfold at_
  rw [List.getD_eq_getElem?_getD, List.getD_eq_getElem?_getD, List.getElem?_set]
  by_cases h : b = c
  · subst h
    rw [if_pos rfl, if_pos rfl, if_pos hb]
    rfl
  · rw [if_neg h, if_neg (fun e => h e.symm)]
theorem at_out {x : List Nat} {b : Nat} (h : x.length ≤ b) : at_ x b = 0 := by
  unfold at_
  rw [List.getD_eq_getElem?_getD, List.getElem?_eq_none h]
  rfl
theorem at_zero (n b : Nat) : at_ (List.replicate n 0) b = 0 := by
  unfold at_
  rw [List.getD_eq_getElem?_getD, List.getElem?_replicate]
  split <;> rfl
theorem zero_LE (n : Nat) (y : List Nat) : LE (List.replicate n 0) y := by
  intro b r h
  rw [at_zero] at h
  simp at h
theorem list_ext {n R : Nat} {x y : List Nat} (hx : x.length = n) (hy : y.length = n) (h : ∀ b, b < n → at_ x b = at_ y b) : x = y := by
  apply List.ext_getElem (by omega)
  intro i h1 h2
  have := h i (by omega)
  unfold at_ at this
  rw [List.getD_eq_getElem?_getD, List.getD_eq_getElem?_getD, List.getElem?_eq_getElem h1, List.getElem?_eq_getElem h2] at this
  exact this

section
variable {n R : Nat} {A : List Nat → Nat → Nat}
def Pre (n : Nat) (A : List Nat → Nat → Nat) (z : List Nat) : Prop := ∀ b, b < n → Sub (A z b) (at_ z b)
structure On (n R : Nat) (A : List Nat → Nat → Nat) (y : List Nat) : Prop where
  len : y.length = n
  lt : ∀ b, at_ y b < 2 ^ R
  up : ∀ b, b < n → Sub (at_ y b) (A y b)
  least : ∀ z, Pre n A z → LE y z
theorem on_zero : On n R A (List.replicate n 0) := by
  refine ⟨List.length_replicate, fun b => ?_, fun b _ r h => ?_, fun z _ => zero_LE n z⟩
  · rw [at_zero]
    exact Nat.pos_of_ne_zero (by simp)
  · rw [at_zero] at h
    simp at h
theorem on_eq {x y : List Nat} (hx : On n R A x) (hy : On n R A y) (px : ∀ b, b < n → A x b = at_ x b) (py : ∀ b, b < n → A y b = at_ y b) : x = y := by
  refine list_ext (R := R) hx.len hy.len fun b hb => ?_
  refine toN_ext (hx.lt b) (hy.lt b) fun r _ => ?_
  have h1 := hx.least y (fun c hc r hr => by rw [← py c hc]; exact hr) b r
  have h2 := hy.least x (fun c hc r hr => by rw [← px c hc]; exact hr) b r
  cases e1 : (at_ x b).testBit r <;> cases e2 : (at_ y b).testBit r
  · rfl
  · exact absurd (h2 e2) (by rw [e1]; simp)
  · exact absurd (h1 e1) (by rw [e2]; simp)
  · rfl
variable (E : Eqs n R A)
include E
theorem on_set {y : List Nat} (h : On n R A y) {b : Nat} (hb : b < n) : On n R A (y.set b (A y b)) ∧ LE y (y.set b (A y b)) := by
  have hlen := h.len
  have hle : LE y (y.set b (A y b)) := by
    intro c r hr
    rw [at_set (by omega)]
    split
    · next e =>
      subst e
      exact h.up c hb r hr
    · exact hr
  refine ⟨⟨by rw [List.length_set]; exact hlen, fun c => ?_, fun c hc r hr => ?_, fun z hz c r hr => ?_⟩, hle⟩
  · rw [at_set (by omega)]
    split
    · exact E.lt y h.lt b hb
    · exact h.lt c
  · apply E.mono _ _ hle c hc
    rw [at_set (by omega)] at hr
    split at hr
    · next e =>
      subst e
      exact hr
    · exact h.up c hc r hr
  · rw [at_set (by omega)] at hr
    split at hr
    · next e =>
      subst e
      exact hz c hb r (E.mono _ _ (h.least z hz) c hb r hr)
    · exact h.least z hz c r hr
theorem on_all {y : List Nat} (h : On n R A y) : On n R A ((List.range n).map (A y)) ∧ LE y ((List.range n).map (A y)) := by
  have hlen := h.len
  have hle : LE y ((List.range n).map (A y)) := by
    intro c r hr
    rw [at_map]
    split
    · next e => exact h.up c e r hr
    · next e =>
      rw [at_out (by omega)] at hr
      simp at hr
  refine ⟨⟨by simp, fun c => ?_, fun c hc r hr => ?_, fun z hz c r hr => ?_⟩, hle⟩
  · rw [at_map]
    split
    · next e => exact E.lt y h.lt c e
    · exact Nat.pos_of_ne_zero (by simp)
  · apply E.mono _ _ hle c hc
    rw [at_map, if_pos hc] at hr
    exact hr
  · rw [at_map] at hr
    split at hr
    · next e => exact hz c e r (E.mono _ _ (h.least z hz) c e r hr)
    · simp at hr
end


def card (R : Nat) : List Nat → Nat
  | [] => 0
  | s :: l => (toN R s).length + card R l
theorem card_le (R : Nat) : ∀ l : List Nat, card R l ≤ l.length * R
  | [] => by simp [card]
  | s :: l => by
    have := card_le R l
    have := toN_len R s
    unfold card
    rw [List.length_cons, Nat.succ_mul]
    omega
theorem card_mono (R : Nat) : ∀ {x y : List Nat}, x.length = y.length → (∀ b, Sub (at_ x b) (at_ y b)) → card R x ≤ card R y
  | [], [], _, _ => Nat.le_refl _
  | [], _ :: _, h, _ => by simp at h
  | _ :: _, [], h, _ => by simp at h
  | s :: x, t :: y, h, hs => by
    have h1 := toN_mono (R := R) (hs 0)
    have h2 := card_mono R (x := x) (y := y) (by simpa using h) (fun b => hs (b + 1))
    unfold card
    exact Nat.add_le_add h1 h2
theorem card_eq (R : Nat) : ∀ {x y : List Nat}, x.length = y.length → (∀ b, Sub (at_ x b) (at_ y b)) → (∀ b, at_ x b < 2 ^ R) → (∀ b, at_ y b < 2 ^ R) → card R x = card R y → x = y
  | [], [], _, _, _, _, _ => rfl
  | [], _ :: _, h, _, _, _, _ => by simp at h
  | _ :: _, [], h, _, _, _, _ => by simp at h
  | s :: x, t :: y, h, hs, hx, hy, e => by
    have h1 := toN_mono (R := R) (hs 0)
    have h2 := card_mono R (x := x) (y := y) (by simpa using h) (fun b => hs (b + 1))
    have h3 : (toN R s).length ≤ (toN R t).length := h1
    unfold card at e
    have e1 : s = t := toN_eq (hs 0) (hx 0) (hy 0) (by show (toN R s).length = (toN R t).length; omega)
    have e2 : x = y := card_eq R (by simpa using h) (fun b => hs (b + 1)) (fun b => hx (b + 1)) (fun b => hy (b + 1)) (by omega)
    rw [e1, e2]
end Go.Proofs.YtpkimbkjjmbmcaaDoor.PlainFix
namespace Go.Proofs.YtpkimbkjjmbmcaaDoor.PlainSuccs
open Go Go.RowKit Go.Proofs.YtpkimbkjjmbmcaaDoorW.PrintWords Go.Proofs.YtpkimbkjjmbmcaaDoorW.PrintMore Go.Proofs.YtpkimbkjjmbmcaaDoor.Q Go.Proofs.YtpkimbkjjmbmcaaDoor.Plain

def targets (x : SIns) : List Int := if x.f0 = 12 then [x.f2] else if x.f0 = 13 then [x.f3, x.f1] else []
def addT (n : Nat) (out : List Int) (t : Int) : List Int := if 0 ≤ t ∧ t < n ∧ t ∉ out then out ++ [t] else out
def blockAt (x : List (List SIns)) (i : Int) : List SIns := x.getD i.toNat []
def lastOf (b : List SIns) : SIns := b.getD (b.length - 1) zIns
def succs (x : List (List SIns)) (i : Int) : List Int :=
  if i < 0 ∨ (x.length : Int) ≤ i ∨ blockAt x i = [] then [] else (targets (lastOf (blockAt x i))).foldl (addT x.length) []

theorem targets_len (x : SIns) : (targets x).length ≤ 2 := by
  unfold targets
  split
  · simp
  · split <;> simp
theorem addT_len (n : Nat) (out : List Int) (t : Int) : (addT n out t).length ≤ out.length + 1 := by
  unfold addT
  split <;> simp
theorem foldT_len (n : Nat) : ∀ (l out : List Int), (l.foldl (addT n) out).length ≤ out.length + l.length
  | [], _ => by simp
  | t :: l, out => by
    have := foldT_len n l (addT n out t)
    have := addT_len n out t
    simp only [List.foldl_cons, List.length_cons]
    omega
theorem succs_len (x : List (List SIns)) (i : Int) : (succs x i).length ≤ 2 := by
  unfold succs
  split
  · simp
  · have := foldT_len x.length (targets (lastOf (blockAt x i))) []
    have := targets_len (lastOf (blockAt x i))
    simp at *
    omega
theorem addT_mem (n : Nat) (out : List Int) (t : Int) (h : ∀ y ∈ out, 0 ≤ y ∧ y < n) : ∀ y ∈ addT n out t, 0 ≤ y ∧ y < n := by
  unfold addT
  split
  · rename_i hc
    intro y hy
    rcases List.mem_append.1 hy with hy | hy
    · exact h y hy
    · rw [List.mem_singleton.1 hy]
      exact ⟨hc.1, hc.2.1⟩
  · exact h
theorem foldT_mem (n : Nat) : ∀ (l out : List Int), (∀ y ∈ out, 0 ≤ y ∧ y < n) → ∀ y ∈ l.foldl (addT n) out, 0 ≤ y ∧ y < n
  | [], _, h => h
  | t :: l, out, h => foldT_mem n l (addT n out t) (addT_mem n out t h)
theorem succs_mem (x : List (List SIns)) (i : Int) : ∀ y ∈ succs x i, 0 ≤ y ∧ y < x.length := by
  unfold succs
  split
  · simp
  · exact foldT_mem _ _ _ (by simp)

theorem ir_targets (x : SIns) : ir_Targets.f x.f0 x.f1 x.f2 x.f3 x.f4 x.f5 = some (targets x) := by
  unfold ir_Targets.f targets
  split
  · rfl
  · split <;> rfl
theorem ref_targets (x : SIns) : cubbyref07_Targets.f x.f0 x.f1 x.f2 x.f3 x.f4 x.f5 = some (targets x) := by
  unfold cubbyref07_Targets.f targets
  simp only [Option.bind_some]
  split
  · rw [if_pos (by simp)]; rfl
  · split
    · rw [if_pos (by simp)]; rfl
    · rfl

theorem has_loop (l : List Int) (x : Int) (hl : l.length ≤ 4611686018427387904) : ∀ (d j : Nat), l.length - j = d → j ≤ l.length → Ev (fun k => cubbyref09_has.l0 k l x (j : Int)) (decide (x ∈ l.drop j)) := by
  intro d
  induction d with
  | zero =>
    intro j hd hj
    refine Ev.step (f := fun _ => some false) (fun k => by simp only [cubbyref09_has.l0]; rw [if_neg (by omega)]) ?_
    rw [List.drop_eq_nil_of_le (by omega)]
    exact Ev.now _
  | succ d ih =>
    intro j hd hj
    have hlt : j < l.length := by omega
    rw [drop_cons hlt]
    by_cases e : l[j] = x
    · refine Ev.step (f := fun _ => some true) (fun k => by simp only [cubbyref09_has.l0]; rw [if_pos (by omega), if_pos (by omega), rd_get hlt, if_pos e]) ?_
      rw [decide_eq_true (by simp [e])]
      exact Ev.now _
    · refine Ev.step (f := fun k => cubbyref09_has.l0 k l x ((j + 1 : Nat) : Int)) (fun k => by simp only [cubbyref09_has.l0]; rw [if_pos (by omega), if_pos (by omega), rd_get hlt, if_neg e, wrap_nat (by omega)]) ?_
      have := ih (j + 1) (by omega) (by omega)
      rw [show (decide (x ∈ l[j] :: l.drop (j + 1))) = decide (x ∈ l.drop (j + 1)) by rw [decide_eq_decide, List.mem_cons]; exact ⟨fun h => h.resolve_left (Ne.symm e), Or.inr⟩]
      exact this
theorem has_ev (l : List Int) (x : Int) (hl : l.length ≤ 4611686018427387904) : Ev (fun k => cubbyref09_has.f k l x) (decide (x ∈ l)) := by
  have := has_loop l x hl l.length 0 (by omega) (by omega)
  simpa [cubbyref09_has.f] using this
theorem index_loop (l : List Int) (x : Int) (hl : l.length ≤ 4611686018427387904) : ∀ (d j : Nat), l.length - j = d → j ≤ l.length → ∃ r, Ev (fun k => slices_Index_int_int.l0 k l x (l.length : Int) (j : Int)) r ∧ (0 ≤ r ↔ x ∈ l.drop j) := by
  intro d
  induction d with
  | zero =>
    intro j hd hj
    refine ⟨-1, Ev.step (f := fun _ => some (-1)) (fun k => by simp only [slices_Index_int_int.l0]; rw [if_neg (by omega)]) (Ev.now _), ?_⟩
    rw [List.drop_eq_nil_of_le (by omega)]
    simp
  | succ d ih =>
    intro j hd hj
    have hlt : j < l.length := by omega
    rw [drop_cons hlt]
    by_cases e : x = l[j]
    · refine ⟨j, Ev.step (f := fun _ => some (j : Int)) (fun k => by simp only [slices_Index_int_int.l0]; rw [if_pos (by omega), if_pos (by omega), if_pos (by omega), rd_get hlt, if_pos e]) (Ev.now _), ?_⟩
      exact ⟨fun _ => by rw [e]; exact List.mem_cons_self, fun _ => by omega⟩
    · obtain ⟨r, hr, hx⟩ := ih (j + 1) (by omega) (by omega)
      refine ⟨r, Ev.step (f := fun k => slices_Index_int_int.l0 k l x (l.length : Int) ((j + 1 : Nat) : Int)) (fun k => by simp only [slices_Index_int_int.l0]; rw [if_pos (by omega), if_pos (by omega), if_pos (by omega), rd_get hlt, if_neg e, wrap_nat (by omega)]) hr, ?_⟩
      rw [hx, List.mem_cons]
      exact ⟨Or.inr, fun h => h.resolve_left e⟩
theorem contains_ev (l : List Int) (x : Int) (hl : l.length ≤ 4611686018427387904) : Ev (fun k => slices_Contains_int_int.f k l x) (decide (x ∈ l)) := by
  obtain ⟨r, hr, hx⟩ := index_loop l x hl l.length 0 (by omega) (by omega)
  refine Ev.bind (g := fun k => slices_Index_int_int.f k l x) (f := fun _ t => some (decide (t ≥ 0))) hr ?_
  rw [List.drop_zero] at hx
  rw [show decide (x ∈ l) = decide (r ≥ 0) from by rw [decide_eq_decide]; exact hx.symm]
  exact Ev.now _

theorem succs_loop (x : List (List SIns)) (l : List Int) (hl : l.length ≤ 1000) : ∀ (d j : Nat) (out : List Int), l.length - j = d → j ≤ l.length → out.length + d ≤ 1000 →
    Ev (fun k => flow_Succs.l0 k x out l (l.length : Int) (j : Int)) ((l.drop j).foldl (addT x.length) out) := by
  intro d
  induction d with
  | zero =>
    intro j out hd hj ho
    refine Ev.step (f := fun _ => some out) (fun k => by simp only [flow_Succs.l0]; rw [if_neg (by omega)]) ?_
    rw [List.drop_eq_nil_of_le (by omega)]
    exact Ev.now _
  | succ d ih =>
    intro j out hd hj ho
    have hlt : j < l.length := by omega
    rw [drop_cons hlt, List.foldl_cons]
    have hs : ∀ out', out'.length ≤ out.length + 1 → Ev (fun k => flow_Succs.l0 k x out' l (l.length : Int) ((j + 1 : Nat) : Int)) ((l.drop (j + 1)).foldl (addT x.length) out') := fun out' h => ih (j + 1) out' (by omega) (by omega) (by omega)
    by_cases h0 : 0 ≤ l[j]
    · by_cases h1 : l[j] < x.length
      · have hc := contains_ev out l[j] (by omega)
        refine Ev.step (f := fun k => (slices_Contains_int_int.f k out l[j]).bind fun t => if t = true then flow_Succs.l0 k x out l (l.length : Int) ((j + 1 : Nat) : Int) else if out.length < 17592186044416 then flow_Succs.l0 k x (out ++ [l[j]]) l (l.length : Int) ((j + 1 : Nat) : Int) else none) (fun k => by
          simp only [flow_Succs.l0]; rw [if_pos (by omega), if_pos (by omega), if_pos (by omega), rd_get hlt, if_pos h0, if_pos h1, wrap_nat (by omega)]) ?_
        refine Ev.bind hc ?_
        by_cases hm : l[j] ∈ out
        · rw [show addT x.length out l[j] = out by unfold addT; rw [if_neg (by simp [hm])]]
          simp only [hm, decide_true, if_true]
          exact hs out (by omega)
        · rw [show addT x.length out l[j] = out ++ [l[j]] by unfold addT; rw [if_pos ⟨h0, h1, hm⟩]]
          simp only [hm, decide_false, Bool.false_eq_true, if_false, show out.length < 17592186044416 from by omega, if_true]
          exact hs _ (by simp)
      · rw [show addT x.length out l[j] = out by unfold addT; rw [if_neg (by omega)]]
        refine Ev.step (f := fun k => flow_Succs.l0 k x out l (l.length : Int) ((j + 1 : Nat) : Int)) (fun k => by
          simp only [flow_Succs.l0]; rw [if_pos (by omega), if_pos (by omega), if_pos (by omega), rd_get hlt, if_pos h0, if_neg h1, wrap_nat (by omega)]) (hs out (by omega))
    · rw [show addT x.length out l[j] = out by unfold addT; rw [if_neg (by omega)]]
      refine Ev.step (f := fun k => flow_Succs.l0 k x out l (l.length : Int) ((j + 1 : Nat) : Int)) (fun k => by
          simp only [flow_Succs.l0]; rw [if_pos (by omega), if_pos (by omega), if_pos (by omega), rd_get hlt, if_neg (by omega), wrap_nat (by omega)]) (hs out (by omega))
theorem refsuccs_loop (x : List (List SIns)) (l : List Int) (hl : l.length ≤ 1000) : ∀ (d j : Nat) (out : List Int), l.length - j = d → j ≤ l.length → out.length + d ≤ 1000 →
    Ev (fun k => cubbyref09_Succs.l0 k x out l (j : Int)) ((l.drop j).foldl (addT x.length) out) := by
  intro d
  induction d with
  | zero =>
    intro j out hd hj ho
    refine Ev.step (f := fun _ => some out) (fun k => by simp only [cubbyref09_Succs.l0]; rw [if_neg (by omega)]) ?_
    rw [List.drop_eq_nil_of_le (by omega)]
    exact Ev.now _
  | succ d ih =>
    intro j out hd hj ho
    have hlt : j < l.length := by omega
    rw [drop_cons hlt, List.foldl_cons]
    have hs : ∀ out', out'.length ≤ out.length + 1 → Ev (fun k => cubbyref09_Succs.l0 k x out' l ((j + 1 : Nat) : Int)) ((l.drop (j + 1)).foldl (addT x.length) out') := fun out' h => ih (j + 1) out' (by omega) (by omega) (by omega)
    by_cases h0 : 0 ≤ l[j]
    · by_cases h1 : l[j] < x.length
      · have hc := has_ev out l[j] (by omega)
        refine Ev.step (f := fun k => (cubbyref09_has.f k out l[j]).bind fun t => if t = true then cubbyref09_Succs.l0 k x out l ((j + 1 : Nat) : Int) else if out.length < 17592186044416 then cubbyref09_Succs.l0 k x (out ++ [l[j]]) l ((j + 1 : Nat) : Int) else none) (fun k => by
          simp only [cubbyref09_Succs.l0]; rw [if_pos (by omega), if_pos (by omega), rd_get hlt, if_pos h0, if_pos h1, wrap_nat (by omega)]) ?_
        refine Ev.bind hc ?_
        by_cases hm : l[j] ∈ out
        · rw [show addT x.length out l[j] = out by unfold addT; rw [if_neg (by simp [hm])]]
          simp only [hm, decide_true, if_true]
          exact hs out (by omega)
        · rw [show addT x.length out l[j] = out ++ [l[j]] by unfold addT; rw [if_pos ⟨h0, h1, hm⟩]]
          simp only [hm, decide_false, Bool.false_eq_true, if_false, show out.length < 17592186044416 from by omega, if_true]
          exact hs _ (by simp)
      · rw [show addT x.length out l[j] = out by unfold addT; rw [if_neg (by omega)]]
        refine Ev.step (f := fun k => cubbyref09_Succs.l0 k x out l ((j + 1 : Nat) : Int)) (fun k => by
          simp only [cubbyref09_Succs.l0]; rw [if_pos (by omega), if_pos (by omega), rd_get hlt, if_pos h0, if_neg h1, wrap_nat (by omega)]) (hs out (by omega))
    · rw [show addT x.length out l[j] = out by unfold addT; rw [if_neg (by omega)]]
      refine Ev.step (f := fun k => cubbyref09_Succs.l0 k x out l ((j + 1 : Nat) : Int)) (fun k => by
          simp only [cubbyref09_Succs.l0]; rw [if_pos (by omega), if_pos (by omega), rd_get hlt, if_neg (by omega), wrap_nat (by omega)]) (hs out (by omega))

theorem rd_last {b : List SIns} (hb : b ≠ []) (hl : b.length ≤ 4611686018427387904) : (0 ≤ wrap64 ((b.length : Int) - 1)) ∧ (wrap64 ((b.length : Int) - 1) < b.length) ∧ rd_TIns b (wrap64 ((b.length : Int) - 1)) = lastOf b := by
  have h0 : 0 < b.length := List.length_pos_iff.2 hb
  rw [wrap_pred h0 hl]
  refine ⟨by omega, by omega, ?_⟩
  rfl

def Small (x : List (List SIns)) : Prop := x.length ≤ 4611686018427387904 ∧ ∀ b ∈ x, b.length ≤ 4611686018427387904
theorem small_at {x : List (List SIns)} (h : Small x) (i : Int) : (blockAt x i).length ≤ 4611686018427387904 := by
  unfold blockAt
  rw [List.getD_eq_getElem?_getD]
  cases e : x[i.toNat]? with
  | none => simp
  | some b => exact h.2 b (List.mem_of_getElem? e)

theorem succs_ev (x : List (List SIns)) (i : Int) (h : Small x) : Ev (fun k => flow_Succs.f k x i) (succs x i) := by
  have nil : Ev (fun k => flow_Succs.j0 k x i true) ([] : List Int) := Ev.step (f := fun _ => some []) (fun k => by simp only [flow_Succs.j0, if_true]) (Ev.now _)
  by_cases h0 : i < 0
  · refine Ev.congr (f := fun k => flow_Succs.j0 k x i true) (fun k => by unfold flow_Succs.f; rw [if_pos h0]) ?_
    rw [show succs x i = [] by unfold succs; rw [if_pos (Or.inl h0)]]
    exact nil
  · by_cases h1 : i < x.length
    · have hb := small_at h i
      by_cases h2 : blockAt x i = []
      · refine Ev.congr (f := fun k => flow_Succs.j0 k x i true) (fun k => by
          unfold flow_Succs.f; rw [if_neg h0, if_neg (by omega), if_pos (by omega), if_pos h1]
          rw [show (((rd_LIns x i).length : Int) == 0) = true from by rw [show rd_LIns x i = [] from h2]; rfl]) ?_
        rw [show succs x i = [] by unfold succs; rw [if_pos (Or.inr (Or.inr h2))]]
        exact nil
      · obtain ⟨p1, p2, p3⟩ := rd_last h2 hb
        refine Ev.congr (f := fun k => flow_Succs.j0 k x i false) (fun k => by
          unfold flow_Succs.f; rw [if_neg h0, if_neg (by omega), if_pos (by omega), if_pos h1]
          rw [show (((rd_LIns x i).length : Int) == 0) = false from by
            rw [beq_eq_false_iff_ne]
            intro e
            exact h2 (List.eq_nil_of_length_eq_zero (by exact Int.ofNat.inj e))]) ?_
        rw [show succs x i = (targets (lastOf (blockAt x i))).foldl (addT x.length) [] by unfold succs; rw [if_neg (by simp only [h2, or_false]; omega)]]
        have ht := targets_len (lastOf (blockAt x i))
        refine Ev.step (f := fun k => flow_Succs.l0 k x [] (targets (lastOf (blockAt x i))) ((targets (lastOf (blockAt x i))).length : Int) 0) (fun k => by
          simp only [flow_Succs.j0]
          rw [if_neg (by simp), if_pos (by omega), if_pos h1]
          show (if 0 ≤ wrap64 (((blockAt x i).length : Int) - 1) then _ else _) = _
          rw [if_pos p1]
          show (if wrap64 (((blockAt x i).length : Int) - 1) < ((blockAt x i).length : Int) then _ else _) = _
          rw [if_pos p2]
          show (ir_Targets.f (rd_TIns (blockAt x i) (wrap64 (((blockAt x i).length : Int) - 1))).f0 (rd_TIns (blockAt x i) (wrap64 (((blockAt x i).length : Int) - 1))).f1 (rd_TIns (blockAt x i) (wrap64 (((blockAt x i).length : Int) - 1))).f2 (rd_TIns (blockAt x i) (wrap64 (((blockAt x i).length : Int) - 1))).f3 (rd_TIns (blockAt x i) (wrap64 (((blockAt x i).length : Int) - 1))).f4 (rd_TIns (blockAt x i) (wrap64 (((blockAt x i).length : Int) - 1))).f5).bind _ = _
          rw [p3, ir_targets]
          rfl) ?_
        have := succs_loop x (targets (lastOf (blockAt x i))) (by omega) _ 0 [] rfl (by omega) (by simp; omega)
        simpa using this
    · refine Ev.congr (f := fun k => flow_Succs.j0 k x i true) (fun k => by unfold flow_Succs.f; rw [if_neg h0, if_pos (by omega)]) ?_
      rw [show succs x i = [] by unfold succs; rw [if_pos (Or.inr (Or.inl (by omega)))]]
      exact nil
theorem refsuccs_ev (x : List (List SIns)) (i : Int) (h : Small x) : Ev (fun k => cubbyref09_Succs.f k x i) (succs x i) := by
  have nil : Ev (fun k => cubbyref09_Succs.j0 k x i [] true) ([] : List Int) := Ev.step (f := fun _ => some []) (fun k => by simp only [cubbyref09_Succs.j0, if_true]) (Ev.now _)
  by_cases h0 : i < 0
  · refine Ev.congr (f := fun k => cubbyref09_Succs.j0 k x i [] true) (fun k => by unfold cubbyref09_Succs.f; simp only [Option.bind_some]; rw [if_pos h0]) ?_
    rw [show succs x i = [] by unfold succs; rw [if_pos (Or.inl h0)]]
    exact nil
  · by_cases h1 : i < x.length
    · have hb := small_at h i
      by_cases h2 : blockAt x i = []
      · refine Ev.congr (f := fun k => cubbyref09_Succs.j0 k x i [] true) (fun k => by
          unfold cubbyref09_Succs.f; simp only [Option.bind_some]; rw [if_neg h0, if_neg (by omega), if_pos (by omega), if_pos h1]
          rw [show (((rd_LIns x i).length : Int) == 0) = true from by rw [show rd_LIns x i = [] from h2]; rfl]) ?_
        rw [show succs x i = [] by unfold succs; rw [if_pos (Or.inr (Or.inr h2))]]
        exact nil
      · obtain ⟨p1, p2, p3⟩ := rd_last h2 hb
        refine Ev.congr (f := fun k => cubbyref09_Succs.j0 k x i [] false) (fun k => by
          unfold cubbyref09_Succs.f; simp only [Option.bind_some]; rw [if_neg h0, if_neg (by omega), if_pos (by omega), if_pos h1]
          rw [show (((rd_LIns x i).length : Int) == 0) = false from by
            rw [beq_eq_false_iff_ne]
            intro e
            exact h2 (List.eq_nil_of_length_eq_zero (by exact Int.ofNat.inj e))]) ?_
        rw [show succs x i = (targets (lastOf (blockAt x i))).foldl (addT x.length) [] by unfold succs; rw [if_neg (by simp only [h2, or_false]; omega)]]
        have ht := targets_len (lastOf (blockAt x i))
        refine Ev.step (f := fun k => cubbyref09_Succs.l0 k x [] (targets (lastOf (blockAt x i))) 0) (fun k => by
          simp only [cubbyref09_Succs.j0]
          rw [if_neg (by simp), if_pos (by omega), if_pos h1]
          show (if 0 ≤ wrap64 (((blockAt x i).length : Int) - 1) then _ else _) = _
          rw [if_pos p1]
          show (if wrap64 (((blockAt x i).length : Int) - 1) < ((blockAt x i).length : Int) then _ else _) = _
          rw [if_pos p2]
          show (cubbyref07_Targets.f (rd_TIns (blockAt x i) (wrap64 (((blockAt x i).length : Int) - 1))).f0 (rd_TIns (blockAt x i) (wrap64 (((blockAt x i).length : Int) - 1))).f1 (rd_TIns (blockAt x i) (wrap64 (((blockAt x i).length : Int) - 1))).f2 (rd_TIns (blockAt x i) (wrap64 (((blockAt x i).length : Int) - 1))).f3 (rd_TIns (blockAt x i) (wrap64 (((blockAt x i).length : Int) - 1))).f4 (rd_TIns (blockAt x i) (wrap64 (((blockAt x i).length : Int) - 1))).f5).bind _ = _
          rw [p3, ref_targets]
          rfl) ?_
        have := refsuccs_loop x (targets (lastOf (blockAt x i))) (by omega) _ 0 [] rfl (by omega) (by simp; omega)
        simpa using this
    · refine Ev.congr (f := fun k => cubbyref09_Succs.j0 k x i [] true) (fun k => by unfold cubbyref09_Succs.f; simp only [Option.bind_some]; rw [if_neg h0, if_pos (by omega)]) ?_
      rw [show succs x i = [] by unfold succs; rw [if_pos (Or.inr (Or.inl (by omega)))]]
      exact nil
end Go.Proofs.YtpkimbkjjmbmcaaDoor.PlainSuccs
namespace Go.Proofs.YtpkimbkjjmbmcaaDoor.PlainName
open Go Go.RowKit Go.Proofs.YtpkimbkjjmbmcaaDoorW.PrintWords Go.Proofs.YtpkimbkjjmbmcaaDoorW.PrintMore Go.Proofs.YtpkimbkjjmbmcaaDoor.Q Go.Proofs.YtpkimbkjjmbmcaaDoor.Plain
set_option linter.unusedVariables false
set_option linter.unusedSimpArgs false

def lowD (x : UInt8) : Bool := decide ((97 ≤ x.toNat ∧ x.toNat ≤ 122) ∨ (48 ≤ x.toNat ∧ x.toNat ≤ 57))
def nameOk (s : ByteArray) : Bool := decide (1 ≤ s.size ∧ s.size ≤ 12 ∧ 97 ≤ bt s 0) && s.data.toList.all lowD

theorem cut_has (x : UInt8) : nameCut.data.toList.contains x = lowD x := by
  have h : ∀ n, n < 256 → nameCut.data.toList.contains (UInt8.ofNat n) = lowD (UInt8.ofNat n) := by decide +kernel
  have := h x.toNat x.toNat_lt
  rwa [UInt8.ofNat_toNat] at this
theorem dw_nil {p : UInt8 → Bool} : ∀ {l : List UInt8}, l.dropWhile p = [] ↔ ∀ x, x ∈ l → p x = true
  | [] => by simp
  | a :: t => by
    rw [List.dropWhile_cons]
    by_cases h : p a = true
    · rw [if_pos h, dw_nil (l := t)]
      constructor
      · intro g x hx
        rcases List.mem_cons.1 hx with rfl | hx
        · exact h
        · exact g x hx
      · exact fun g x hx => g x (List.mem_cons_of_mem _ hx)
    · rw [if_neg h]
      constructor
      · intro g
        exact absurd g (by simp)
      · intro g
        exact absurd (g a List.mem_cons_self) h
theorem trim_nil (l cs : List UInt8) : Lib.trimS l cs = [] ↔ l.all (cs.contains ·) = true := by
  unfold Lib.trimS Lib.trimLeftS Lib.trimRightS
  constructor
  · intro h
    rw [dw_nil] at h
    rw [List.all_eq_true]
    intro x hx
    have h2 : x ∈ l.reverse := List.mem_reverse.2 hx
    rw [← List.takeWhile_append_dropWhile (p := fun x => cs.contains x) (l := l.reverse)] at h2
    rcases List.mem_append.1 h2 with h3 | h3
    · exact (List.all_eq_true.1 (List.all_takeWhile (p := fun x => cs.contains x) (l := l.reverse))) x h3
    · exact h x (List.mem_reverse.2 h3)
  · intro h
    have h1 : l.reverse.dropWhile (cs.contains ·) = [] := by
      rw [dw_nil]
      intro x hx
      exact List.all_eq_true.1 h x (List.mem_reverse.1 hx)
    rw [h1]
    rfl
theorem size_list (s : ByteArray) : s.data.toList.length = s.size := by simp
theorem bt_get {s : ByteArray} {j : Nat} (h : j < s.data.toList.length) : bt s (j : Int) = ((s.data.toList[j]).toNat : Int) := by
  have hs := size_list s
  unfold bt
  rw [dif_pos (by omega)]
  rfl
theorem name_eq (s : ByteArray) : ir_Name.f s = some (nameOk s) := by
  have hs := size_list s
  unfold ir_Name.f
  rw [toList_data]
  by_cases h0 : s.data.toList = []
  · have : s.size = 0 := by
      rw [h0] at hs
      exact hs.symm
    rw [if_pos h0]
    unfold nameOk
    rw [decide_eq_false (by omega)]
    rfl
  · have h1 : 0 < s.size := by
      rw [← hs]
      exact List.length_pos_iff.2 h0
    rw [if_neg h0]
    by_cases h2 : (s.size : Int) > 12
    · rw [if_pos h2]
      unfold nameOk
      rw [decide_eq_false (by omega)]
      rfl
    · rw [if_neg h2, if_pos (by omega)]
      by_cases h3 : bt s 0 < 97
      · rw [if_pos h3]
        unfold nameOk
        rw [decide_eq_false (by omega)]
        rfl
      · rw [if_neg h3]
        unfold strings_Trim.f
        rw [if_pos ⟨by omega, rfl⟩]
        simp only [Option.bind_some]
        rw [toList_data]
        unfold nameOk
        rw [decide_eq_true (by omega), Bool.true_and, List.toList_toArray]
        congr 1
        have hc : s.data.toList.all (nameCut.data.toList.contains ·) = s.data.toList.all lowD := by
          congr 1
          funext x
          exact cut_has x
        have ht := trim_nil s.data.toList nameCut.data.toList
        rw [hc] at ht
        by_cases ha : s.data.toList.all lowD = true
        · rw [ha]
          exact beq_iff_eq.2 (ht.2 ha)
        · rw [Bool.not_eq_true _ |>.mp ha]
          exact beq_eq_false_iff_ne.2 fun e => ha (ht.1 e)

def restOk (s : ByteArray) (j : Nat) : Bool := (s.data.toList.drop j).all lowD && decide (j = 0 → 97 ≤ bt s 0)
theorem refname_loop (s : ByteArray) (hl : s.size ≤ 12) : ∀ (d j : Nat), s.size - j = d → j ≤ s.size → (j = 0 → 0 < s.size) → Ev (fun k => cubbyref07_Name.l0 k s (j : Int)) (restOk s j) := by
  have hs := size_list s
  intro d
  induction d with
  | zero =>
    intro j hd hj h0
    have : restOk s j = true := by
      unfold restOk
      rw [List.drop_eq_nil_of_le (by omega)]
      simp
      omega
    rw [this]
    exact Ev.step (f := fun _ => some true) (fun k => by simp only [cubbyref07_Name.l0]; rw [if_neg (by omega)]) (Ev.now _)
  | succ d ih =>
    intro j hd hj h0
    have hlt : j < s.data.toList.length := by omega
    have hb := bt_get hlt
    have hR : restOk s j = (lowD (s.data.toList[j]) && decide (j = 0 → 97 ≤ bt s 0) && restOk s (j + 1)) := by
      unfold restOk
      rw [drop_cons hlt]
      simp
      cases lowD s.data.toList[j] <;> cases (List.drop (j + 1) s.data.toList).all lowD <;> simp
    have hlow : lowD (s.data.toList[j]) = decide ((97 ≤ bt s (j : Int) ∧ bt s (j : Int) ≤ 122) ∨ (48 ≤ bt s (j : Int) ∧ bt s (j : Int) ≤ 57)) := by
      unfold lowD
      rw [hb]
      apply decide_eq_decide.2
      omega
    have hj0 : j = 0 → bt s (j : Int) = bt s 0 := by
      rintro rfl
      rfl
    rw [hR, hlow]
    have hstep : ∀ k, cubbyref07_Name.l0 (k + 1) s (j : Int) = (if (97 ≤ bt s (j : Int) ∧ bt s (j : Int) ≤ 122) ∨ ((48 ≤ bt s (j : Int) ∧ bt s (j : Int) ≤ 57) ∧ j ≠ 0) then cubbyref07_Name.l0 k s ((j + 1 : Nat) : Int) else some false) := by
      intro k
      simp only [cubbyref07_Name.l0]
      rw [if_pos (by omega : (j : Int) < (s.size : Int)), if_pos (by omega : (0 : Int) ≤ (j : Int)), wrap_nat (by omega)]
      repeat' split
      all_goals first
        | rfl
        | omega
    by_cases c : (97 ≤ bt s (j : Int) ∧ bt s (j : Int) ≤ 122) ∨ ((48 ≤ bt s (j : Int) ∧ bt s (j : Int) ≤ 57) ∧ j ≠ 0)
    · refine Ev.step (fun k => (hstep k).trans (if_pos c)) ?_
      rw [decide_eq_true (by omega), decide_eq_true (by intro h; have := hj0 h; omega), Bool.true_and, Bool.true_and]
      exact ih (j + 1) (by omega) (by omega) (by omega)
    · refine Ev.step (f := fun _ => some false) (fun k => (hstep k).trans (if_neg c)) ?_
      have : (decide ((97 ≤ bt s (j : Int) ∧ bt s (j : Int) ≤ 122) ∨ (48 ≤ bt s (j : Int) ∧ bt s (j : Int) ≤ 57)) && decide (j = 0 → 97 ≤ bt s 0)) = false := by
        by_cases c1 : (97 ≤ bt s (j : Int) ∧ bt s (j : Int) ≤ 122) ∨ (48 ≤ bt s (j : Int) ∧ bt s (j : Int) ≤ 57)
        · rw [decide_eq_false (p := (j = 0 → 97 ≤ bt s 0)) (fun h => by
            have h9 : j = 0 := by omega
            have := hj0 h9
            have := h h9
            omega), Bool.and_false]
        · rw [decide_eq_false c1, Bool.false_and]
      rw [this, Bool.false_and]
      exact Ev.now _
theorem refname_ev (s : ByteArray) : Ev (fun k => cubbyref07_Name.f k s) (nameOk s) := by
  have hyes : (s.size < 1 ∨ 12 < s.size) → Ev (fun k => cubbyref07_Name.j0 k s true) (nameOk s) := fun h => by
    have : nameOk s = false := by
      unfold nameOk
      rw [decide_eq_false (by omega)]
      rfl
    rw [this]
    exact Ev.step (f := fun _ => some false) (fun k => by simp only [cubbyref07_Name.j0, if_true]) (Ev.now _)
  by_cases h1 : (s.size : Int) < 1
  · exact Ev.congr (fun k => by unfold cubbyref07_Name.f; rw [if_pos h1]) (hyes (by omega))
  refine Ev.congr (f := fun k => cubbyref07_Name.j0 k s (decide ((s.size : Int) > 12))) (fun k => by unfold cubbyref07_Name.f; rw [if_neg h1]) ?_
  by_cases h2 : (s.size : Int) > 12
  · rw [decide_eq_true h2]
    exact hyes (by omega)
  · rw [decide_eq_false h2]
    refine Ev.step (f := fun k => cubbyref07_Name.l0 k s ((0 : Nat) : Int)) (fun k => by simp only [cubbyref07_Name.j0]; rw [if_neg (by simp)]; rfl) ?_
    have := refname_loop s (by omega) s.size 0 (by omega) (by omega) (by omega)
    have hR : restOk s 0 = nameOk s := by
      unfold restOk nameOk
      rw [List.drop_zero, Bool.and_comm]
      congr 1
      apply decide_eq_decide.2
      constructor
      · intro h
        exact ⟨by omega, by omega, h rfl⟩
      · intro h _
        exact h.2.2
    rw [← hR]
    exact this
end Go.Proofs.YtpkimbkjjmbmcaaDoor.PlainName
namespace Go.Proofs.YtpkimbkjjmbmcaaDoor.PlainOne
open Go Go.RowKit Go.Proofs.YtpkimbkjjmbmcaaDoorW.PrintWords Go.Proofs.YtpkimbkjjmbmcaaDoorW.PrintMore Go.Proofs.YtpkimbkjjmbmcaaDoor.Q Go.Proofs.YtpkimbkjjmbmcaaDoor.Plain Go.Proofs.YtpkimbkjjmbmcaaDoor.PlainIr Go.Proofs.YtpkimbkjjmbmcaaDoor.PlainName
set_option linter.unusedVariables false
set_option linter.unusedSimpArgs false

def hasD (op : Int) : Prop := (1 ≤ op ∧ op ≤ 8) ∨ op = 11
instance (op : Int) : Decidable (hasD op) := by unfold hasD; infer_instance
def bareP (op d a b : Int) (nm : ByteArray) (args : List Int) : Prop :=
  (op = 11 ∨ (nm.toList = ([] : List UInt8) ∧ args.length = 0)) ∧ ((op = 9 ∨ op = 10 ∨ op = 12 ∨ op = 14) → d = 0) ∧ (op = 11 → a = 0) ∧ ((op = 1 ∨ op = 2 ∨ op = 8 ∨ op = 10 ∨ op = 11 ∨ op = 12 ∨ op = 14) → b = 0)
instance (op d a b : Int) (nm : ByteArray) (args : List Int) : Decidable (bareP op d a b nm args) := by unfold bareP; infer_instance
def e5 (op : Int) (args : List Int) : Int := if op = 11 ∧ 4 < args.length then 192 else 0
def e4 (op : Int) (nm : ByteArray) (args : List Int) : Int := if op = 11 ∧ nameOk nm = false then 70 else e5 op args
def e3 (blocks op d a b : Int) (nm : ByteArray) (args : List Int) : Int := if (targets7 op d a b).any (oddReg blocks) = true then 74 else e4 op nm args
def e2 (blocks op d a b : Int) (nm : ByteArray) (args : List Int) : Int := if op = 1 ∧ (a < 0 ∨ 65536 ≤ a) then 81 else e3 blocks op d a b nm args
def e1 (regs blocks op d a b : Int) (nm : ByteArray) (args : List Int) : Int := if (hasD op ∧ oddReg regs d = true) ∨ (uses op a b args).any (oddReg regs) = true then 73 else e2 blocks op d a b nm args
def oneE (regs blocks op d a b : Int) (nm : ByteArray) (args : List Int) (last : Bool) : Int := if (1 ≤ op ∧ op ≤ 14) ∧ lastOp op = last ∧ bareP op d a b nm args then e1 regs blocks op d a b nm args else 72

theorem odd_iff (m n : Int) : oddReg m n = true ↔ n < 0 ∨ m ≤ n := by
  unfold oddReg
  exact decide_eq_true_iff
theorem any_odd {m : Int} {l : List Int} : l.any (oddReg m) = true ↔ ∃ i : Nat, i < l.length ∧ oddReg m (rd l (i : Int)) = true := by
  rw [List.any_eq_true]
  constructor
  · rintro ⟨x, hx, h⟩
    obtain ⟨i, hi, rfl⟩ := List.mem_iff_getElem.1 hx
    exact ⟨i, hi, by rw [rd_get hi]; exact h⟩
  · rintro ⟨i, hi, h⟩
    rw [rd_get hi] at h
    exact ⟨_, List.getElem_mem hi, h⟩


theorem refwithin_ev (l : List Int) (most : Int) (hl : l.length ≤ 4611686018427387904) : Ev (fun k => cubbyref07_within.f k l most) (!(l.any (oddReg most))) := by
  show Ev (fun k => cubbyref07_within.l0 k l most ((0 : Nat) : Int)) _
  refine seek (fun k i => cubbyref07_within.l0 k l most (i : Int)) l.length (fun i => oddReg most (rd l (i : Int)) = true) false _ ?_ ?_ ?_ ?_
  · intro i hi hb
    rw [odd_iff] at hb
    refine Ev.step (f := fun _ => some false) (fun k => ?_) (Ev.now _)
    simp only [cubbyref07_within.l0]
    rw [if_pos (by omega), if_pos (by omega)]
    split
    · rfl
    · rw [if_pos (by omega)]
  · intro i hi hb r' hE
    rw [odd_iff] at hb
    refine Ev.step (fun k => ?_) hE
    simp only [cubbyref07_within.l0]
    rw [if_pos (by omega), if_pos (by omega), if_neg (by omega), if_neg (by omega), wrap_nat (by omega)]
  · intro h
    rw [any_odd.2 h]
    rfl
  · intro h
    have : l.any (oddReg most) = false := by
      rw [← Bool.not_eq_true, any_odd]
      rintro ⟨i, hi, hb⟩
      exact h i hi hb
    rw [this]
    exact Ev.step (f := fun _ => some true) (fun k => by simp only [cubbyref07_within.l0]; rw [if_neg (by omega)]) (Ev.now _)

theorem refbare_ev (op d a b : Int) (nm : ByteArray) (args : List Int) (h : 1 ≤ op ∧ op ≤ 14) : Ev (fun k => cubbyref07_bare.f k op d a b nm args) (decide (bareP op d a b nm args)) := by
  have h3 : ∀ B, (B = true ↔ op = 10 ∨ op = 12 ∨ op = 14) → (op = 10 ∨ op = 11 ∨ op = 12 ∨ op = 14) → Ev (fun k => cubbyref07_bare.j3 k op B op d a b nm args) (if op = 11 then decide (a = 0 ∧ b = 0) else decide (d = 0 ∧ b = 0)) := by
    intro B hB ho
    refine Ev.step (f := fun _ => some _) (fun k => ?_) (Ev.now _)
    simp only [cubbyref07_bare.j3]
    by_cases c : op = 11
    · rw [if_neg (by rw [hB]; omega), if_pos c, if_pos c]
      by_cases c1 : a = 0
      · rw [if_pos c1]
        simp [c1]
        rfl
      · rw [if_neg c1]
        simp [c1]
    · rw [if_pos (by rw [hB]; omega), if_neg c]
      by_cases c1 : d = 0
      · rw [if_pos c1]
        simp [c1]
        rfl
      · rw [if_neg c1]
        simp [c1]
  have h2 : ∀ B, (B = true ↔ (3 ≤ op ∧ op ≤ 7) ∨ op = 13) → ¬ (op = 1 ∨ op = 2 ∨ op = 8) → Ev (fun k => cubbyref07_bare.j2 k op B op d a b nm args) (if (3 ≤ op ∧ op ≤ 7) ∨ op = 13 then true else if op = 9 then decide (d = 0) else if op = 11 then decide (a = 0 ∧ b = 0) else decide (d = 0 ∧ b = 0)) := by
    intro B hB ho
    by_cases c : (3 ≤ op ∧ op ≤ 7) ∨ op = 13
    · rw [if_pos c]
      exact Ev.step (f := fun _ => some true) (fun k => by simp only [cubbyref07_bare.j2]; rw [if_pos (hB.2 c)]) (Ev.now _)
    · rw [if_neg c]
      by_cases c1 : op = 9
      · rw [if_pos c1]
        exact Ev.step (f := fun _ => some (d == 0)) (fun k => by simp only [cubbyref07_bare.j2]; rw [if_neg (by rw [hB]; exact c), if_pos c1]) (Ev.now _)
      · rw [if_neg c1]
        by_cases c2 : op = 10
        · exact Ev.step (fun k => by simp only [cubbyref07_bare.j2]; rw [if_neg (by rw [hB]; exact c), if_neg c1, if_pos c2]) (h3 (op == 10) (by rw [beq_iff_eq]; omega) (by omega))
        · by_cases c3 : op = 14
          · exact Ev.step (fun k => by simp only [cubbyref07_bare.j2]; rw [if_neg (by rw [hB]; exact c), if_neg c1, if_neg c2, if_pos c3]) (h3 (op == 14) (by rw [beq_iff_eq]; omega) (by omega))
          · exact Ev.step (fun k => by simp only [cubbyref07_bare.j2]; rw [if_neg (by rw [hB]; exact c), if_neg c1, if_neg c2, if_neg c3]) (h3 (op == 12) (by rw [beq_iff_eq]; omega) (by omega))
  have h1 : ∀ B, (B = true ↔ op = 1 ∨ op = 2 ∨ op = 8) → Ev (fun k => cubbyref07_bare.j1 k op B op d a b nm args) (if op = 1 ∨ op = 2 ∨ op = 8 then decide (b = 0) else if (3 ≤ op ∧ op ≤ 7) ∨ op = 13 then true else if op = 9 then decide (d = 0) else if op = 11 then decide (a = 0 ∧ b = 0) else decide (d = 0 ∧ b = 0)) := by
    intro B hB
    by_cases c : op = 1 ∨ op = 2 ∨ op = 8
    · rw [if_pos c]
      exact Ev.step (f := fun _ => some (b == 0)) (fun k => by simp only [cubbyref07_bare.j1]; rw [if_pos (hB.2 c)]) (Ev.now _)
    · rw [if_neg c]
      have hn : ¬ B = true := by rw [hB]; exact c
      by_cases c3 : op = 3
      · exact Ev.step (fun k => by simp only [cubbyref07_bare.j1]; rw [if_neg hn, if_pos c3]) (h2 (op == 3) (by rw [beq_iff_eq]; omega) c)
      by_cases c4 : op = 4
      · exact Ev.step (fun k => by simp only [cubbyref07_bare.j1]; rw [if_neg hn, if_neg c3, if_pos c4]) (h2 (op == 4) (by rw [beq_iff_eq]; omega) c)
      by_cases c5 : op = 5
      · exact Ev.step (fun k => by simp only [cubbyref07_bare.j1]; rw [if_neg hn, if_neg c3, if_neg c4, if_pos c5]) (h2 (op == 5) (by rw [beq_iff_eq]; omega) c)
      by_cases c6 : op = 6
      · exact Ev.step (fun k => by simp only [cubbyref07_bare.j1]; rw [if_neg hn, if_neg c3, if_neg c4, if_neg c5, if_pos c6]) (h2 (op == 6) (by rw [beq_iff_eq]; omega) c)
      by_cases c7 : op = 7
      · exact Ev.step (fun k => by simp only [cubbyref07_bare.j1]; rw [if_neg hn, if_neg c3, if_neg c4, if_neg c5, if_neg c6, if_pos c7]) (h2 (op == 7) (by rw [beq_iff_eq]; omega) c)
      · exact Ev.step (fun k => by simp only [cubbyref07_bare.j1]; rw [if_neg hn, if_neg c3, if_neg c4, if_neg c5, if_neg c6, if_neg c7]) (h2 (op == 13) (by rw [beq_iff_eq]; omega) c)
  have h0 : Ev (fun k => cubbyref07_bare.j0 k false op d a b nm args) (if op = 1 ∨ op = 2 ∨ op = 8 then decide (b = 0) else if (3 ≤ op ∧ op ≤ 7) ∨ op = 13 then true else if op = 9 then decide (d = 0) else if op = 11 then decide (a = 0 ∧ b = 0) else decide (d = 0 ∧ b = 0)) := by
    by_cases c1 : op = 1
    · exact Ev.step (fun k => by simp only [cubbyref07_bare.j0]; rw [if_neg Bool.false_ne_true, if_pos c1]) (h1 (op == 1) (by rw [beq_iff_eq]; omega))
    by_cases c2 : op = 2
    · exact Ev.step (fun k => by simp only [cubbyref07_bare.j0]; rw [if_neg Bool.false_ne_true, if_neg c1, if_pos c2]) (h1 (op == 2) (by rw [beq_iff_eq]; omega))
    · exact Ev.step (fun k => by simp only [cubbyref07_bare.j0]; rw [if_neg Bool.false_ne_true, if_neg c1, if_neg c2]) (h1 (op == 8) (by rw [beq_iff_eq]; omega))
  have hsame : (op = 11 ∨ (nm.toList = ([] : List UInt8) ∧ args.length = 0)) → (if op = 1 ∨ op = 2 ∨ op = 8 then decide (b = 0) else if (3 ≤ op ∧ op ≤ 7) ∨ op = 13 then true else if op = 9 then decide (d = 0) else if op = 11 then decide (a = 0 ∧ b = 0) else decide (d = 0 ∧ b = 0)) = decide (bareP op d a b nm args) := by
    intro hb
    unfold bareP
    repeat' split
    all_goals first
      | (apply decide_eq_decide.2; constructor <;> intro hx <;> first | omega | (refine ⟨hb, ?_, ?_, ?_⟩ <;> omega))
      | (symm; apply decide_eq_true; refine ⟨hb, ?_, ?_, ?_⟩ <;> omega)
  by_cases c : op = 11
  · rw [← hsame (.inl c)]
    exact Ev.congr (fun k => by unfold cubbyref07_bare.f; rw [if_pos c]) h0
  · by_cases c1 : nm.toList = ([] : List UInt8)
    · refine Ev.congr (fun k => by unfold cubbyref07_bare.f; rw [if_neg c, if_pos c1]) ?_
      by_cases c2 : (args.length : Int) > 0
      · rw [decide_eq_true c2, decide_eq_false (by unfold bareP; omega)]
        exact Ev.step (f := fun _ => some false) (fun k => by simp only [cubbyref07_bare.j0]; rw [if_pos trivial]) (Ev.now _)
      · rw [decide_eq_false c2, ← hsame (.inr ⟨c1, by omega⟩)]
        exact h0
    · refine Ev.congr (fun k => by unfold cubbyref07_bare.f; rw [if_neg c, if_neg c1]) ?_
      rw [decide_eq_false (p := bareP op d a b nm args) (by
        unfold bareP
        rintro ⟨h4 | h4, _⟩
        · exact c h4
        · exact c1 h4.1)]
      exact Ev.step (f := fun _ => some false) (fun k => by simp only [cubbyref07_bare.j0]; rw [if_pos trivial]) (Ev.now _)
theorem uses_short {op a b : Int} {args : List Int} (ha : args.length ≤ 17592186043904) : (uses op a b args).length ≤ 4611686018427387904 := by
  unfold uses
  repeat' split
  all_goals first | omega | simp
theorem targets_short (op d a b : Int) : (targets7 op d a b).length ≤ 4611686018427387904 := by
  unfold targets7
  repeat' split
  all_goals simp
theorem defOf_iff {op d : Int} : (defOf op d = -1 ↔ ¬ hasD op ∨ d = -1) ∧ (hasD op → defOf op d = d) := by
  unfold defOf hasD
  constructor
  · split <;> omega
  · intro h
    rw [if_pos h]
section
variable (op d a b : Int) (nm : ByteArray) (args : List Int)
theorem r4 (B : Bool) : Ev (fun k => cubbyref07_One.j4 k B op d a b nm args) (if B = true then 70 else e5 op args) := by
  refine Ev.step (f := fun _ => some _) (fun k => ?_) (Ev.now _)
  simp only [cubbyref07_One.j4]
  unfold e5
  repeat' split
  all_goals first | rfl | omega
theorem r3 (blocks : Int) (B : Bool) : Ev (fun k => cubbyref07_One.j3 k blocks B op d a b nm args) (if B = true then 81 else e3 blocks op d a b nm args) := by
  cases B
  · rw [if_neg Bool.false_ne_true]
    refine Ev.step (fun k => by simp only [cubbyref07_One.j3]; rw [if_neg Bool.false_ne_true, reftargets_eq, Option.bind_some]) (Ev.bind (refwithin_ev (targets7 op d a b) blocks (targets_short op d a b)) ?_)
    unfold e3
    by_cases c : (targets7 op d a b).any (oddReg blocks) = true
    · rw [if_pos c, c]
      exact Ev.congr (f := fun _ => some 74) (fun k => by rw [if_neg (by decide)]) (Ev.now _)
    · rw [if_neg c, (Bool.not_eq_true _).mp c]
      unfold e4
      by_cases c1 : op = 11
      · refine Ev.congr (fun k => by rw [if_pos (by decide), if_pos c1]) (Ev.bind (refname_ev nm) ?_)
        have := r4 op d a b nm args (!nameOk nm)
        cases hn : nameOk nm
        · rw [hn] at this
          rw [if_pos ⟨c1, rfl⟩]
          exact this
        · rw [hn] at this
          rw [if_neg (by simp)]
          exact this
      · rw [if_neg (fun h => c1 h.1)]
        exact Ev.congr (fun k => by rw [if_pos (by decide), if_neg c1]) (r4 op d a b nm args false)
  · exact Ev.step (f := fun _ => some 81) (fun k => by simp only [cubbyref07_One.j3]; rw [if_pos trivial]) (Ev.now _)
theorem r2 (blocks : Int) (B : Bool) : Ev (fun k => cubbyref07_One.j2 k blocks B op d a b nm args) (if B = true then 73 else e2 blocks op d a b nm args) := by
  cases B
  · rw [if_neg Bool.false_ne_true]
    unfold e2
    by_cases c : op = 1
    · by_cases c1 : a < 0
      · rw [if_pos ⟨c, .inl c1⟩]
        exact Ev.step (fun k => by simp only [cubbyref07_One.j2]; rw [if_neg Bool.false_ne_true, if_pos c, if_pos c1]) (r3 op d a b nm args blocks true)
      · refine Ev.step (fun k => by simp only [cubbyref07_One.j2]; rw [if_neg Bool.false_ne_true, if_pos c, if_neg c1]) ?_
        have := r3 op d a b nm args blocks (decide (a ≥ 65536))
        by_cases c2 : a ≥ 65536
        · rw [if_pos ⟨c, .inr c2⟩]
          rw [decide_eq_true c2] at this ⊢
          exact this
        · rw [if_neg (by omega)]
          rw [decide_eq_false c2] at this ⊢
          exact this
    · rw [if_neg (by omega)]
      exact Ev.step (fun k => by simp only [cubbyref07_One.j2]; rw [if_neg Bool.false_ne_true, if_neg c]) (r3 op d a b nm args blocks false)
  · exact Ev.step (f := fun _ => some 73) (fun k => by simp only [cubbyref07_One.j2]; rw [if_pos trivial]) (Ev.now _)
theorem r1 (h : 1 ≤ op ∧ op ≤ 14) (blocks : Int) (B : Bool) : Ev (fun k => cubbyref07_One.j1 k blocks B op d a b nm args) (if B = true ∨ (hasD op ∧ d = -1) then 73 else e2 blocks op d a b nm args) := by
  cases B
  · have hd := (defOf_iff (op := op) (d := d)).1
    by_cases c : defOf op d = -1
    · by_cases c9 : op = 9
      · rw [if_neg (by unfold hasD; rintro (x | x) <;> first | exact absurd x (by decide) | omega)]
        exact Ev.step (fun k => by simp only [cubbyref07_One.j1]; rw [if_neg Bool.false_ne_true, refdef_eq, Option.bind_some, if_pos c, if_pos c9]) (r2 op d a b nm args blocks false)
      · by_cases c10 : op = 10
        · rw [if_neg (by unfold hasD; rintro (x | x) <;> first | exact absurd x (by decide) | omega)]
          exact Ev.step (fun k => by simp only [cubbyref07_One.j1]; rw [if_neg Bool.false_ne_true, refdef_eq, Option.bind_some, if_pos c, if_neg c9, if_pos c10]) (r2 op d a b nm args blocks false)
        · refine Ev.step (fun k => by simp only [cubbyref07_One.j1]; rw [if_neg Bool.false_ne_true, refdef_eq, Option.bind_some, if_pos c, if_neg c9, if_neg c10, reflast_eq, Option.bind_some]) ?_
          have := r2 op d a b nm args blocks (!lastOp op)
          by_cases cl : 12 ≤ op ∧ op ≤ 14
          · rw [if_neg (by unfold hasD; rintro (x | x) <;> first | exact absurd x (by decide) | omega)]
            rw [show lastOp op = true from decide_eq_true cl] at this ⊢
            exact this
          · rw [if_pos (.inr ⟨by unfold hasD; omega, by unfold hasD at hd; omega⟩)]
            rw [show lastOp op = false from decide_eq_false cl] at this ⊢
            exact this
    · rw [if_neg (by
        rintro (x | x)
        · exact absurd x (by decide)
        · exact c (hd.2 (.inr x.2)))]
      exact Ev.step (fun k => by simp only [cubbyref07_One.j1]; rw [if_neg Bool.false_ne_true, refdef_eq, Option.bind_some, if_neg c]) (r2 op d a b nm args blocks false)
  · rw [if_pos (.inl rfl)]
    exact Ev.step (f := fun _ => some 73) (fun k => by simp only [cubbyref07_One.j1]; rw [if_pos trivial]) (Ev.now _)
theorem r0 (h : 1 ≤ op ∧ op ≤ 14) (ha : args.length ≤ 17592186043904) (regs blocks : Int) (B : Bool) : Ev (fun k => cubbyref07_One.j0 k regs blocks B op d a b nm args) (if B = true then 72 else e1 regs blocks op d a b nm args) := by
  cases B
  · rw [if_neg Bool.false_ne_true]
    have hd := (defOf_iff (op := op) (d := d))
    have hj : Ev (fun k => (cubbyref07_Uses.f k op d a b nm args).bind fun t273 => (cubbyref07_within.f k t273 regs).bind fun t276 => cubbyref07_One.j1 k blocks (!t276) op d a b nm args) (if (uses op a b args).any (oddReg regs) = true ∨ (hasD op ∧ d = -1) then 73 else e2 blocks op d a b nm args) := by
      refine Ev.bind (refuses_ev op d a b nm args ha) (Ev.bind (refwithin_ev _ regs (uses_short ha)) ?_)
      have := r1 op d a b nm args h blocks ((uses op a b args).any (oddReg regs))
      rw [Bool.not_not]
      exact this
    by_cases c : defOf op d = -1
    · refine Ev.step (fun k => by simp only [cubbyref07_One.j0]; rw [if_neg Bool.false_ne_true, refdef_eq, Option.bind_some, if_pos c]) ?_
      have e : e1 regs blocks op d a b nm args = (if (uses op a b args).any (oddReg regs) = true ∨ (hasD op ∧ d = -1) then 73 else e2 blocks op d a b nm args) := by
        unfold e1
        have h1 : ((hasD op ∧ oddReg regs d = true) ∨ (uses op a b args).any (oddReg regs) = true) ↔ ((uses op a b args).any (oddReg regs) = true ∨ (hasD op ∧ d = -1)) := by
          rw [odd_iff]
          have h2 := hd.1.1 c
          constructor
          · rintro (⟨x, _⟩ | x)
            · exact .inr ⟨x, by rcases h2 with h2 | h2; exact absurd x h2; exact h2⟩
            · exact .inl x
          · rintro (x | ⟨x, y⟩)
            · exact .inr x
            · exact .inl ⟨x, .inl (by omega)⟩
        simp only [h1]
      rw [e]
      exact hj
    · have hh : hasD op := Decidable.byContradiction fun x => c (hd.1.2 (.inl x))
      have hdd := hd.2 hh
      have hne : d ≠ -1 := fun x => c (hd.1.2 (.inr x))
      by_cases c1 : d < 0
      · have e : e1 regs blocks op d a b nm args = 73 := by
          unfold e1
          rw [if_pos (.inl ⟨hh, (odd_iff _ _).2 (.inl c1)⟩)]
        rw [e]
        have := r1 op d a b nm args h blocks true
        rw [if_pos (.inl rfl)] at this
        exact Ev.step (fun k => by simp only [cubbyref07_One.j0]; rw [if_neg Bool.false_ne_true, refdef_eq, Option.bind_some, if_neg c, Option.bind_some, if_pos (by omega)]) this
      · by_cases c2 : d ≥ regs
        · have e : e1 regs blocks op d a b nm args = 73 := by
            unfold e1
            rw [if_pos (.inl ⟨hh, (odd_iff _ _).2 (.inr c2)⟩)]
          rw [e]
          have := r1 op d a b nm args h blocks true
          rw [if_pos (.inl rfl)] at this
          exact Ev.step (fun k => by simp only [cubbyref07_One.j0]; rw [if_neg Bool.false_ne_true, refdef_eq, Option.bind_some, if_neg c, Option.bind_some, if_neg (by omega), Option.bind_some, if_pos (by omega)]) this
        · have e : e1 regs blocks op d a b nm args = (if (uses op a b args).any (oddReg regs) = true ∨ (hasD op ∧ d = -1) then 73 else e2 blocks op d a b nm args) := by
            unfold e1
            have h1 : ((hasD op ∧ oddReg regs d = true) ∨ (uses op a b args).any (oddReg regs) = true) ↔ ((uses op a b args).any (oddReg regs) = true ∨ (hasD op ∧ d = -1)) := by
              rw [odd_iff]
              constructor
              · rintro (⟨_, x⟩ | x)
                · omega
                · exact .inl x
              · rintro (x | ⟨_, y⟩)
                · exact .inr x
                · exact absurd y hne
            simp only [h1]
          rw [e]
          exact Ev.step (fun k => by simp only [cubbyref07_One.j0]; rw [if_neg Bool.false_ne_true, refdef_eq, Option.bind_some, if_neg c, Option.bind_some, if_neg (by omega), Option.bind_some, if_neg (by omega)]) hj
  · exact Ev.step (f := fun _ => some 72) (fun k => by simp only [cubbyref07_One.j0]; rw [if_pos trivial]) (Ev.now _)
theorem refone_ev (ha : args.length ≤ 17592186043904) (regs blocks : Int) (last : Bool) : Ev (fun k => cubbyref07_One.f k op d a b nm args regs blocks last) (oneE regs blocks op d a b nm args last) := by
  unfold oneE
  have hyes : Ev (fun k => cubbyref07_One.j0 k regs blocks true op d a b nm args) 72 := Ev.step (f := fun _ => some 72) (fun k => by simp only [cubbyref07_One.j0]; rw [if_pos trivial]) (Ev.now _)
  by_cases c0 : op < 1
  · rw [if_neg (by omega)]
    exact Ev.congr (fun k => by unfold cubbyref07_One.f; rw [if_pos c0]) hyes
  by_cases c1 : op > 14
  · rw [if_neg (by omega)]
    exact Ev.congr (fun k => by unfold cubbyref07_One.f; rw [if_neg c0, if_pos c1]) hyes
  have h : 1 ≤ op ∧ op ≤ 14 := by omega
  by_cases c2 : lastOp op = last
  · refine Ev.congr (fun k => by unfold cubbyref07_One.f; rw [if_neg c0, if_neg c1, reflast_eq, Option.bind_some, if_neg (by simp [c2])]) (Ev.bind (refbare_ev op d a b nm args h) ?_)
    have := r0 op d a b nm args h ha regs blocks (!decide (bareP op d a b nm args))
    by_cases c3 : bareP op d a b nm args
    · rw [if_pos ⟨h, c2, c3⟩]
      rw [decide_eq_true c3] at this ⊢
      exact this
    · rw [if_neg (fun x => c3 x.2.2)]
      rw [decide_eq_false c3] at this ⊢
      exact this
  · rw [if_neg (fun x => c2 x.2.1)]
    exact Ev.congr (fun k => by unfold cubbyref07_One.f; rw [if_neg c0, if_neg c1, reflast_eq, Option.bind_some, if_pos (by simpa using c2)]) hyes
end
end Go.Proofs.YtpkimbkjjmbmcaaDoor.PlainOne
namespace Go.Proofs.YtpkimbkjjmbmcaaDoor.PlainLive
open Go Go.RowKit Go.Proofs.YtpkimbkjjmbmcaaDoorW.PrintWords Go.Proofs.YtpkimbkjjmbmcaaDoorW.PrintMore Go.Proofs.YtpkimbkjjmbmcaaDoor.Q Go.Proofs.YtpkimbkjjmbmcaaDoor.Plain Go.Proofs.YtpkimbkjjmbmcaaDoor.PlainIr Go.Proofs.YtpkimbkjjmbmcaaDoor.PlainBits Go.Proofs.YtpkimbkjjmbmcaaDoor.PlainFix Go.Proofs.YtpkimbkjjmbmcaaDoor.PlainSuccs Go.Proofs.YtpkimbkjjmbmcaaDoor.PlainOne
set_option linter.unusedVariables false
set_option linter.unusedSimpArgs false

theorem mem_toL {R s r : Nat} : (r : Int) ∈ toL R s ↔ r < R ∧ s.testBit r = true := by
  unfold toL
  rw [List.mem_map]
  constructor
  · rintro ⟨q, hq, e⟩
    have : q = r := by omega
    subst this
    exact mem_toN.1 hq
  · intro h
    exact ⟨r, mem_toN.2 h, rfl⟩
theorem toL_nat {R s : Nat} {n : Int} (h : n ∈ toL R s) : ∃ r : Nat, n = r ∧ r < R ∧ s.testBit r = true := by
  unfold toL at h
  obtain ⟨q, hq, rfl⟩ := List.mem_map.1 h
  exact ⟨q, rfl, mem_toN.1 hq⟩
theorem toL_len (R s : Nat) : (toL R s).length ≤ R := by
  unfold toL
  rw [List.length_map]
  exact toN_len R s


theorem foldB_bit (r : Nat) : ∀ (l : List Int) (s : Nat), (∀ n ∈ l, 0 ≤ n) → (l.foldl (fun s n => withB s n.toNat) s).testBit r = (s.testBit r || decide ((r : Int) ∈ l))
  | [], s, _ => by simp
  | n :: l, s, h => by
    have h0 := h n List.mem_cons_self
    rw [List.foldl_cons, foldB_bit r l _ (fun m hm => h m (List.mem_cons_of_mem _ hm)), withB_bit, Bool.or_assoc]
    congr 1
    rw [← Bool.decide_or]
    apply decide_eq_decide.2
    rw [List.mem_cons]
    constructor
    · rintro (e | e)
      · left
        omega
      · exact .inr e
    · rintro (e | e)
      · left
        omega
      · exact .inr e
theorem foldB_lt {R : Nat} : ∀ (l : List Int) (s : Nat), (∀ n ∈ l, 0 ≤ n ∧ n < R) → s < 2 ^ R → l.foldl (fun s n => withB s n.toNat) s < 2 ^ R
  | [], s, _, hs => hs
  | n :: l, s, h, hs => by
    have h0 := h n List.mem_cons_self
    exact foldB_lt l _ (fun m hm => h m (List.mem_cons_of_mem _ hm)) (withB_lt (by omega) hs)
theorem foldB_mono : ∀ (l : List Int) (s t : Nat), Sub s t → Sub (l.foldl (fun s n => withB s n.toNat) s) (l.foldl (fun s n => withB s n.toNat) t)
  | [], s, t, h => h
  | n :: l, s, t, h => by
    refine foldB_mono l _ _ fun r hr => ?_
    rw [withB_bit, Bool.or_eq_true] at hr ⊢
    rcases hr with hr | hr
    · exact .inl (h r hr)
    · exact .inr hr
def thrN (x : SIns) (s : Nat) : Nat := (uses x.f0 x.f2 x.f3 x.f5).foldl (fun s n => withB s n.toNat) (if 0 ≤ defOf x.f0 x.f1 then withoutB s (defOf x.f0 x.f1).toNat else s)
theorem thrN_mono (x : SIns) (s t : Nat) (h : Sub s t) : Sub (thrN x s) (thrN x t) := by
  unfold thrN
  apply foldB_mono
  split
  · intro r hr
    unfold withoutB at hr ⊢
    rw [Nat.testBit_and, Bool.and_eq_true] at hr ⊢
    exact ⟨h r hr.1, hr.2⟩
  · exact h
structure RegsOk (R : Nat) (x : SIns) : Prop where
  le : R ≤ 64
  use : ∀ n ∈ uses x.f0 x.f2 x.f3 x.f5, 0 ≤ n ∧ n < R
  def_ : defOf x.f0 x.f1 < R ∧ (0 ≤ defOf x.f0 x.f1 ∨ defOf x.f0 x.f1 = -1)
theorem thrN_lt {R : Nat} {x : SIns} (O : RegsOk R x) {s : Nat} (hs : s < 2 ^ R) : thrN x s < 2 ^ R := by
  unfold thrN
  apply foldB_lt _ _ O.use
  split
  · exact withoutB_lt hs
  · exact hs
theorem lt64 {R s : Nat} (hR : R ≤ 64) (hs : s < 2 ^ R) : s < 2 ^ 64 := Nat.lt_of_lt_of_le hs (Nat.pow_le_pow_right (by omega) hR)
theorem thrN_bit {R : Nat} {x : SIns} (O : RegsOk R x) {s : Nat} (hs : s < 2 ^ R) (r : Nat) : (thrN x s).testBit r = ((s.testBit r && decide ((r : Int) ≠ defOf x.f0 x.f1)) || decide ((r : Int) ∈ uses x.f0 x.f2 x.f3 x.f5)) := by
  have hd := O.def_
  have hR := O.le
  unfold thrN
  rw [foldB_bit r _ _ (fun n hn => (O.use n hn).1)]
  congr 1
  split
  · next h =>
    rw [withoutB_bit (by omega) (lt64 hR hs)]
    congr 1
    apply decide_eq_decide.2
    omega
  · next h =>
    rw [decide_eq_true (by omega), Bool.and_true]
def orN (inn : List Nat) (l : List Int) : Nat := l.foldl (fun s k => s ||| at_ inn k.toNat) 0
theorem foldO_mono {x y : List Nat} (h : LE x y) : ∀ (l : List Int) (s t : Nat), Sub s t → Sub (l.foldl (fun s k => s ||| at_ x k.toNat) s) (l.foldl (fun s k => s ||| at_ y k.toNat) t)
  | [], s, t, hs => hs
  | k :: l, s, t, hs => by
    refine foldO_mono h l _ _ fun r hr => ?_
    rw [Nat.testBit_or, Bool.or_eq_true] at hr ⊢
    rcases hr with hr | hr
    · exact .inl (hs r hr)
    · exact .inr (h _ r hr)
theorem foldO_lt {R : Nat} {x : List Nat} (h : ∀ b, at_ x b < 2 ^ R) : ∀ (l : List Int) (s : Nat), s < 2 ^ R → l.foldl (fun s k => s ||| at_ x k.toNat) s < 2 ^ R
  | [], s, hs => hs
  | k :: l, s, hs => foldO_lt h l _ (Nat.or_lt_two_pow hs (h _))
def aheadN (bs : List (List SIns)) (inn : List Nat) (b i : Nat) : Nat := ((bs.getD b []).drop i).foldr thrN (orN inn (succs bs (b : Int)))
theorem foldr_mono : ∀ (l : List SIns) (s t : Nat), Sub s t → Sub (l.foldr thrN s) (l.foldr thrN t)
  | [], s, t, h => h
  | x :: l, s, t, h => thrN_mono x _ _ (foldr_mono l s t h)
theorem foldr_lt {R : Nat} : ∀ (l : List SIns) (s : Nat), (∀ x ∈ l, RegsOk R x) → s < 2 ^ R → l.foldr thrN s < 2 ^ R
  | [], s, _, h => h
  | x :: l, s, hO, h => thrN_lt (hO x List.mem_cons_self) (foldr_lt l s (fun y hy => hO y (List.mem_cons_of_mem _ hy)) h)
theorem aheadN_eqs (bs : List (List SIns)) (R : Nat) (hO : ∀ b ∈ bs, ∀ x ∈ b, RegsOk R x) : Eqs bs.length R (fun x b => aheadN bs x b 0) := by
  refine ⟨fun x y h b _ => foldr_mono _ _ _ (foldO_mono h _ _ _ (fun _ h => h)), fun x h b hb => ?_⟩
  unfold aheadN
  refine foldr_lt _ _ (fun z hz => ?_) (foldO_lt h _ _ (Nat.pos_of_ne_zero (by simp)))
  have hz := List.mem_of_mem_drop hz
  rw [List.getD_eq_getElem?_getD, List.getElem?_eq_getElem hb] at hz
  exact hO _ (List.getElem_mem hb) z hz


theorem refhas_ev (l : List Int) (x : Int) (hl : l.length ≤ 4611686018427387904) : Ev (fun k => cubbyref11_has.f k l x) (decide (x ∈ l)) := by
  show Ev (fun k => cubbyref11_has.l0 k l x ((0 : Nat) : Int)) _
  refine seek (fun k i => cubbyref11_has.l0 k l x (i : Int)) l.length (fun i => rd l (i : Int) = x) true _ ?_ ?_ ?_ ?_
  · intro i hi hb
    exact Ev.step (f := fun _ => some true) (fun k => by simp only [cubbyref11_has.l0]; rw [if_pos (by omega), if_pos (by omega), if_pos hb]) (Ev.now _)
  · intro i hi hb r' hE
    exact Ev.step (fun k => by simp only [cubbyref11_has.l0]; rw [if_pos (by omega), if_pos (by omega), if_neg hb, wrap_nat (by omega)]) hE
  · rintro ⟨i, hi, hb⟩
    rw [rd_get hi] at hb
    exact decide_eq_true (hb ▸ List.getElem_mem hi)
  · intro h
    rw [decide_eq_false (fun hx => by
      obtain ⟨i, hi, e⟩ := List.mem_iff_getElem.1 hx
      exact h i hi ((rd_get hi).trans e))]
    exact Ev.step (f := fun _ => some false) (fun k => by simp only [cubbyref11_has.l0]; rw [if_neg (by omega)]) (Ev.now _)
def unionL (R : Nat) (a b : List Int) : List Int := ((List.range R).filter (fun r : Nat => decide ((r : Int) ∈ a) || decide ((r : Int) ∈ b))).map (fun n : Nat => (n : Int))
theorem refunion_ev (a b : List Int) (R : Nat) (hR : R ≤ 1000) (ha : a.length ≤ 4611686018427387904) (hb : b.length ≤ 4611686018427387904) : Ev (fun k => cubbyref11_union.f k a b (R : Int)) (unionL R a b) := by
  have h : ∀ (d r : Nat) (out : List Int), r + d = R → out.length ≤ r → Ev (fun k => cubbyref11_union.l0 k a b (R : Int) out (r : Int)) (out ++ ((List.range' r d).filter (fun r : Nat => decide ((r : Int) ∈ a) || decide ((r : Int) ∈ b))).map (fun n : Nat => (n : Int))) := by
    intro d
    induction d with
    | zero =>
      intro r out hr ho
      rw [List.range'_zero, List.filter_nil, List.map_nil, List.append_nil]
      exact Ev.step (f := fun _ => some out) (fun k => by simp only [cubbyref11_union.l0]; rw [if_neg (by omega)]) (Ev.now _)
    | succ d ih =>
      intro r out hr ho
      rw [List.range'_succ]
      refine Ev.step (fun k => by simp only [cubbyref11_union.l0]; rw [if_pos (by omega)]) (Ev.bind (refhas_ev a (r : Int) ha) ?_)
      by_cases c : (r : Int) ∈ a
      · rw [List.filter_cons_of_pos (by simp [c]), List.map_cons]
        have := ih (r + 1) (out ++ [(r : Int)]) (by omega) (by simp; omega)
        rw [List.append_assoc, List.singleton_append] at this
        exact Ev.congr (fun k => by rw [decide_eq_true c, if_pos rfl, if_pos (by omega), wrap_nat (by omega)]) this
      · refine Ev.congr (fun k => by rw [decide_eq_false c, if_neg Bool.false_ne_true]) (Ev.bind (refhas_ev b (r : Int) hb) ?_)
        by_cases c1 : (r : Int) ∈ b
        · rw [List.filter_cons_of_pos (by simp [c1]), List.map_cons]
          have := ih (r + 1) (out ++ [(r : Int)]) (by omega) (by simp; omega)
          rw [List.append_assoc, List.singleton_append] at this
          exact Ev.congr (fun k => by rw [decide_eq_true c1, if_pos rfl, if_pos (by omega), wrap_nat (by omega)]) this
        · rw [List.filter_cons_of_neg (by simp [c, c1])]
          exact Ev.congr (fun k => by rw [decide_eq_false c1, if_neg Bool.false_ne_true, wrap_nat (by omega)]) (ih (r + 1) out (by omega) (by omega))
  have := h R 0 [] (by omega) (by simp)
  rw [List.nil_append, ← List.range_eq_range'] at this
  exact this
theorem unionL_toL {R s t : Nat} : unionL R (toL R s) (toL R t) = toL R (s ||| t) := by
  unfold unionL
  show _ = (toN R (s ||| t)).map _
  unfold toN
  congr 1
  apply List.filter_congr
  intro r hr
  have hr := List.mem_range.1 hr
  rw [Nat.testBit_or, Bool.eq_iff_iff, Bool.or_eq_true, Bool.or_eq_true, decide_eq_true_iff, decide_eq_true_iff, mem_toL, mem_toL]
  simp [hr]
theorem refthrough_ev {R : Nat} {x : SIns} (O : RegsOk R x) (hx : x.f5.length ≤ 17592186043904) {s : Nat} (hs : s < 2 ^ R) : Ev (fun k => cubbyref11_through.f k x.f0 x.f1 x.f2 x.f3 x.f4 x.f5 (toL R s) (R : Int)) (toL R (thrN x s)) := by
  have hR := O.le
  have hlen := toL_len R s
  have h : ∀ (d j : Nat) (out : List Int), j + d = (toL R s).length → out.length ≤ j → Ev (fun k => cubbyref11_through.l0 k (toL R s) (R : Int) out (j : Int) x.f0 x.f1 x.f2 x.f3 x.f4 x.f5) (unionL R (out ++ ((toL R s).drop j).filter (fun n => decide (n ≠ defOf x.f0 x.f1))) (uses x.f0 x.f2 x.f3 x.f5)) := by
    intro d
    induction d with
    | zero =>
      intro j out hj ho
      rw [List.drop_eq_nil_of_le (by omega), List.filter_nil, List.append_nil]
      refine Ev.step (fun k => by simp only [cubbyref11_through.l0]; rw [if_neg (by omega)]) (Ev.bind (refuses_ev x.f0 x.f1 x.f2 x.f3 x.f4 x.f5 (by omega)) ?_)
      refine Ev.bind (refunion_ev out _ R (by omega) (by omega) (uses_short (by omega))) (Ev.now _)
    | succ d ih =>
      intro j out hj ho
      have hlt : j < (toL R s).length := by omega
      rw [drop_cons hlt]
      by_cases c : (toL R s)[j] = defOf x.f0 x.f1
      · rw [List.filter_cons_of_neg (by simp [c])]
        exact Ev.step (fun k => by simp only [cubbyref11_through.l0]; rw [if_pos (by omega), if_pos (by omega), refdef_eq, Option.bind_some, rd_get hlt, if_pos c, wrap_nat (by omega)]) (ih (j + 1) out (by omega) (by omega))
      · rw [List.filter_cons_of_pos (by simp [c])]
        have := ih (j + 1) (out ++ [(toL R s)[j]]) (by omega) (by simp; omega)
        rw [List.append_assoc, List.singleton_append] at this
        exact Ev.step (fun k => by simp only [cubbyref11_through.l0]; rw [if_pos (by omega), if_pos (by omega), refdef_eq, Option.bind_some, rd_get hlt, if_neg c, if_pos (by omega), wrap_nat (by omega)]) this
  have := h (toL R s).length 0 [] (by omega) (by simp)
  rw [List.nil_append, List.drop_zero] at this
  have e : unionL R ((toL R s).filter (fun n => decide (n ≠ defOf x.f0 x.f1))) (uses x.f0 x.f2 x.f3 x.f5) = toL R (thrN x s) := by
    unfold unionL
    show _ = (toN R (thrN x s)).map _
    unfold toN
    congr 1
    apply List.filter_congr
    intro r hr
    have hr := List.mem_range.1 hr
    rw [thrN_bit O hs, Bool.eq_iff_iff, Bool.or_eq_true, Bool.or_eq_true, Bool.and_eq_true, decide_eq_true_iff, decide_eq_true_iff, decide_eq_true_iff, List.mem_filter, mem_toL, decide_eq_true_iff]
    simp [hr]
  rw [e] at this
  exact this

theorem toL_zero (R : Nat) : toL R 0 = [] := by
  unfold toL
  rw [toN_zero]
  rfl
theorem rdL_map {R : Nat} {inn : List Nat} {b : Int} (h0 : 0 ≤ b) (h : b < inn.length) : rd_LInt (inn.map (toL R)) b = toL R (at_ inn b.toNat) := by
  show (inn.map (toL R)).getD b.toNat [] = _
  unfold at_
  rw [List.getD_eq_getElem?_getD, List.getD_eq_getElem?_getD, List.getElem?_map, List.getElem?_eq_getElem (by omega : b.toNat < inn.length)]
  rfl
structure BlocksOk (R : Nat) (bs : List (List SIns)) : Prop where
  le : R ≤ 64
  len : bs.length ≤ 1000
  row : ∀ b ∈ bs, b.length ≤ 1000
  regs : ∀ b ∈ bs, ∀ x ∈ b, RegsOk R x
  args : ∀ b ∈ bs, ∀ x ∈ b, x.f5.length ≤ 17592186043904
theorem BlocksOk.small {R : Nat} {bs : List (List SIns)} (h : BlocksOk R bs) : Small bs := ⟨by have := h.len; omega, fun b hb => by have := h.row b hb; omega⟩
theorem getD_get {bs : List (List SIns)} {b : Nat} (h : b < bs.length) : bs.getD b [] = bs[b] := by
  rw [List.getD_eq_getElem?_getD, List.getElem?_eq_getElem h]
  rfl
theorem rd_row {bs : List (List SIns)} {b : Nat} (h : b < bs.length) : rd_LIns bs (b : Int) = bs.getD b [] := rfl
theorem rd_ins {l : List SIns} {j : Nat} (h : j < l.length) : rd_TIns l (j : Int) = l[j] := by
  show l.getD j zIns = _
  rw [List.getD_eq_getElem?_getD, List.getElem?_eq_getElem h]
  rfl
theorem row_fold {row : List SIns} {i m : Nat} (hi : i ≤ m) (hm : m < row.length) (s : Nat) : ((row.take (m + 1)).drop i).foldr thrN s = ((row.take m).drop i).foldr thrN (thrN row[m] s) := by
  rw [List.take_succ_eq_append_getElem hm, List.drop_append_of_le_length (by rw [List.length_take]; omega), List.foldr_append]
  rfl
section
variable (pn : ByteArray) (pp : Int) {R : Nat} {bs : List (List SIns)} (O : BlocksOk R bs) {inn : List Nat} (hlen : inn.length = bs.length)
include O hlen
theorem refbehind_ev (b : Int) : Ev (fun k => cubbyref11_behind.f k pn pp (R : Int) bs (inn.map (toL R)) b) (toL R (orN inn (succs bs b))) := by
  have hle := O.le
  refine Ev.bind (refsuccs_ev bs b O.small) ?_
  have hm := succs_mem bs b
  have hl := succs_len bs b
  generalize succs bs b = l at *
  have h : ∀ (d j s : Nat), j + d = l.length → Ev (fun k => cubbyref11_behind.l0 k (inn.map (toL R)) (toL R s) l (j : Int) pn pp (R : Int) bs) (toL R ((l.drop j).foldl (fun s k => s ||| at_ inn k.toNat) s)) := by
    intro d
    induction d with
    | zero =>
      intro j s hj
      rw [List.drop_eq_nil_of_le (by omega)]
      exact Ev.step (f := fun _ => some (toL R s)) (fun k => by simp only [cubbyref11_behind.l0]; rw [if_neg (by omega)]) (Ev.now _)
    | succ d ih =>
      intro j s hj
      have hjl : j < l.length := by omega
      have h1 := hm _ (List.getElem_mem hjl)
      rw [drop_cons hjl, List.foldl_cons]
      have hu := refunion_ev (toL R s) (toL R (at_ inn (l[j]).toNat)) R (by omega) (by have := toL_len R s; omega) (by have := toL_len R (at_ inn (l[j]).toNat); omega)
      rw [unionL_toL] at hu
      refine Ev.step (fun k => by simp only [cubbyref11_behind.l0]; rw [if_pos (by omega), if_pos (by omega), rd_get hjl, if_pos (by omega), if_pos (by rw [List.length_map]; omega), rdL_map (by omega) (by omega)]) (Ev.bind hu ?_)
      exact Ev.congr (fun k => by rw [wrap_nat (by omega)]) (ih (j + 1) _ (by omega))
  have := h l.length 0 0 (by omega)
  rw [toL_zero, List.drop_zero] at this
  exact this
end
theorem or_lt {R : Nat} (bs : List (List SIns)) {inn : List Nat} (hlt : ∀ b, at_ inn b < 2 ^ R) (b : Int) : orN inn (succs bs b) < 2 ^ R := foldO_lt hlt _ _ (Nat.pos_of_ne_zero (by simp))
section
variable (pn : ByteArray) (pp : Int) {R : Nat} {bs : List (List SIns)} (O : BlocksOk R bs) {inn : List Nat} (hlen : inn.length = bs.length) (hlt : ∀ b, at_ inn b < 2 ^ R)
include O hlen hlt
theorem refahead_ev {b i : Nat} (hb : b < bs.length) (hi : i ≤ (bs.getD b []).length) : Ev (fun k => cubbyref11_ahead.f k pn pp (R : Int) bs (inn.map (toL R)) (b : Int) (i : Int)) (toL R (aheadN bs inn b i)) := by
  have hbl := O.len
  refine Ev.bind (refbehind_ev pn pp O hlen (b : Int)) ?_
  have hs0 := or_lt bs hlt (b : Int)
  unfold aheadN
  generalize orN inn (succs bs (b : Int)) = s0 at *
  have hrow := getD_get hb
  have hr := O.row _ (List.getElem_mem hb)
  have hregs := O.regs _ (List.getElem_mem hb)
  have hargs := O.args _ (List.getElem_mem hb)
  rw [← hrow] at hr hregs hargs
  generalize hg : bs.getD b [] = row at *
  have h : ∀ (d m s : Nat), i + d = m → m ≤ row.length → s < 2 ^ R → Ev (fun k => cubbyref11_ahead.l0 k (b : Int) (i : Int) (toL R s) ((m : Int) - 1) pn pp (R : Int) bs) (toL R (((row.take m).drop i).foldr thrN s)) := by
    intro d
    induction d with
    | zero =>
      intro m s hm hml hs
      rw [List.drop_eq_nil_of_le (by rw [List.length_take]; omega)]
      exact Ev.step (f := fun _ => some (toL R s)) (fun k => by simp only [cubbyref11_ahead.l0]; rw [if_neg (by omega)]) (Ev.now _)
    | succ d ih =>
      intro m s hm hml hs
      obtain ⟨m', rfl⟩ : ∃ m', m = m' + 1 := ⟨m - 1, by omega⟩
      have hm' : m' < row.length := by omega
      rw [row_fold (by omega) hm']
      have hx := hregs _ (List.getElem_mem hm')
      rw [show (((m' + 1 : Nat) : Int) - 1) = (m' : Int) by omega]
      refine Ev.step (fun k => by simp only [cubbyref11_ahead.l0]; rw [if_pos (by omega), if_pos (by omega), if_pos (by omega), if_pos (by omega), rd_row hb, hg, if_pos (by omega), rd_ins hm']) (Ev.bind (refthrough_ev hx (hargs _ (List.getElem_mem hm')) hs) ?_)
      exact Ev.congr (fun k => by rw [wrap_id (by omega) (by omega)]) (ih m' _ (by omega) (by omega) (thrN_lt hx hs))
  have := h (row.length - i) row.length s0 (by omega) (Nat.le_refl _) hs0
  rw [List.take_length] at this
  exact Ev.congr (fun k => by rw [if_pos (by omega), if_pos (by omega), rd_row hb, hg, wrap_id (by omega) (by omega)]) this
end
end Go.Proofs.YtpkimbkjjmbmcaaDoor.PlainLive
namespace Go.Proofs.YtpkimbkjjmbmcaaDoor.PlainOne
open Go Go.RowKit Go.Proofs.YtpkimbkjjmbmcaaDoorW.PrintWords Go.Proofs.YtpkimbkjjmbmcaaDoorW.PrintMore Go.Proofs.YtpkimbkjjmbmcaaDoor.Q Go.Proofs.YtpkimbkjjmbmcaaDoor.Plain Go.Proofs.YtpkimbkjjmbmcaaDoor.PlainIr Go.Proofs.YtpkimbkjjmbmcaaDoor.PlainName
set_option linter.unusedVariables false
set_option linter.unusedSimpArgs false

theorem lt3 {i : Nat} (h : i < 3) : i = 0 ∨ i = 1 ∨ i = 2 := by omega
section
variable (pn : ByteArray) (pp regs : Int) (bs : List (List SIns)) (op d a b : Int) (nm : ByteArray) (args : List Int)
theorem o5 (B : Bool) (hb : op = 11 ∨ (nm.toList = ([] : List UInt8) ∧ args.length = 0)) : Ev (fun k => ir_one.j5 k B op d a b nm args) (if B = true then 70 else e5 op args) := by
  refine Ev.step (f := fun _ => some _) (fun k => ?_) (Ev.now _)
  simp only [ir_one.j5]
  unfold e5
  repeat' split
  all_goals first | rfl | omega
theorem o3 (hb : op = 11 ∨ (nm.toList = ([] : List UInt8) ∧ args.length = 0)) : Ev (fun k => ir_one.l3 k (targets7 op d a b) ((targets7 op d a b).length : Int) 0 pn pp regs bs op d a b nm args) (e3 (bs.length : Int) op d a b nm args) := by
  have hl := targets_short op d a b
  unfold e3
  refine seek (fun k i => ir_one.l3 k (targets7 op d a b) ((targets7 op d a b).length : Int) (i : Int) pn pp regs bs op d a b nm args) (targets7 op d a b).length (fun i => oddReg (bs.length : Int) (rd (targets7 op d a b) (i : Int)) = true) 74 _ ?_ ?_ ?_ ?_
  · intro i hi hx
    rw [odd_iff] at hx
    refine Ev.step (f := fun _ => some 74) (fun k => ?_) (Ev.now _)
    simp only [ir_one.l3]
    rw [if_pos (by omega), if_pos (by omega), if_pos (by omega)]
    split
    · rfl
    · rw [if_pos (by omega)]
  · intro i hi hx r' hE
    rw [odd_iff] at hx
    refine Ev.step (fun k => ?_) hE
    simp only [ir_one.l3]
    rw [if_pos (by omega), if_pos (by omega), if_pos (by omega), if_neg (by omega), if_neg (by omega), wrap_nat (by omega)]
  · intro h
    rw [if_pos (any_odd.2 h)]
  · intro h
    rw [if_neg (fun x => by
      obtain ⟨i, hi, hx⟩ := any_odd.1 x
      exact h i hi hx)]
    unfold e4
    by_cases c : op = 11
    · refine Ev.step (fun k => by simp only [ir_one.l3]; rw [if_neg (by omega), if_pos c, name_eq, Option.bind_some]) ?_
      have := o5 op d a b nm args (!nameOk nm) hb
      cases hn : nameOk nm
      · rw [hn] at this
        rw [if_pos ⟨c, rfl⟩]
        exact this
      · rw [hn] at this
        rw [if_neg (by simp)]
        exact this
    · rw [if_neg (fun x => c x.1)]
      exact Ev.step (fun k => by simp only [ir_one.l3]; rw [if_neg (by omega), if_neg c]) (o5 op d a b nm args false hb)
theorem o2 (s : ByteArray) (S : Sh op s) (hb : op = 11 ∨ (nm.toList = ([] : List UInt8) ∧ args.length = 0)) : Ev (fun k => ir_one.l2 k s [d, a, b] (([d, a, b] : List Int).length : Int) 0 pn pp regs bs op d a b nm args) (e2 (bs.length : Int) op d a b nm args) := by
  have hs := S.size
  have hl : ([d, a, b] : List Int).length = 3 := rfl
  have h0 := S.n0
  have h1 := S.n1
  have h2 := S.n2
  unfold e2
  refine seek (fun k i => ir_one.l2 k s [d, a, b] (([d, a, b] : List Int).length : Int) (i : Int) pn pp regs bs op d a b nm args) 3 (fun i => bt s (i : Int) = 110 ∧ (rd [d, a, b] (i : Int) < 0 ∨ rd [d, a, b] (i : Int) ≥ 65536)) 81 _ ?_ ?_ ?_ ?_
  · rintro i hi ⟨hx, hy⟩
    refine Ev.step (f := fun _ => some 81) (fun k => ?_) (Ev.now _)
    simp only [ir_one.l2]
    rw [if_pos (by omega), if_pos (by omega), if_pos (by omega), if_pos (by omega), if_pos hx]
    split
    · rfl
    · rw [if_pos (by omega)]
  · intro i hi hx r' hE
    refine Ev.step (fun k => ?_) hE
    simp only [ir_one.l2]
    rw [if_pos (by omega), if_pos (by omega), if_pos (by omega), if_pos (by omega), wrap_nat (by omega)]
    repeat' split
    all_goals first
      | rfl
      | (exfalso; apply hx; constructor <;> first | assumption | omega)
  · rintro ⟨i, hi, hx, hy⟩
    rcases lt3 hi with rfl | rfl | rfl
    · exact absurd hx h0
    · exact if_pos ⟨h1.1 hx, hy⟩
    · exact absurd hx h2
  · intro h
    rw [if_neg (fun x => h 1 (by omega) ⟨h1.2 x.1, x.2⟩)]
    refine Ev.step (fun k => by simp only [ir_one.l2]; rw [if_neg (by omega), targets_eq, Option.bind_some]) (o3 pn pp regs bs op d a b nm args hb)
theorem o1 (s : ByteArray) (S : Sh op s) (hop : 1 ≤ op ∧ op ≤ 14) (hb : op = 11 ∨ (nm.toList = ([] : List UInt8) ∧ args.length = 0)) : Ev (fun k => ir_one.l1 k s [d, a, b] [d, a, b] (([d, a, b] : List Int).length : Int) 0 pn pp regs bs op d a b nm args) (e1 regs (bs.length : Int) op d a b nm args) := by
  have hs := S.size
  have hl : ([d, a, b] : List Int).length = 3 := rfl
  have h0 := S.b0
  have h1 := S.b1
  have h2 := S.b2
  have hargs : ¬ op = 11 → args = [] := fun h => by
    rcases hb with hb | hb
    · exact absurd hb h
    · exact List.length_eq_zero_iff.1 hb.2
  unfold e1
  have hC : ((hasD op ∧ oddReg regs d = true) ∨ (uses op a b args).any (oddReg regs) = true) ↔ ((∃ i : Nat, i < 3 ∧ bt s (i : Int) = 114 ∧ oddReg regs (rd [d, a, b] (i : Int)) = true) ∨ args.any (oddReg regs) = true) := by
    constructor
    · rintro (⟨x, y⟩ | x)
      · exact .inl ⟨0, by omega, h0.2 x, y⟩
      · by_cases c : op = 11
        · right
          unfold uses at x
          rwa [if_neg (by omega), if_neg (by omega), if_pos c] at x
        · left
          unfold uses at x
          split at x
          · simp at x
            exact ⟨1, by omega, h1.2 (by omega), x⟩
          · split at x
            · simp at x
              rcases x with x | x
              · exact ⟨1, by omega, h1.2 (by omega), x⟩
              · exact ⟨2, by omega, h2.2 (by omega), x⟩
            · exact absurd x (by simp)
    · rintro (⟨i, hi, hx, hy⟩ | x)
      · rcases lt3 hi with rfl | rfl | rfl
        · exact .inl ⟨h0.1 hx, hy⟩
        · right
          have := h1.1 hx
          have hy' : oddReg regs a = true := hy
          unfold uses
          split
          · simp [hy']
          · split
            · simp [hy']
            · omega
        · right
          have := h2.1 hx
          have hy' : oddReg regs b = true := hy
          unfold uses
          rw [if_neg (by omega), if_pos (by omega)]
          simp [hy']
      · by_cases c : op = 11
        · right
          unfold uses
          rw [if_neg (by omega), if_neg (by omega), if_pos c]
          exact x
        · rw [hargs c] at x
          exact absurd x (by simp)
  refine seek (fun k i => ir_one.l1 k s [d, a, b] [d, a, b] (([d, a, b] : List Int).length : Int) (i : Int) pn pp regs bs op d a b nm args) 3 (fun i => bt s (i : Int) = 114 ∧ oddReg regs (rd [d, a, b] (i : Int)) = true) 73 _ ?_ ?_ ?_ ?_
  · rintro i hi ⟨hx, hy⟩
    refine Ev.step (f := fun _ => some 73) (fun k => ?_) (Ev.now _)
    simp only [ir_one.l1]
    rw [if_pos (by omega), if_pos (by omega), if_pos (by omega), if_pos (by omega), if_pos hx]
    simp only [ir_one_1.f, Option.bind_some, hy, if_true]
  · intro i hi hx r' hE
    refine Ev.step (fun k => ?_) hE
    simp only [ir_one.l1]
    rw [if_pos (by omega), if_pos (by omega), if_pos (by omega), if_pos (by omega), wrap_nat (by omega)]
    by_cases c : bt s (i : Int) = 114
    · rw [if_pos c]
      simp only [ir_one_1.f, Option.bind_some]
      rw [if_neg (fun y => hx ⟨c, y⟩)]
    · rw [if_neg c]
  · rintro ⟨i, hi, hx⟩
    exact if_pos (hC.2 (.inl ⟨i, hi, hx⟩))
  · intro h
    by_cases c : args.any (oddReg regs) = true
    · rw [if_pos (hC.2 (.inr c))]
      exact Ev.step (f := fun _ => some 73) (fun k => by simp only [ir_one.l1]; rw [if_neg (by omega)]; simp only [slices_ContainsFunc_int_int.f, Option.bind_some]; rw [if_pos c]) (Ev.now _)
    · rw [if_neg (fun x => by
        rcases hC.1 x with ⟨i, hi, hy⟩ | y
        · exact h i hi hy
        · exact c y)]
      exact Ev.step (fun k => by simp only [ir_one.l1]; rw [if_neg (by omega)]; simp only [slices_ContainsFunc_int_int.f, Option.bind_some]; rw [if_neg c]) (o2 pn pp regs bs op d a b nm args s S hb)
theorem o0 (s : ByteArray) (S : Sh op s) (hop : 1 ≤ op ∧ op ≤ 14) (hb : op = 11 ∨ (nm.toList = ([] : List UInt8) ∧ args.length = 0)) : Ev (fun k => ir_one.l0 k s [d, a, b] [d, a, b] (([d, a, b] : List Int).length : Int) 0 pn pp regs bs op d a b nm args) (if bareP op d a b nm args then e1 regs (bs.length : Int) op d a b nm args else 72) := by
  have hs := S.size
  have hl : ([d, a, b] : List Int).length = 3 := rfl
  have h0 := S.f0
  have h1 := S.f1
  have h2 := S.f2
  refine seek (fun k i => ir_one.l0 k s [d, a, b] [d, a, b] (([d, a, b] : List Int).length : Int) (i : Int) pn pp regs bs op d a b nm args) 3 (fun i => bt s (i : Int) = 32 ∧ ¬ rd [d, a, b] (i : Int) = 0) 72 _ ?_ ?_ ?_ ?_
  · rintro i hi ⟨hx, hy⟩
    refine Ev.step (f := fun _ => some 72) (fun k => ?_) (Ev.now _)
    simp only [ir_one.l0]
    rw [if_pos (by omega), if_pos (by omega), if_pos (by omega), if_pos (by omega), if_pos hx, if_neg hy]
  · intro i hi hx r' hE
    refine Ev.step (fun k => ?_) hE
    simp only [ir_one.l0]
    rw [if_pos (by omega), if_pos (by omega), if_pos (by omega), if_pos (by omega), wrap_nat (by omega)]
    by_cases c : bt s (i : Int) = 32
    · rw [if_pos c, if_pos (Decidable.byContradiction fun y => hx ⟨c, y⟩)]
    · rw [if_neg c]
  · rintro ⟨i, hi, hx, hy⟩
    refine if_neg (fun hB => ?_)
    obtain ⟨_, f0, f1, f2⟩ := hB
    rcases lt3 hi with rfl | rfl | rfl
    · exact hy (f0 (h0.1 hx))
    · exact hy (f1 (h1.1 hx))
    · exact hy (f2 (h2.1 hx))
  · intro h
    rw [if_pos ⟨hb, fun x => Decidable.byContradiction fun y => h 0 (by omega) ⟨h0.2 x, y⟩, fun x => Decidable.byContradiction fun y => h 1 (by omega) ⟨h1.2 x, y⟩, fun x => Decidable.byContradiction fun y => h 2 (by omega) ⟨h2.2 x, y⟩⟩]
    exact Ev.step (fun k => by simp only [ir_one.l0]; rw [if_neg (by omega)]) (o1 pn pp regs bs op d a b nm args s S hop hb)
theorem one_ev (last : Bool) : Ev (fun k => ir_one.f k pn pp regs bs op d a b nm args last) (oneE regs (bs.length : Int) op d a b nm args last) := by
  unfold oneE
  by_cases hop : 1 ≤ op ∧ op ≤ 14
  · obtain ⟨s, hs, S⟩ := shape_some hop
    have hyes : Ev (fun k => ir_one.j0 k s true pn pp regs bs op d a b nm args) 72 := Ev.step (f := fun _ => some 72) (fun k => by simp only [ir_one.j0]; rw [if_pos trivial]) (Ev.now _)
    by_cases c2 : lastOp op = last
    · have hgo : (op = 11 ∨ (nm.toList = ([] : List UInt8) ∧ args.length = 0)) → Ev (fun k => ir_one.j0 k s false pn pp regs bs op d a b nm args) (if (1 ≤ op ∧ op ≤ 14) ∧ lastOp op = last ∧ bareP op d a b nm args then e1 regs (bs.length : Int) op d a b nm args else 72) := fun hb => by
        refine Ev.step (fun k => by simp only [ir_one.j0]; rw [if_neg Bool.false_ne_true, Option.bind_some]) ?_
        have := o0 pn pp regs bs op d a b nm args s S hop hb
        by_cases c3 : bareP op d a b nm args
        · rw [if_pos ⟨hop, c2, c3⟩]
          rw [if_pos c3] at this
          exact this
        · rw [if_neg (fun x => c3 x.2.2)]
          rw [if_neg c3] at this
          exact this
      by_cases c : op = 11
      · exact Ev.congr (fun k => by unfold ir_one.f; rw [hs, Option.bind_some, if_neg S.ne, last_eq, Option.bind_some, if_neg (by simp [c2]), if_pos c]) (hgo (.inl c))
      · by_cases c1 : nm.toList = ([] : List UInt8)
        · refine Ev.congr (fun k => by unfold ir_one.f; rw [hs, Option.bind_some, if_neg S.ne, last_eq, Option.bind_some, if_neg (by simp [c2]), if_neg c, if_pos c1]) ?_
          by_cases c4 : (args.length : Int) > 0
          · rw [decide_eq_true c4, if_neg (fun x => by have := x.2.2.1; omega)]
            exact hyes
          · rw [decide_eq_false c4]
            exact hgo (.inr ⟨c1, by omega⟩)
        · rw [if_neg (fun x => by
            rcases x.2.2.1 with y | y
            · exact c y
            · exact c1 y.1)]
          exact Ev.congr (fun k => by unfold ir_one.f; rw [hs, Option.bind_some, if_neg S.ne, last_eq, Option.bind_some, if_neg (by simp [c2]), if_neg c, if_neg c1]) hyes
    · rw [if_neg (fun x => c2 x.2.1)]
      exact Ev.congr (fun k => by unfold ir_one.f; rw [hs, Option.bind_some, if_neg S.ne, last_eq, Option.bind_some, if_pos (by simpa using c2)]) hyes
  · rw [if_neg (fun x => hop x.1)]
    refine Ev.congr (fun k => by unfold ir_one.f; rw [shape_none hop, Option.bind_some, if_pos nil_toList]) ?_
    exact Ev.step (f := fun _ => some 72) (fun k => by simp only [ir_one.j0]; rw [if_pos trivial]) (Ev.now _)
end
end Go.Proofs.YtpkimbkjjmbmcaaDoor.PlainOne
namespace Go.Proofs.YtpkimbkjjmbmcaaDoor.PlainHeavy
open Go Go.RowKit Go.Proofs.YtpkimbkjjmbmcaaDoorW.PrintWords Go.Proofs.YtpkimbkjjmbmcaaDoorW.PrintMore Go.Proofs.YtpkimbkjjmbmcaaDoor.Q Go.Proofs.YtpkimbkjjmbmcaaDoor.Plain
set_option linter.unusedVariables false
set_option linter.unusedSimpArgs false

theorem rdL_get {l : List (List SIns)} {j : Nat} (h : j < l.length) : rd_LIns l (j : Int) = l[j] := by
  show l.getD j [] = _
  rw [List.getD_eq_getElem?_getD, List.getElem?_eq_getElem h]
  rfl
theorem rdT_get {l : List SIns} {j : Nat} (h : j < l.length) : rd_TIns l (j : Int) = l[j] := by
  show l.getD j zIns = _
  rw [List.getD_eq_getElem?_getD, List.getElem?_eq_getElem h]
  rfl
structure FairB (x : List (List SIns)) : Prop where
  len : x.length ≤ 1000000000000000
  row : ∀ b ∈ x, b.length ≤ 1000000000000000
  ins : ∀ b ∈ x, ∀ y ∈ b, y.f5.length ≤ 17592186043904
end Go.Proofs.YtpkimbkjjmbmcaaDoor.PlainHeavy
namespace Go.Proofs.YtpkimbkjjmbmcaaDoor.PlainCheck
open Go Go.RowKit Go.Proofs.YtpkimbkjjmbmcaaDoorW.PrintWords Go.Proofs.YtpkimbkjjmbmcaaDoorW.PrintMore Go.Proofs.YtpkimbkjjmbmcaaDoor.Q Go.Proofs.YtpkimbkjjmbmcaaDoor.Plain Go.Proofs.YtpkimbkjjmbmcaaDoor.PlainName Go.Proofs.YtpkimbkjjmbmcaaDoor.PlainOne Go.Proofs.YtpkimbkjjmbmcaaDoor.PlainHeavy
set_option linter.unusedVariables false
set_option linter.unusedSimpArgs false

def insE (regs nb : Int) (x : SIns) (last : Bool) : Int := oneE regs nb x.f0 x.f1 x.f2 x.f3 x.f4 x.f5 last
def rowE (regs nb : Int) : List SIns → Int
  | [] => 0
  | x :: xs => if insE regs nb x xs.isEmpty = 0 then rowE regs nb xs else insE regs nb x xs.isEmpty
def allE (regs nb : Int) : List (List SIns) → Int
  | [] => 0
  | b :: bs => if rowE regs nb b = 0 then allE regs nb bs else rowE regs nb b
def total : List (List SIns) → Nat
  | [] => 0
  | b :: bs => b.length + total bs
def fits (left : Int) (l : List (List SIns)) : Bool := decide ((∀ b ∈ l, b.length ≠ 0) ∧ (total l : Int) ≤ left)
def shapeP (params regs : Int) (bs : List (List SIns)) : Prop := 0 ≤ params ∧ params ≤ 4 ∧ params ≤ regs ∧ regs ≤ 64 ∧ 1 ≤ bs.length ∧ bs.length ≤ 32 ∧ fits 200 bs = true
instance (params regs : Int) (bs : List (List SIns)) : Decidable (shapeP params regs bs) := by unfold shapeP; infer_instance
def checkE (nm : ByteArray) (params regs : Int) (bs : List (List SIns)) : Int := if nameOk nm = true then (if shapeP params regs bs then allE regs (bs.length : Int) bs else 71) else 70

theorem fits_nil {left : Int} (h : 0 ≤ left) : fits left [] = true := by
  unfold fits
  apply decide_eq_true
  exact ⟨by simp, by unfold total; omega⟩
theorem fits_cons (left : Int) (b : List SIns) (bs : List (List SIns)) : fits left (b :: bs) = (decide (b.length ≠ 0) && fits (left - b.length) bs) := by
  unfold fits
  rw [← Bool.decide_and]
  apply decide_eq_decide.2
  simp only [List.mem_cons, forall_eq_or_imp, total]
  constructor
  · rintro ⟨⟨h1, h2⟩, h3⟩
    exact ⟨h1, h2, by omega⟩
  · rintro ⟨h1, h2, h3⟩
    exact ⟨⟨h1, h2⟩, by omega⟩
theorem fits_neg {left : Int} {bs : List (List SIns)} (h : left < 0) : fits left bs = false := by
  unfold fits
  apply decide_eq_false
  rintro ⟨_, h2⟩
  omega
theorem last_eq' {b : List SIns} {j : Nat} (hj : j < b.length) (hl : b.length ≤ 4611686018427387904) : ((j : Int) == wrap64 ((b.length : Int) - 1)) = (b.drop (j + 1)).isEmpty := by
  rw [wrap_pred (by omega) hl]
  by_cases c : j + 1 = b.length
  · rw [List.drop_eq_nil_of_le (by omega)]
    simp
    omega
  · have : b.drop (j + 1) ≠ [] := fun h => by
      have := congrArg List.length h
      rw [List.length_drop] at this
      simp at this
      omega
    rw [List.isEmpty_eq_false_iff.2 this]
    simp
    omega


section
variable (pn : ByteArray) (pp rg : Int) (bs : List (List SIns)) (hF : FairB bs)
include hF
theorem refshape_loop : ∀ (d i : Nat), bs.length - i = d → i ≤ bs.length → ∀ s : Int, 0 ≤ s → s ≤ 1000 * i → Ev (fun k => cubbyref07_Shape.l0 k bs s (i : Int)) (fits (200 - s) (bs.drop i)) := by
  have hlen := hF.len
  intro d
  induction d with
  | zero =>
    intro i hd hi s h0 hs
    rw [List.drop_eq_nil_of_le (by omega)]
    refine Ev.step (f := fun _ => some _) (fun k => by simp only [cubbyref07_Shape.l0]; rw [if_neg (by omega)]) ?_
    have : fits (200 - s) [] = decide (s ≤ 200) := by
      unfold fits total
      apply decide_eq_decide.2
      constructor
      · rintro ⟨_, h⟩
        omega
      · intro h
        exact ⟨by simp, by omega⟩
    rw [this]
    exact Ev.now _
  | succ d ih =>
    intro i hd hi s h0 hs
    have hlt : i < bs.length := by omega
    have hr := hF.row _ (List.getElem_mem hlt)
    rw [drop_cons hlt, fits_cons]
    by_cases c : ((bs[i]).length : Int) = 0
    · rw [decide_eq_false (by omega), Bool.false_and]
      exact Ev.step (f := fun _ => some false) (fun k => by simp only [cubbyref07_Shape.l0]; rw [if_pos (by omega), if_pos (by omega), rdL_get hlt, if_pos c]) (Ev.now _)
    · by_cases c1 : ((bs[i]).length : Int) > 200
      · rw [fits_neg (by omega), Bool.and_false]
        exact Ev.step (f := fun _ => some false) (fun k => by simp only [cubbyref07_Shape.l0]; rw [if_pos (by omega), if_pos (by omega), rdL_get hlt, if_neg c, if_pos c1]) (Ev.now _)
      · rw [decide_eq_true (by omega), Bool.true_and]
        have := ih (i + 1) (by omega) (by omega) (s + (bs[i]).length) (by omega) (by omega)
        rw [show 200 - s - ((bs[i]).length : Int) = 200 - (s + (bs[i]).length) by omega]
        refine Ev.step (fun k => ?_) this
        simp only [cubbyref07_Shape.l0]
        rw [if_pos (by omega), if_pos (by omega), rdL_get hlt, if_neg c, if_neg c1, wrap_nat (by omega), wrap_id (by omega) (by omega)]
theorem refshape_ev : Ev (fun k => cubbyref07_Shape.f k pp rg bs) (decide (shapeP pp rg bs)) := by
  have hyes : ¬ shapeP pp rg bs → Ev (fun k => cubbyref07_Shape.j0 k bs true) (decide (shapeP pp rg bs)) := fun h => by
    rw [decide_eq_false h]
    exact Ev.step (f := fun _ => some false) (fun k => by simp only [cubbyref07_Shape.j0]; rw [if_pos trivial]) (Ev.now _)
  by_cases c0 : pp < 0
  · exact Ev.congr (fun k => by unfold cubbyref07_Shape.f; rw [if_pos c0]) (hyes (fun h => by have := h.1; omega))
  by_cases c1 : pp > 4
  · exact Ev.congr (fun k => by unfold cubbyref07_Shape.f; rw [if_neg c0, if_pos c1]) (hyes (fun h => by have := h.2.1; omega))
  by_cases c2 : rg < pp
  · exact Ev.congr (fun k => by unfold cubbyref07_Shape.f; rw [if_neg c0, if_neg c1, if_pos c2]) (hyes (fun h => by have := h.2.2.1; omega))
  by_cases c3 : rg > 64
  · exact Ev.congr (fun k => by unfold cubbyref07_Shape.f; rw [if_neg c0, if_neg c1, if_neg c2, if_pos c3]) (hyes (fun h => by have := h.2.2.2.1; omega))
  by_cases c4 : (bs.length : Int) < 1
  · exact Ev.congr (fun k => by unfold cubbyref07_Shape.f; rw [if_neg c0, if_neg c1, if_neg c2, if_neg c3, if_pos c4]) (hyes (fun h => by have := h.2.2.2.2.1; omega))
  refine Ev.congr (fun k => by unfold cubbyref07_Shape.f; rw [if_neg c0, if_neg c1, if_neg c2, if_neg c3, if_neg c4]) ?_
  by_cases c5 : (bs.length : Int) > 32
  · rw [decide_eq_true c5]
    exact hyes (fun h => by have := h.2.2.2.2.2.1; omega)
  · rw [decide_eq_false c5]
    have := refshape_loop bs hF bs.length 0 (by omega) (by omega) 0 (by omega) (by omega)
    have e : fits (200 - 0) (bs.drop 0) = decide (shapeP pp rg bs) := by
      rw [List.drop_zero]
      unfold shapeP
      cases hf : fits (200 - 0) bs
      · symm
        apply decide_eq_false
        rintro ⟨_, _, _, _, _, _, h⟩
        rw [show (200 : Int) - 0 = 200 by omega, h] at hf
        exact absurd hf (by simp)
      · symm
        apply decide_eq_true
        exact ⟨by omega, by omega, by omega, by omega, by omega, by omega, hf⟩
    rw [← e]
    refine Ev.step (fun k => by simp only [cubbyref07_Shape.j0]; rw [if_neg Bool.false_ne_true]; rfl) this
theorem refcheck_row (i : Nat) (hi : i < bs.length) (R : Int) (h : Ev (fun k => cubbyref07_Check.l0 k ((i + 1 : Nat) : Int) pn pp rg bs) R) : ∀ (d j : Nat), bs[i].length - j = d → j ≤ bs[i].length → Ev (fun k => cubbyref07_Check.l1 k (i : Int) (j : Int) pn pp rg bs) (if rowE rg (bs.length : Int) (bs[i].drop j) = 0 then R else rowE rg (bs.length : Int) (bs[i].drop j)) := by
  have hlen := hF.len
  have hr := hF.row _ (List.getElem_mem hi)
  have hg := rdL_get hi
  intro d
  induction d with
  | zero =>
    intro j hd hj
    rw [List.drop_eq_nil_of_le (by omega)]
    unfold rowE
    rw [if_pos rfl]
    exact Ev.step (fun k => by simp only [cubbyref07_Check.l1]; rw [if_pos (by omega), if_pos (by omega), hg, if_neg (by omega), wrap_nat (by omega)]) h
  | succ d ih =>
    intro j hd hj
    have hlt : j < bs[i].length := by omega
    have hx := hF.ins _ (List.getElem_mem hi) _ (List.getElem_mem hlt)
    rw [drop_cons hlt]
    unfold rowE
    have h1 := refone_ev bs[i][j].f0 bs[i][j].f1 bs[i][j].f2 bs[i][j].f3 bs[i][j].f4 bs[i][j].f5 (by omega) rg (bs.length : Int) (bs[i].drop (j + 1)).isEmpty
    refine Ev.step (fun k => by simp only [cubbyref07_Check.l1]; rw [if_pos (by omega), if_pos (by omega), hg, if_pos (by omega), if_pos (by omega), rdT_get hlt, last_eq' hlt (by omega)]) (Ev.bind h1 ?_)
    show Ev (fun n => if insE rg (bs.length : Int) bs[i][j] (bs[i].drop (j + 1)).isEmpty = 0 then _ else some (insE rg (bs.length : Int) bs[i][j] (bs[i].drop (j + 1)).isEmpty)) _
    by_cases c : insE rg (bs.length : Int) bs[i][j] (bs[i].drop (j + 1)).isEmpty = 0
    · rw [if_pos c]
      exact Ev.congr (fun k => by rw [if_pos c, wrap_nat (by omega)]) (ih (j + 1) (by omega) (by omega))
    · rw [if_neg c, if_neg c]
      exact Ev.congr (f := fun _ => some _) (fun k => by rw [if_neg c]) (Ev.now _)
theorem refcheck_all : ∀ (d i : Nat), bs.length - i = d → i ≤ bs.length → Ev (fun k => cubbyref07_Check.l0 k (i : Int) pn pp rg bs) (allE rg (bs.length : Int) (bs.drop i)) := by
  intro d
  induction d with
  | zero =>
    intro i hd hi
    rw [List.drop_eq_nil_of_le (by omega)]
    exact Ev.step (f := fun _ => some 0) (fun k => by simp only [cubbyref07_Check.l0]; rw [if_neg (by omega)]) (Ev.now _)
  | succ d ih =>
    intro i hd hi
    have hlt : i < bs.length := by omega
    rw [drop_cons hlt]
    unfold allE
    refine Ev.step (fun k => by simp only [cubbyref07_Check.l0]; rw [if_pos (by omega)]) ?_
    have := refcheck_row pn pp rg bs hF i hlt _ (ih (i + 1) (by omega) (by omega)) bs[i].length 0 (by omega) (by omega)
    rw [List.drop_zero] at this
    exact this
theorem refcheck_ev : Ev (fun k => cubbyref07_Check.f k pn pp rg bs) (checkE pn pp rg bs) := by
  unfold checkE
  refine Ev.bind (refname_ev pn) ?_
  cases nameOk pn
  · exact Ev.congr (f := fun _ => some 70) (fun k => by rw [if_neg Bool.false_ne_true]) (Ev.now _)
  · refine Ev.congr (fun k => by rw [if_pos rfl]) (Ev.bind (refshape_ev pp rg bs hF) ?_)
    rw [if_pos rfl]
    by_cases c : shapeP pp rg bs
    · rw [if_pos c, decide_eq_true c]
      have := refcheck_all pn pp rg bs hF bs.length 0 (by omega) (by omega)
      exact Ev.congr (fun k => by rw [if_pos rfl]; rfl) this
    · rw [if_neg c, decide_eq_false c]
      exact Ev.congr (f := fun _ => some 71) (fun k => by rw [if_neg Bool.false_ne_true]) (Ev.now _)


theorem check_row (i : Nat) (hi : i < bs.length) (R : Int) (h : Ev (fun k => ir_Check.l1 k bs (bs.length : Int) ((i + 1 : Nat) : Int) pn pp rg bs) R) : ∀ (d j : Nat), bs[i].length - j = d → j ≤ bs[i].length → Ev (fun k => ir_Check.l2 k bs[i] bs (bs.length : Int) (i : Int) bs[i] (bs[i].length : Int) (j : Int) pn pp rg bs) (if rowE rg (bs.length : Int) (bs[i].drop j) = 0 then R else rowE rg (bs.length : Int) (bs[i].drop j)) := by
  have hlen := hF.len
  have hr := hF.row _ (List.getElem_mem hi)
  intro d
  induction d with
  | zero =>
    intro j hd hj
    rw [List.drop_eq_nil_of_le (by omega)]
    unfold rowE
    rw [if_pos rfl]
    exact Ev.step (fun k => by simp only [ir_Check.l2]; rw [if_neg (by omega), wrap_nat (by omega)]) h
  | succ d ih =>
    intro j hd hj
    have hlt : j < bs[i].length := by omega
    have hx := hF.ins _ (List.getElem_mem hi) _ (List.getElem_mem hlt)
    rw [drop_cons hlt]
    unfold rowE
    have h1 := one_ev pn pp rg bs bs[i][j].f0 bs[i][j].f1 bs[i][j].f2 bs[i][j].f3 bs[i][j].f4 bs[i][j].f5 (bs[i].drop (j + 1)).isEmpty
    refine Ev.step (fun k => by simp only [ir_Check.l2]; rw [if_pos (by omega), if_pos (by omega), if_pos (by omega), rdT_get hlt, last_eq' hlt (by omega)]) (Ev.bind h1 ?_)
    show Ev (fun n => if insE rg (bs.length : Int) bs[i][j] (bs[i].drop (j + 1)).isEmpty = 0 then _ else some (insE rg (bs.length : Int) bs[i][j] (bs[i].drop (j + 1)).isEmpty)) _
    by_cases c : insE rg (bs.length : Int) bs[i][j] (bs[i].drop (j + 1)).isEmpty = 0
    · rw [if_pos c]
      exact Ev.congr (fun k => by rw [if_pos c, wrap_nat (by omega)]) (ih (j + 1) (by omega) (by omega))
    · rw [if_neg c, if_neg c]
      exact Ev.congr (f := fun _ => some _) (fun k => by rw [if_neg c]) (Ev.now _)
theorem check_all : ∀ (d i : Nat), bs.length - i = d → i ≤ bs.length → Ev (fun k => ir_Check.l1 k bs (bs.length : Int) (i : Int) pn pp rg bs) (allE rg (bs.length : Int) (bs.drop i)) := by
  intro d
  induction d with
  | zero =>
    intro i hd hi
    rw [List.drop_eq_nil_of_le (by omega)]
    exact Ev.step (f := fun _ => some 0) (fun k => by simp only [ir_Check.l1]; rw [if_neg (by omega)]) (Ev.now _)
  | succ d ih =>
    intro i hd hi
    have hlt : i < bs.length := by omega
    rw [drop_cons hlt]
    unfold allE
    refine Ev.step (fun k => by simp only [ir_Check.l1]; rw [if_pos (by omega), if_pos (by omega), if_pos (by omega), rdL_get hlt]) ?_
    have := check_row pn pp rg bs hF i hlt _ (ih (i + 1) (by omega) (by omega)) bs[i].length 0 (by omega) (by omega)
    rw [List.drop_zero] at this
    exact this
theorem check_fits : ∀ (d i : Nat), bs.length - i = d → i ≤ bs.length → ∀ left : Int, 0 ≤ left → left ≤ 200 → Ev (fun k => ir_Check.l0 k left bs (bs.length : Int) (i : Int) pn pp rg bs) (if fits left (bs.drop i) = true then allE rg (bs.length : Int) bs else 71) := by
  have hlen := hF.len
  intro d
  induction d with
  | zero =>
    intro i hd hi left h0 h1
    rw [List.drop_eq_nil_of_le (by omega), fits_nil h0, if_pos rfl]
    have := check_all pn pp rg bs hF bs.length 0 (by omega) (by omega)
    exact Ev.step (fun k => by simp only [ir_Check.l0]; rw [if_neg (by omega)]; rfl) this
  | succ d ih =>
    intro i hd hi left h0 h1
    have hlt : i < bs.length := by omega
    rw [drop_cons hlt, fits_cons]
    by_cases c : ((bs[i]).length : Int) = 0
    · rw [decide_eq_false (by omega), Bool.false_and, if_neg Bool.false_ne_true]
      exact Ev.step (f := fun _ => some 71) (fun k => by simp only [ir_Check.l0]; rw [if_pos (by omega), if_pos (by omega), if_pos (by omega), rdL_get hlt, if_pos c]) (Ev.now _)
    · by_cases c1 : ((bs[i]).length : Int) > left
      · rw [fits_neg (by omega), Bool.and_false, if_neg Bool.false_ne_true]
        exact Ev.step (f := fun _ => some 71) (fun k => by simp only [ir_Check.l0]; rw [if_pos (by omega), if_pos (by omega), if_pos (by omega), rdL_get hlt, if_neg c, if_pos c1]) (Ev.now _)
      · rw [decide_eq_true (by omega), Bool.true_and]
        refine Ev.step (fun k => ?_) (ih (i + 1) (by omega) (by omega) (left - (bs[i]).length) (by omega) (by omega))
        simp only [ir_Check.l0]
        rw [if_pos (by omega), if_pos (by omega), if_pos (by omega), rdL_get hlt, if_neg c, if_neg c1, wrap_nat (by omega), wrap_id (by omega) (by omega)]
theorem check_ev : Ev (fun k => ir_Check.f k pn pp rg bs) (checkE pn pp rg bs) := by
  unfold checkE
  cases hn : nameOk pn
  · exact Ev.congr (f := fun _ => some 70) (fun k => by unfold ir_Check.f; rw [name_eq, Option.bind_some, hn, if_neg Bool.false_ne_true]) (Ev.now _)
  · rw [if_pos rfl]
    refine Ev.congr (fun k => by unfold ir_Check.f; rw [name_eq, Option.bind_some, hn, if_pos rfl]) ?_
    have hyes : ¬ shapeP pp rg bs → Ev (fun k => ir_Check.j0 k true pn pp rg bs) (if shapeP pp rg bs then allE rg (bs.length : Int) bs else 71) := fun h => by
      rw [if_neg h]
      exact Ev.step (f := fun _ => some 71) (fun k => by simp only [ir_Check.j0]; rw [if_pos trivial]) (Ev.now _)
    by_cases c0 : pp < 0
    · exact Ev.congr (fun k => by rw [if_pos c0]) (hyes (fun h => by have := h.1; omega))
    by_cases c1 : pp > 4
    · exact Ev.congr (fun k => by rw [if_neg c0, if_pos c1]) (hyes (fun h => by have := h.2.1; omega))
    by_cases c2 : rg < pp
    · exact Ev.congr (fun k => by rw [if_neg c0, if_neg c1, if_pos c2]) (hyes (fun h => by have := h.2.2.1; omega))
    by_cases c3 : rg > 64
    · exact Ev.congr (fun k => by rw [if_neg c0, if_neg c1, if_neg c2, if_pos c3]) (hyes (fun h => by have := h.2.2.2.1; omega))
    by_cases c4 : (bs.length : Int) < 1
    · exact Ev.congr (fun k => by rw [if_neg c0, if_neg c1, if_neg c2, if_neg c3, if_pos c4]) (hyes (fun h => by have := h.2.2.2.2.1; omega))
    refine Ev.congr (fun k => by rw [if_neg c0, if_neg c1, if_neg c2, if_neg c3, if_neg c4]) ?_
    by_cases c5 : (bs.length : Int) > 32
    · rw [decide_eq_true c5]
      exact hyes (fun h => by have := h.2.2.2.2.2.1; omega)
    · rw [decide_eq_false c5]
      have := check_fits pn pp rg bs hF bs.length 0 (by omega) (by omega) 200 (by omega) (by omega)
      rw [List.drop_zero] at this
      refine Ev.step (f := fun k => ir_Check.l0 k 200 bs (bs.length : Int) ((0 : Nat) : Int) pn pp rg bs) (fun k => by simp only [ir_Check.j0]; rw [if_neg Bool.false_ne_true]; rfl) ?_
      by_cases hf : fits 200 bs = true
      · rw [if_pos hf] at this
        rw [if_pos ⟨by omega, by omega, by omega, by omega, by omega, by omega, hf⟩]
        exact this
      · rw [if_neg hf] at this
        rw [if_neg (fun h => hf h.2.2.2.2.2.2)]
        exact this
end
end Go.Proofs.YtpkimbkjjmbmcaaDoor.PlainCheck
namespace Go.Proofs.YtpkimbkjjmbmcaaDoor.PlainCheck
open Go Go.RowKit Go.Proofs.YtpkimbkjjmbmcaaDoorW.PrintWords Go.Proofs.YtpkimbkjjmbmcaaDoorW.PrintMore Go.Proofs.YtpkimbkjjmbmcaaDoor.Q Go.Proofs.YtpkimbkjjmbmcaaDoor.Plain Go.Proofs.YtpkimbkjjmbmcaaDoor.PlainIr Go.Proofs.YtpkimbkjjmbmcaaDoor.PlainName Go.Proofs.YtpkimbkjjmbmcaaDoor.PlainOne Go.Proofs.YtpkimbkjjmbmcaaDoor.PlainHeavy
set_option linter.unusedVariables false

theorem allE_zero {rg nb : Int} : ∀ {bs : List (List SIns)}, allE rg nb bs = 0 → ∀ b ∈ bs, rowE rg nb b = 0
  | [], _ => by simp
  | c :: bs, h => by
    unfold allE at h
    split at h
    · next h1 =>
      intro b hb
      rcases List.mem_cons.1 hb with rfl | hb
      · exact h1
      · exact allE_zero h b hb
    · next h1 => exact absurd h h1
theorem rowE_zero {rg nb : Int} : ∀ {b : List SIns}, rowE rg nb b = 0 → ∀ (j : Nat) (h : j < b.length), insE rg nb b[j] (b.drop (j + 1)).isEmpty = 0
  | [], _ => by
    intro j h
    exact absurd h (by simp)
  | x :: xs, h => by
    unfold rowE at h
    split at h
    · next h1 =>
      intro j hj
      cases j with
      | zero => exact h1
      | succ j => exact rowE_zero h j (by simpa using hj)
    · next h1 => exact absurd h h1
structure InsOk (rg nb : Int) (x : SIns) (last : Bool) : Prop where
  op : 1 ≤ x.f0 ∧ x.f0 ≤ 14
  last : lastOp x.f0 = last
  bare : bareP x.f0 x.f1 x.f2 x.f3 x.f4 x.f5
  def_ : hasD x.f0 → 0 ≤ x.f1 ∧ x.f1 < rg
  use : ∀ n ∈ uses x.f0 x.f2 x.f3 x.f5, 0 ≤ n ∧ n < rg
  num : x.f0 = 1 → 0 ≤ x.f2 ∧ x.f2 < 65536
  goal : ∀ n ∈ targets7 x.f0 x.f1 x.f2 x.f3, 0 ≤ n ∧ n < nb
  name : x.f0 = 11 → nameOk x.f4 = true ∧ x.f5.length ≤ 4
theorem not_any {m : Int} {l : List Int} (h : ¬ l.any (oddReg m) = true) : ∀ n ∈ l, 0 ≤ n ∧ n < m := by
  intro n hn
  have : ¬ oddReg m n = true := fun hx => h (List.any_eq_true.2 ⟨n, hn, hx⟩)
  rw [odd_iff] at this
  omega
theorem insE_zero {rg nb : Int} {x : SIns} {last : Bool} (h : insE rg nb x last = 0) : InsOk rg nb x last := by
  unfold insE oneE at h
  split at h
  · next h0 =>
    unfold e1 at h
    split at h
    · exact absurd h (by decide)
    · next h1 =>
      unfold e2 at h
      split at h
      · exact absurd h (by decide)
      · next h2 =>
        unfold e3 at h
        split at h
        · exact absurd h (by decide)
        · next h3 =>
          unfold e4 at h
          split at h
          · exact absurd h (by decide)
          · next h4 =>
            unfold e5 at h
            split at h
            · exact absurd h (by decide)
            · next h5 =>
              refine ⟨h0.1, h0.2.1, h0.2.2, ?_, not_any (fun y => h1 (.inr y)), ?_, not_any h3, ?_⟩
              · intro hd
                have : ¬ oddReg rg x.f1 = true := fun y => h1 (.inl ⟨hd, y⟩)
                rw [odd_iff] at this
                omega
              · intro h6
                omega
              · intro h6
                refine ⟨?_, by omega⟩
                cases hn : nameOk x.f4
                · exact absurd ⟨h6, hn⟩ h4
                · rfl
  · exact absurd h (by decide)
structure FuncOk (nm : ByteArray) (params regs : Int) (bs : List (List SIns)) : Prop where
  name : nameOk nm = true
  shape : shapeP params regs bs
  row : ∀ b ∈ bs, b.length ≠ 0
  tot : total bs ≤ 200
  ins : ∀ b ∈ bs, ∀ (j : Nat) (h : j < b.length), InsOk regs (bs.length : Int) b[j] (b.drop (j + 1)).isEmpty
theorem checkE_zero {nm : ByteArray} {params regs : Int} {bs : List (List SIns)} (h : checkE nm params regs bs = 0) : FuncOk nm params regs bs := by
  unfold checkE at h
  split at h
  · next h0 =>
    split at h
    · next h1 =>
      have hf := of_decide_eq_true h1.2.2.2.2.2.2
      exact ⟨h0, h1, hf.1, by have := hf.2; omega, fun b hb j hj => insE_zero (rowE_zero (allE_zero h b hb) j hj)⟩
    · exact absurd h (by decide)
  · exact absurd h (by decide)
end Go.Proofs.YtpkimbkjjmbmcaaDoor.PlainCheck
namespace Go.Proofs.YtpkimbkjjmbmcaaDoor.PlainLive
open Go Go.RowKit Go.Proofs.YtpkimbkjjmbmcaaDoorW.PrintWords Go.Proofs.YtpkimbkjjmbmcaaDoorW.PrintMore Go.Proofs.YtpkimbkjjmbmcaaDoor.Q Go.Proofs.YtpkimbkjjmbmcaaDoor.Plain Go.Proofs.YtpkimbkjjmbmcaaDoor.PlainIr Go.Proofs.YtpkimbkjjmbmcaaDoor.PlainBits Go.Proofs.YtpkimbkjjmbmcaaDoor.PlainFix Go.Proofs.YtpkimbkjjmbmcaaDoor.PlainSuccs Go.Proofs.YtpkimbkjjmbmcaaDoor.PlainOne Go.Proofs.YtpkimbkjjmbmcaaDoor.PlainHeavy Go.Proofs.YtpkimbkjjmbmcaaDoor.PlainCheck
set_option linter.unusedVariables false
set_option linter.unusedSimpArgs false

theorem with_eq {s : Nat} {n : Int} (h0 : 0 ≤ n) (h : n < 64) (hs : s < 2 ^ 64) : live_set_with.f (s : Int) n = some ((withB s n.toNat : Nat) : Int) := by
  unfold live_set_with.f
  rw [if_pos (wrap_nonneg n)]
  have := bits_with (s := s) (r := n.toNat) (by omega) hs
  rw [show ((n.toNat : Nat) : Int) = n by omega] at this
  rw [this]
theorem without_eq {s : Nat} {n : Int} (h0 : 0 ≤ n) (h : n < 64) (hs : s < 2 ^ 64) : live_set_without.f (s : Int) n = some ((withoutB s n.toNat : Nat) : Int) := by
  unfold live_set_without.f
  rw [if_pos (wrap_nonneg n)]
  have := bits_without (s := s) (r := n.toNat) (by omega) hs
  rw [show ((n.toNat : Nat) : Int) = n by omega] at this
  rw [this]
theorem each_ev {R : Nat} (hR : R ≤ 64) (l : List Int) (hl : l.length ≤ 4611686018427387904) (hm : ∀ n ∈ l, 0 ≤ n ∧ n < R) {s : Nat} (hs : s < 2 ^ R) (B : Bool) : Ev (fun k => live_set_each.f k (s : Int) l B) ((l.foldl (fun s n => withB s n.toNat) s : Nat) : Int) := by
  have h : ∀ (d j s : Nat), j + d = l.length → s < 2 ^ R → Ev (fun k => live_set_each.l0 k (s : Int) l (l.length : Int) (j : Int)) (((l.drop j).foldl (fun s n => withB s n.toNat) s : Nat) : Int) := by
    intro d
    induction d with
    | zero =>
      intro j s hj hs
      rw [List.drop_eq_nil_of_le (by omega)]
      exact Ev.step (f := fun _ => some (s : Int)) (fun k => by simp only [live_set_each.l0]; rw [if_neg (by omega)]) (Ev.now _)
    | succ d ih =>
      intro j s hj hs
      have hjl : j < l.length := by omega
      have h1 := hm _ (List.getElem_mem hjl)
      rw [drop_cons hjl, List.foldl_cons]
      refine Ev.step (fun k => ?_) (ih (j + 1) (withB s (l[j]).toNat) (by omega) (withB_lt (by omega) hs))
      simp only [live_set_each.l0]
      rw [if_pos (by omega), if_pos (by omega), if_pos (by omega), rd_get hjl, with_eq h1.1 (by omega) (lt64 hR hs), Option.bind_some, wrap_nat (by omega)]
  have := h l.length 0 s (by omega) hs
  rw [List.drop_zero] at this
  exact this
theorem through_ev {R : Nat} {x : SIns} (O : RegsOk R x) (hx : x.f5.length ≤ 17592186043904) {s : Nat} (hs : s < 2 ^ R) : Ev (fun k => live_through.f k x.f0 x.f1 x.f2 x.f3 x.f4 x.f5 (s : Int)) ((thrN x s : Nat) : Int) := by
  have hd := O.def_
  have hR := O.le
  unfold thrN
  by_cases c : 0 ≤ defOf x.f0 x.f1
  · rw [if_pos c]
    refine Ev.congr (fun k => by unfold live_through.f; rw [def_eq, Option.bind_some, if_pos c, without_eq c (by omega) (lt64 hR hs), Option.bind_some]) (Ev.bind (uses_ev x.f0 x.f1 x.f2 x.f3 x.f4 x.f5 (by omega)) ?_)
    exact Ev.bind (each_ev hR _ (uses_short (by omega)) O.use (withoutB_lt hs) false) (Ev.now _)
  · rw [if_neg c]
    refine Ev.congr (fun k => by unfold live_through.f; rw [def_eq, Option.bind_some, if_neg c]) (Ev.bind (uses_ev x.f0 x.f1 x.f2 x.f3 x.f4 x.f5 (by omega)) ?_)
    exact Ev.bind (each_ev hR _ (uses_short (by omega)) O.use hs false) (Ev.now _)
def toI (inn : List Nat) : List Int := inn.map (fun n : Nat => (n : Int))
theorem toI_len (inn : List Nat) : (toI inn).length = inn.length := by
  unfold toI
  rw [List.length_map]
theorem rd_toI {inn : List Nat} {b : Int} : rd (toI inn) b = ((at_ inn b.toNat : Nat) : Int) := by
  show (toI inn).getD b.toNat 0 = _
  unfold at_ toI
  rw [List.getD_eq_getElem?_getD, List.getD_eq_getElem?_getD, List.getElem?_map]
  cases inn[b.toNat]? <;> rfl
section
variable (pn : ByteArray) (pp : Int) {R : Nat} {bs : List (List SIns)} (O : BlocksOk R bs) {inn : List Nat} (hlen : inn.length = bs.length) (hlt : ∀ b, at_ inn b < 2 ^ R)
include O hlen hlt
theorem ahead_ev {b i : Nat} (hb : b < bs.length) (hi : i ≤ (bs.getD b []).length) : Ev (fun k => live_ahead.f k pn pp (R : Int) bs (toI inn) (b : Int) (i : Int)) ((aheadN bs inn b i : Nat) : Int) := by
  have hbl := O.len
  have hR := O.le
  have hrow := getD_get hb
  have hr := O.row _ (List.getElem_mem hb)
  have hregs := O.regs _ (List.getElem_mem hb)
  have hargs := O.args _ (List.getElem_mem hb)
  rw [← hrow] at hr hregs hargs
  have h1 : ∀ (d m s : Nat), i + d = m → m ≤ (bs.getD b []).length → s < 2 ^ R → Ev (fun k => live_ahead.l1 k (b : Int) (i : Int) (s : Int) ((m : Int) - 1) pn pp (R : Int) bs) (((((bs.getD b []).take m).drop i).foldr thrN s : Nat) : Int) := by
    generalize hg : bs.getD b [] = row at *
    intro d
    induction d with
    | zero =>
      intro m s hm hml hs
      rw [List.drop_eq_nil_of_le (by rw [List.length_take]; omega)]
      exact Ev.step (f := fun _ => some (s : Int)) (fun k => by simp only [live_ahead.l1]; rw [if_neg (by omega)]) (Ev.now _)
    | succ d ih =>
      intro m s hm hml hs
      obtain ⟨m', rfl⟩ : ∃ m', m = m' + 1 := ⟨m - 1, by omega⟩
      have hm' : m' < row.length := by omega
      rw [row_fold (by omega) hm']
      have hx := hregs _ (List.getElem_mem hm')
      rw [show (((m' + 1 : Nat) : Int) - 1) = (m' : Int) by omega]
      refine Ev.step (fun k => by simp only [live_ahead.l1]; rw [if_pos (by omega), if_pos (by omega), if_pos (by omega), if_pos (by omega), rd_row hb, hg, if_pos (by omega), rd_ins hm']) (Ev.bind (through_ev hx (hargs _ (List.getElem_mem hm')) hs) ?_)
      exact Ev.congr (fun k => by rw [wrap_id (by omega) (by omega)]) (ih m' _ (by omega) (by omega) (thrN_lt hx hs))
  have hm := succs_mem bs (b : Int)
  have hl := succs_len bs (b : Int)
  refine Ev.bind (succs_ev bs (b : Int) O.small) ?_
  unfold aheadN orN
  generalize succs bs (b : Int) = l at *
  have h : ∀ (d j s : Nat), j + d = l.length → s < 2 ^ R → Ev (fun k => live_ahead.l0 k (toI inn) (b : Int) (i : Int) (s : Int) l (l.length : Int) (j : Int) pn pp (R : Int) bs) ((((bs.getD b []).drop i).foldr thrN ((l.drop j).foldl (fun s k => s ||| at_ inn k.toNat) s) : Nat) : Int) := by
    intro d
    induction d with
    | zero =>
      intro j s hj hs
      rw [List.drop_eq_nil_of_le (by omega : l.length ≤ j)]
      have := h1 ((bs.getD b []).length - i) (bs.getD b []).length s (by omega) (Nat.le_refl _) hs
      rw [List.take_length] at this
      exact Ev.step (fun k => by simp only [live_ahead.l0]; rw [if_neg (by omega), if_pos (by omega), if_pos (by omega), rd_row hb, wrap_id (by omega) (by omega)]) this
    | succ d ih =>
      intro j s hj hs
      have hjl : j < l.length := by omega
      have h2 := hm _ (List.getElem_mem hjl)
      rw [drop_cons hjl, List.foldl_cons]
      have h3 := hlt (l[j]).toNat
      have h4 := lt64 hR h3
      have h5 := lt64 hR hs
      refine Ev.step (fun k => ?_) (ih (j + 1) _ (by omega) (Nat.or_lt_two_pow hs h3))
      simp only [live_ahead.l0]
      rw [if_pos (by omega), if_pos (by omega), if_pos (by omega), rd_get hjl, if_pos (by omega), if_pos (by rw [toI_len]; omega), rd_toI, u64_or_nat _ _ (by omega) (by omega), wrap_nat (by omega)]
  exact h l.length 0 0 (by omega) (Nat.pos_of_ne_zero (by simp))
end
theorem toI_set (y : List Nat) (b v : Nat) : (toI y).set b (v : Int) = toI (y.set b v) := by
  unfold toI
  rw [List.map_set]
theorem toI_zero (n : Nat) : List.replicate n (0 : Int) = toI (List.replicate n 0) := by
  unfold toI
  rw [List.map_replicate]
  rfl
structure Sol (R : Nat) (bs : List (List SIns)) (z : List Nat) : Prop where
  on : On bs.length R (fun x b => aheadN bs x b 0) z
  eq : ∀ b, b < bs.length → aheadN bs z b 0 = at_ z b
theorem Sol.one {R : Nat} {bs : List (List SIns)} {y z : List Nat} (hy : Sol R bs y) (hz : Sol R bs z) : y = z := on_eq hy.on hz.on hy.eq hz.eq
section
variable (pn : ByteArray) (pp : Int) {R : Nat} {bs : List (List SIns)} (O : BlocksOk R bs)
include O
theorem sets_ev : ∃ z, Sol R bs z ∧ Ev (fun k => live_sets.f k pn pp (R : Int) bs) (toI z) := by
  have hbl := O.len
  have E := aheadN_eqs bs R O.regs
  have main : ∀ (d : Nat) (y : List Nat), On bs.length R (fun x b => aheadN bs x b 0) y → bs.length * R + 1 ≤ card R y + d → ∃ z, Sol R bs z ∧ Ev (fun k => live_sets.l0 k (toI y) true pn pp (R : Int) bs) (toI z) := by
    intro d
    induction d with
    | zero =>
      intro y hy hc
      have h1 := card_le R y
      rw [hy.len] at h1
      omega
    | succ d ih =>
      intro y0 hy0 hc
      have row : ∀ (b : Nat), b ≤ bs.length → ∀ (y : List Nat) (again : Bool), On bs.length R (fun x b => aheadN bs x b 0) y → LE y0 y → (again = false → y = y0 ∧ ∀ c, b ≤ c → c < bs.length → aheadN bs y0 c 0 = at_ y0 c) → (again = true → card R y0 < card R y) → ∃ z, Sol R bs z ∧ Ev (fun k => live_sets.l1 k (toI y) again ((b : Int) - 1) pn pp (R : Int) bs) (toI z) := by
        intro b
        induction b with
        | zero =>
          intro _ y again hy hle hf ht
          cases again
          · obtain ⟨rfl, h2⟩ := hf rfl
            refine ⟨y, ⟨hy, fun c hc => h2 c (by omega) hc⟩, ?_⟩
            refine Ev.step (fun k => by simp only [live_sets.l1]; rw [if_neg (by omega)]) ?_
            exact Ev.step (f := fun _ => some (toI y)) (fun k => by simp only [live_sets.l0]; rw [if_neg Bool.false_ne_true]) (Ev.now _)
          · obtain ⟨z, hz, hE⟩ := ih y hy (by have := ht rfl; omega)
            exact ⟨z, hz, Ev.step (fun k => by simp only [live_sets.l1]; rw [if_neg (by omega)]) hE⟩
        | succ b ihb =>
          intro hb y again hy hle hf ht
          have ha : Ev (fun k => live_ahead.f k pn pp (R : Int) bs (toI y) (b : Int) 0) ((aheadN bs y b 0 : Nat) : Int) := ahead_ev pn pp O hy.len hy.lt (b := b) (i := 0) (by omega) (Nat.zero_le _)
          have hs := on_set E hy (b := b) (by omega)
          have hyl := hy.len
          have e0 : (((b + 1 : Nat) : Int) - 1) = (b : Int) := by omega
          rw [e0]
          have hcard := card_mono R (x := y) (y := y.set b (aheadN bs y b 0)) (by rw [List.length_set]) hs.2
          cases again
          · obtain ⟨rfl, h2⟩ := hf rfl
            by_cases c : aheadN bs y b 0 = at_ y b
            · have hset : y.set b (aheadN bs y b 0) = y := by
                refine list_ext (n := bs.length) (R := R) (by rw [List.length_set]; exact hyl) hyl fun i hi => ?_
                rw [at_set (by omega)]
                split
                · next h => rw [h]; exact c
                · rfl
              obtain ⟨z, hz, hE⟩ := ihb (by omega) y false hy hle (fun _ => ⟨rfl, fun i hi hi2 => by
                by_cases e : i = b
                · subst e
                  exact c
                · exact h2 i (by omega) hi2⟩) (fun h => absurd h (by simp))
              refine ⟨z, hz, Ev.step (fun k => by simp only [live_sets.l1]; rw [if_pos (by omega)]) (Ev.bind ha ?_)⟩
              refine Ev.congr (fun k => ?_) hE
              rw [if_neg Bool.false_ne_true, if_pos (by omega), if_pos (by rw [toI_len]; omega), rd_toI, Int.toNat_natCast, toI_set, hset, c, show ((at_ y b : Int) != (at_ y b : Int)) = false by simp, wrap_id (by omega) (by omega)]
            · have hlt : card R y < card R (y.set b (aheadN bs y b 0)) := by
                apply Nat.lt_of_le_of_ne hcard
                intro e
                have := card_eq R (x := y) (y := y.set b (aheadN bs y b 0)) (by rw [List.length_set]) hs.2 hy.lt hs.1.lt e
                have h3 : at_ y b = at_ (y.set b (aheadN bs y b 0)) b := congrArg (fun l => at_ l b) this
                rw [at_set (by omega), if_pos rfl] at h3
                exact c h3.symm
              obtain ⟨z, hz, hE⟩ := ihb (by omega) (y.set b (aheadN bs y b 0)) true hs.1 hs.2 (fun h => absurd h (by simp)) (fun _ => hlt)
              refine ⟨z, hz, Ev.step (fun k => by simp only [live_sets.l1]; rw [if_pos (by omega)]) (Ev.bind ha ?_)⟩
              refine Ev.congr (fun k => ?_) hE
              rw [if_neg Bool.false_ne_true, if_pos (by omega), if_pos (by rw [toI_len]; omega), rd_toI, Int.toNat_natCast, toI_set, show ((aheadN bs y b 0 : Int) != (at_ y b : Int)) = true by simp; omega, wrap_id (by omega) (by omega)]
          · obtain ⟨z, hz, hE⟩ := ihb (by omega) (y.set b (aheadN bs y b 0)) true hs.1 (hle.trans hs.2) (fun h => absurd h (by simp)) (fun _ => Nat.lt_of_lt_of_le (ht rfl) hcard)
            refine ⟨z, hz, Ev.step (fun k => by simp only [live_sets.l1]; rw [if_pos (by omega)]) (Ev.bind ha ?_)⟩
            refine Ev.congr (fun k => ?_) hE
            rw [if_pos trivial, if_pos (by omega), if_pos (by rw [toI_len]; omega), Int.toNat_natCast, toI_set, wrap_id (by omega) (by omega)]
      obtain ⟨z, hz, hE⟩ := row bs.length (Nat.le_refl _) y0 false hy0 (LE.refl _) (fun _ => ⟨rfl, fun c h1 h2 => by omega⟩) (fun h => absurd h (by simp))
      exact ⟨z, hz, Ev.step (fun k => by simp only [live_sets.l0]; rw [if_pos trivial, wrap_id (by omega) (by omega)]) hE⟩
  obtain ⟨z, hz, hE⟩ := main (bs.length * R + 1) _ on_zero (by omega)
  refine ⟨z, hz, Ev.congr (fun k => ?_) hE⟩
  unfold live_sets.f
  rw [if_pos (by omega), if_pos (by omega), Int.toNat_natCast, toI_zero]
end
end Go.Proofs.YtpkimbkjjmbmcaaDoor.PlainLive
namespace Go.Proofs.YtpkimbkjjmbmcaaDoor.PlainLive
open Go Go.RowKit Go.Proofs.YtpkimbkjjmbmcaaDoorW.PrintWords Go.Proofs.YtpkimbkjjmbmcaaDoorW.PrintMore Go.Proofs.YtpkimbkjjmbmcaaDoor.Q Go.Proofs.YtpkimbkjjmbmcaaDoor.Plain Go.Proofs.YtpkimbkjjmbmcaaDoor.PlainIr Go.Proofs.YtpkimbkjjmbmcaaDoor.PlainName Go.Proofs.YtpkimbkjjmbmcaaDoor.PlainBits Go.Proofs.YtpkimbkjjmbmcaaDoor.PlainFix Go.Proofs.YtpkimbkjjmbmcaaDoor.PlainSuccs Go.Proofs.YtpkimbkjjmbmcaaDoor.PlainOne Go.Proofs.YtpkimbkjjmbmcaaDoor.PlainHeavy Go.Proofs.YtpkimbkjjmbmcaaDoor.PlainCheck
set_option linter.unusedVariables false
set_option linter.unusedSimpArgs false

theorem map_toL_zero (R n : Nat) : List.replicate n ([] : List Int) = (List.replicate n 0).map (toL R) := by
  rw [List.map_replicate, toL_zero]
section
variable (pn : ByteArray) (pp : Int) {R : Nat} {bs : List (List SIns)} (O : BlocksOk R bs)
include O
theorem refin_ev : ∃ z, Sol R bs z ∧ Ev (fun k => cubbyref11_In.l0 k (List.replicate bs.length []) 0 pn pp (R : Int) bs) (z.map (toL R)) := by
  have hbl := O.len
  have hR := O.le
  have E := aheadN_eqs bs R O.regs
  have hnR : bs.length * R ≤ 64000 := Nat.le_trans (Nat.mul_le_mul hbl hR) (by omega)
  have main : ∀ (d : Nat) (y : List Nat) (r : Nat), On bs.length R (fun x b => aheadN bs x b 0) y → r ≤ card R y → bs.length * R + 1 ≤ card R y + d → ∃ z, Sol R bs z ∧ Ev (fun k => cubbyref11_In.l0 k (y.map (toL R)) (r : Int) pn pp (R : Int) bs) (z.map (toL R)) := by
    intro d
    induction d with
    | zero =>
      intro y r hy hr hc
      have h1 := card_le R y
      rw [hy.len] at h1
      omega
    | succ d ih =>
      intro y r hy hr hc
      have hyl := hy.len
      have hcl := card_le R y
      rw [hyl] at hcl
      have hall := on_all E hy
      have hal : ((List.range bs.length).map (fun b => aheadN bs y b 0)).length = bs.length := by simp
      have row : ∀ (e b : Nat) (same : Bool), b + e = bs.length → (same = true ↔ ∀ c, c < b → (toN R (aheadN bs y c 0)).length = (toN R (at_ y c)).length) → ∃ z, Sol R bs z ∧ Ev (fun k => cubbyref11_In.l1 k (y.map (toL R)) (r : Int) (((List.range b).map (fun b => aheadN bs y b 0)).map (toL R)) same (b : Int) pn pp (R : Int) bs) (z.map (toL R)) := by
        intro e
        induction e with
        | zero =>
          intro b same hb hs
          obtain rfl : b = bs.length := by omega
          cases same
          · have hlt : card R y < card R ((List.range bs.length).map (fun b => aheadN bs y b 0)) := by
              apply Nat.lt_of_le_of_ne (card_mono R (by rw [hal, hyl]) hall.2)
              intro e
              have := card_eq R (by rw [hal, hyl]) hall.2 hy.lt hall.1.lt e
              apply absurd (hs.2 ?_) (by simp)
              intro c hc
              have h3 : at_ y c = at_ ((List.range bs.length).map (fun b => aheadN bs y b 0)) c := congrArg (fun l => at_ l c) this
              rw [at_map, if_pos hc] at h3
              rw [h3]
            obtain ⟨z, hz, hE⟩ := ih _ (r + 1) hall.1 (by omega) (by omega)
            exact ⟨z, hz, Ev.step (fun k => by simp only [cubbyref11_In.l1]; rw [if_neg (by omega), if_neg Bool.false_ne_true, wrap_nat (by omega)]) hE⟩
          · have heq := hs.1 rfl
            have hA : ∀ c, c < bs.length → aheadN bs y c 0 = at_ y c := fun c hc => (toN_eq (hy.up c hc) (hy.lt c) (E.lt y hy.lt c hc) (heq c hc).symm).symm
            have hy2 : (List.range bs.length).map (fun b => aheadN bs y b 0) = y := by
              refine list_ext (n := bs.length) (R := R) hal hyl fun c hc => ?_
              rw [at_map, if_pos hc, hA c hc]
            rw [hy2]
            exact ⟨y, ⟨hy, hA⟩, Ev.step (f := fun _ => some (y.map (toL R))) (fun k => by simp only [cubbyref11_In.l1]; rw [if_neg (by omega), if_pos trivial]) (Ev.now _)⟩
        | succ e ihe =>
          intro b same hb hs
          have ha : Ev (fun k => cubbyref11_ahead.f k pn pp (R : Int) bs (y.map (toL R)) (b : Int) 0) (toL R (aheadN bs y b 0)) := refahead_ev pn pp O hyl hy.lt (b := b) (i := 0) (by omega) (Nat.zero_le _)
          have hnow : (((List.range (b + 1)).map (fun b => aheadN bs y b 0)).map (toL R)) = (((List.range b).map (fun b => aheadN bs y b 0)).map (toL R)) ++ [toL R (aheadN bs y b 0)] := by
            rw [List.range_succ, List.map_append, List.map_append]
            rfl
          have hl2 : (((List.range b).map (fun b => aheadN bs y b 0)).map (toL R)).length = b := by simp
          have hlen : ∀ s, ((toL R s).length : Int) = ((toN R s).length : Int) := fun s => by
            unfold toL
            rw [List.length_map]
          cases same
          · have hs2 : ¬ ∀ c, c < b → (toN R (aheadN bs y c 0)).length = (toN R (at_ y c)).length := fun h => absurd (hs.2 h) (by simp)
            obtain ⟨z, hz, hE⟩ := ihe (b + 1) false (by omega) ⟨fun h => absurd h (by simp), fun h => absurd (fun c hc => h c (by omega)) hs2⟩
            rw [hnow] at hE
            refine ⟨z, hz, Ev.step (fun k => by simp only [cubbyref11_In.l1]; rw [if_pos (by omega)]) (Ev.bind ha ?_)⟩
            exact Ev.congr (fun k => by rw [if_neg Bool.false_ne_true, if_pos (by rw [hl2]; omega), wrap_nat (by omega)]) hE
          · have hs1 := hs.1 rfl
            obtain ⟨z, hz, hE⟩ := ihe (b + 1) (((toN R (aheadN bs y b 0)).length : Int) == ((toN R (at_ y b)).length : Int)) (by omega) (by
              rw [beq_iff_eq]
              constructor
              · intro h c hc
                by_cases e : c = b
                · subst e
                  omega
                · exact hs1 c (by omega)
              · intro h
                have := h b (by omega)
                omega)
            rw [hnow] at hE
            refine ⟨z, hz, Ev.step (fun k => by simp only [cubbyref11_In.l1]; rw [if_pos (by omega)]) (Ev.bind ha ?_)⟩
            exact Ev.congr (fun k => by rw [if_pos trivial, if_pos (by omega), if_pos (by rw [List.length_map]; omega), if_pos (by rw [hl2]; omega), rdL_map (by omega) (by omega), hlen, hlen, Int.toNat_natCast, wrap_nat (by omega)]) hE
      obtain ⟨z, hz, hE⟩ := row bs.length 0 true (by omega) ⟨fun _ c hc => by omega, fun _ => rfl⟩
      refine ⟨z, hz, Ev.step (fun k => ?_) hE⟩
      simp only [cubbyref11_In.l0]
      have e1 : ((bs.length : Int) * (R : Int)) = ((bs.length * R : Nat) : Int) := by simp
      rw [e1, wrap_id (i := ((bs.length * R : Nat) : Int)) (by omega) (by omega), wrap_id (by omega) (by omega), if_pos (by omega)]
      rfl
  obtain ⟨z, hz, hE⟩ := main (bs.length * R + 1) (List.replicate bs.length 0) 0 on_zero (Nat.zero_le _) (by omega)
  rw [← map_toL_zero] at hE
  exact ⟨z, hz, hE⟩
end


theorem ok_regs {nm : ByteArray} {pp : Int} {R : Nat} {bs : List (List SIns)} (F : FuncOk nm pp (R : Int) bs) : ∀ b ∈ bs, ∀ x ∈ b, RegsOk R x := by
  intro b hb x hx
  have hR := F.shape.2.2.2.1
  obtain ⟨j, hj, rfl⟩ := List.mem_iff_getElem.1 hx
  have I := F.ins b hb j hj
  refine ⟨by omega, I.use, ?_⟩
  unfold defOf
  split
  · next h =>
    have := I.def_ h
    omega
  · omega
theorem regs_nat {nm : ByteArray} {pp rg : Int} {bs : List (List SIns)} (F : FuncOk nm pp rg bs) : ∃ R : Nat, rg = R := by
  have h0 := F.shape.1
  have h1 := F.shape.2.2.1
  exact ⟨rg.toNat, by omega⟩
theorem total_le {bs : List (List SIns)} : ∀ b ∈ bs, b.length ≤ total bs := by
  induction bs with
  | nil => simp
  | cons c bs ih =>
    intro b hb
    unfold total
    rcases List.mem_cons.1 hb with rfl | hb
    · omega
    · have := ih b hb
      omega
theorem ok_blocks {nm : ByteArray} {pp : Int} {R : Nat} {bs : List (List SIns)} (F : FuncOk nm pp (R : Int) bs) (hF : FairB bs) : BlocksOk R bs := by
  have h1 := F.shape
  exact ⟨by have := h1.2.2.2.1; omega, by have := h1.2.2.2.2.2.1; omega, fun b hb => by have := total_le b hb; have := F.tot; omega, ok_regs F, hF.ins⟩
section
variable (pn : ByteArray) (pp : Int) {R : Nat} {bs : List (List SIns)} (hF : FairB bs) (F : FuncOk pn pp (R : Int) bs) (hc : checkE pn pp (R : Int) bs = 0)
include hF F hc
theorem both : ∃ z, Sol R bs z ∧ Ev (fun k => live_sets.f k pn pp (R : Int) bs) (toI z) ∧ Ev (fun k => cubbyref11_In.f k pn pp (R : Int) bs) (z.map (toL R)) := by
  have O := ok_blocks F hF
  obtain ⟨z, hz, h1⟩ := sets_ev pn pp O
  obtain ⟨y, hy, h2⟩ := refin_ev pn pp O
  obtain rfl := hz.one hy
  refine ⟨z, hz, h1, ?_⟩
  have h3 := refcheck_ev pn pp (R : Int) bs hF
  rw [hc] at h3
  have hbl := O.len
  refine Ev.bind h3 (Ev.congr (fun k => ?_) h2)
  rw [if_pos rfl, if_pos (by omega), if_pos (by omega), Int.toNat_natCast]
end
theorem Sol.lt {R : Nat} {bs : List (List SIns)} {z : List Nat} (h : Sol R bs z) (b : Nat) : at_ z b < 2 ^ R := h.on.lt b
theorem Sol.len {R : Nat} {bs : List (List SIns)} {z : List Nat} (h : Sol R bs z) : z.length = bs.length := h.on.len
theorem aheadN_lt {R : Nat} {bs : List (List SIns)} (O : BlocksOk R bs) {z : List Nat} (hz : Sol R bs z) {b i : Nat} (hb : b < bs.length) : aheadN bs z b i < 2 ^ R := by
  unfold aheadN
  refine foldr_lt _ _ (fun x hx => ?_) (or_lt bs hz.lt _)
  have hx := List.mem_of_mem_drop hx
  rw [getD_get hb] at hx
  exact O.regs _ (List.getElem_mem hb) x hx

theorem toL_low_of {R s p : Nat} (hs : s < 2 ^ R) : s / 2 ^ p = 0 ↔ ∀ n ∈ toL R s, n < p := by
  rw [Nat.div_eq_zero_iff_lt (Nat.pos_of_ne_zero (by simp))]
  constructor
  · intro h n hn
    obtain ⟨r, rfl, hr, hb⟩ := toL_nat hn
    apply Decidable.byContradiction
    intro hp
    have : s.testBit r = false := Nat.testBit_lt_two_pow (Nat.lt_of_lt_of_le h (Nat.pow_le_pow_right (by omega) (by omega)))
    rw [this] at hb
    exact absurd hb (by simp)
  · intro h
    apply Nat.lt_pow_two_of_testBit
    intro i hi
    cases hb : s.testBit i
    · rfl
    · have hiR : i < R := by
        apply Decidable.byContradiction
        intro hp
        have : s.testBit i = false := Nat.testBit_lt_two_pow (Nat.lt_of_lt_of_le hs (Nat.pow_le_pow_right (by omega) (by omega)))
        rw [this] at hb
        exact absurd hb (by simp)
      have := h i (mem_toL.2 ⟨hiR, hb⟩)
      omega
theorem checks (pn : ByteArray) {pp : Int} {R : Nat} {bs : List (List SIns)} (hF : FairB bs) (F : FuncOk pn pp (R : Int) bs) (hc : checkE pn pp (R : Int) bs = 0) {z : List Nat} (hz : Sol R bs z)
    (h1 : Ev (fun k => live_sets.f k pn pp (R : Int) bs) (toI z)) (h2 : Ev (fun k => cubbyref11_In.f k pn pp (R : Int) bs) (z.map (toL R))) :
    Ev (fun k => live_Check.f k pn pp (R : Int) bs) (if at_ z 0 / 2 ^ pp.toNat = 0 then 0 else 110) ∧ Ev (fun k => cubbyref11_Check.f k pn pp (R : Int) bs) (if at_ z 0 / 2 ^ pp.toNat = 0 then 0 else 110) := by
  have O := ok_blocks F hF
  have hR := O.le
  have hS := F.shape
  have hp0 := hS.1
  have hp1 := hS.2.1
  have hb0 := hS.2.2.2.2.1
  have hzl := hz.len
  constructor
  · have h3 := check_ev pn pp (R : Int) bs hF
    rw [hc] at h3
    refine Ev.bind h3 (Ev.congr (fun k => by rw [if_pos rfl]) (Ev.bind h1 ?_))
    have e1 : IntKind.u64.wrap pp = pp := by
      rw [IntKind.wrap_u64]
      omega
    have e2 : shr .u64 (rd (toI z) 0) pp = ((at_ z 0 / 2 ^ pp.toNat : Nat) : Int) := by
      unfold shr
      rw [rd_toI, show IntKind.u64.bits = 64 from rfl, Nat.min_eq_left (by omega)]
      rw [show ((2 : Int) ^ pp.toNat) = ((2 ^ pp.toNat : Nat) : Int) by simp]
      rw [Int.toNat_zero]
      exact (Int.natCast_ediv _ _).symm
    by_cases c : at_ z 0 / 2 ^ pp.toNat = 0
    · rw [if_pos c]
      exact Ev.congr (f := fun _ => some 0) (fun k => by rw [if_pos (by rw [toI_len]; omega), e1, if_pos hp0, e2, if_pos (by omega)]) (Ev.now _)
    · rw [if_neg c]
      exact Ev.congr (f := fun _ => some 110) (fun k => by rw [if_pos (by rw [toI_len]; omega), e1, if_pos hp0, e2, if_neg (by omega)]) (Ev.now _)
  · have h3 := refcheck_ev pn pp (R : Int) bs hF
    rw [hc] at h3
    refine Ev.bind h3 (Ev.congr (fun k => by rw [if_pos rfl]) (Ev.bind h2 ?_))
    have hlen := toL_len R (at_ z 0)
    have hlow := toL_low_of (R := R) (p := pp.toNat) (hz.lt 0)
    refine Ev.congr (f := fun k => cubbyref11_Check.l0 k (toL R (at_ z 0)) ((0 : Nat) : Int) pn pp (R : Int) bs) (fun k => by rw [if_pos (by rw [List.length_map]; omega), rdL_map (by omega) (by omega)]; rfl) ?_
    refine seek (fun k i => cubbyref11_Check.l0 k (toL R (at_ z 0)) (i : Int) pn pp (R : Int) bs) (toL R (at_ z 0)).length (fun i => rd (toL R (at_ z 0)) (i : Int) ≥ pp) 110 _ ?_ ?_ ?_ ?_
    · intro i hi hb
      exact Ev.step (f := fun _ => some 110) (fun k => by simp only [cubbyref11_Check.l0]; rw [if_pos (by omega), if_pos (by omega), if_pos hb]) (Ev.now _)
    · intro i hi hb r' hE
      exact Ev.step (fun k => by simp only [cubbyref11_Check.l0]; rw [if_pos (by omega), if_pos (by omega), if_neg hb, wrap_nat (by omega)]) hE
    · rintro ⟨i, hi, hb⟩
      rw [rd_get hi] at hb
      rw [if_neg]
      intro h
      have := hlow.1 h _ (List.getElem_mem hi)
      omega
    · intro h
      rw [if_pos (hlow.2 fun n hn => by
        obtain ⟨i, hi, e⟩ := List.mem_iff_getElem.1 hn
        have := h i hi
        rw [rd_get hi, e] at this
        omega)]
      exact Ev.step (f := fun _ => some 0) (fun k => by simp only [cubbyref11_Check.l0]; rw [if_neg (by omega)]) (Ev.now _)
end Go.Proofs.YtpkimbkjjmbmcaaDoor.PlainLive
