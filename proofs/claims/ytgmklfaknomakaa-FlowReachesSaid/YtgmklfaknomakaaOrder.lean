/-
  flow.Order, which visits blocks by a closure that calls itself: a plain function with its answers, and the proof that the Go code comes to them.
-/
import Derived.Test.YtgmklfaknomakaaQflowSuccs
import Derived.Test.YtgmklfaknomakaaQslicesReverseintint
import Derived.OneCell
namespace Go.Proofs.Ytgmklfaknomakaa.Q
open Go.RowKit Go.Proofs.YtgmklfaknomakaaW.PrintWords Go.Proofs.YtgmklfaknomakaaW.PrintLast Go.Proofs.YtgmklfaknomakaaW.PrintMore
set_option linter.unusedVariables false
set_option linter.unusedSimpArgs false

mutual
def flow_Order_1.l0 : Nat → List (List SIns) → Int → List Bool → List Int → List Int → Int → Option (List Bool × List Int)
  | 0, _, _, _, _, _, _ => none
  | k + 1, x, i, met, out, s, j =>
    if j < (s.length : Int) then
      if 0 ≤ j then
        if 0 ≤ rd s j then
          if rd s j < (met.length : Int) then
            if rdOf false met (rd s j) = true then flow_Order_1.l0 k x i met out s (wrap64 (j + 1))
            else (flow_Order_1.f k x (rd s j) met out).bind fun b => flow_Order_1.l0 k x i b.1 b.2 s (wrap64 (j + 1))
          else none
        else none
      else none
    else if out.length < 17592186044416 then some (met, out ++ [i]) else none
def flow_Order_1.f : Nat → List (List SIns) → Int → List Bool → List Int → Option (List Bool × List Int)
  | 0, _, _, _, _ => none
  | k + 1, x, i, met, out =>
    if 0 ≤ i then
      if i < (met.length : Int) then (flow_Succs.f k x i).bind fun s => flow_Order_1.l0 k x i (met.set i.toNat true) out s 0
      else none
    else none
end

/-- The captured variables, and what is in them. -/
structure OrderSt (w0 w : World) (gm gb gv go : Nat) (vm vo : Value) (A : Option Addr) (c : Nat) (x : List (List SIns)) (met : List Bool) (out : List Int) : Prop where
  bm : w.heap[gm]? = some (.cells #[vm] 32 (0, 0))
  bb : w.heap[gb]? = some (.cells #[.slice A x.length c] 25 (0, 0))
  bv : w.heap[gv]? = some (.cells #[.func (.func 27) #[] #[.pointer (some ⟨gm, 0, none⟩), .pointer (some ⟨gb, 0, none⟩), .pointer (some ⟨gv, 0, none⟩), .pointer (some ⟨go, 0, none⟩)]] 43 (0, 0))
  bo : w.heap[go]? = some (.cells #[vo] 28 (0, 0))
  hm : Kd.R Kd.bool 4 w w0.heap.size (fun _ => True) vm met
  ho : Kd.R (Kd.int .i64) 3 w w0.heap.size (fun _ => True) vo out
  hB : Below w0.heap.size w0 w
  gem : w0.heap.size ≤ gm
  geb : w0.heap.size ≤ gb
  gev : w0.heap.size ≤ gv
  geo : w0.heap.size ≤ go
  hx : Kd.C (Kd.slice 37 kIns) w0 A x.length x
  hc : x.length ≤ c

section
variable {w0 w w1 : World} {gm gb gv go : Nat} {vm vo vo' : Value} {A : Option Addr} {c : Nat} {x : List (List SIns)} {met : List Bool} {out : List Int}
theorem OrderSt.typm (hs : OrderSt w0 w gm gb gv go vm vo A c x met out) : ∀ k, vm.ownBlock = some k → ∃ cells, w.heap[k]? = some (.cells cells 4 (0, 0)) := Kd.R_typed hs.hm
theorem OrderSt.typo (hs : OrderSt w0 w gm gb gv go vm vo A c x met out) : ∀ k, vo.ownBlock = some k → ∃ cells, w.heap[k]? = some (.cells cells 3 (0, 0)) := Kd.R_typed hs.ho
theorem ne_own {g t t' : Nat} {cs : Array Value} {v : Value} (h : w.heap[g]? = some (.cells cs t (0, 0))) (ht : ∀ k, v.ownBlock = some k → ∃ cells, w.heap[k]? = some (.cells cells t' (0, 0))) (hne : t ≠ t') : v.ownBlock ≠ some g := by
  intro e
  obtain ⟨cells, hc⟩ := ht g e
  exact blk_ne h hc hne rfl
theorem OrderSt.below (hs : OrderSt w0 w gm gb gv go vm vo A c x met out) (hb : Below w.heap.size w w1) : OrderSt w0 w1 gm gb gv go vm vo A c x met out :=
  ⟨blk_below hs.bm hb, blk_below hs.bb hb, blk_below hs.bv hb, blk_below hs.bo hb, Kd.R_below hs.hm hb, Kd.R_below hs.ho hb, below_step hs.hB hb, hs.gem, hs.geb, hs.gev, hs.geo, hs.hx, hs.hc⟩
theorem OrderSt.putm {gx n cx : Nat} (hs : OrderSt w0 w gm gb gv go (.slice (some ⟨gx, 0, none⟩) n cx) vo A c x met out) (i : Int) (b : Bool) :
    OrderSt w0 (w.setCell ⟨gx, i.toNat, none⟩ (.bool b)) gm gb gv go (.slice (some ⟨gx, 0, none⟩) n cx) vo A c x (met.set i.toNat b) out := by
  obtain ⟨h1, h2⟩ := Kd.R_putg hs.hm i b
  obtain ⟨cells, hc⟩ := hs.typm gx (by simp [Value.ownBlock])
  exact ⟨blk_far hs.bm (p := ⟨gx, _, none⟩) (blk_ne hs.bm hc (by decide)) _, blk_far hs.bb (p := ⟨gx, _, none⟩) (blk_ne hs.bb hc (by decide)) _, blk_far hs.bv (p := ⟨gx, _, none⟩) (blk_ne hs.bv hc (by decide)) _, blk_far hs.bo (p := ⟨gx, _, none⟩) (blk_ne hs.bo hc (by decide)) _,
    h1, Kd.R_over' (v := .slice (some ⟨gx, 0, none⟩) n cx) hs.ho hs.typm (by decide) h2, below_set hs.hB (Kd.R_base hs.hm gx (by simp [Value.ownBlock])), hs.gem, hs.geb, hs.gev, hs.geo, hs.hx, hs.hc⟩
theorem OrderSt.app (hs : OrderSt w0 w gm gb gv go vm vo A c x met out) {out' : List Int} (ho : Kd.R (Kd.int .i64) 3 w1 w0.heap.size (fun _ => True) vo' out') (hB : Below w0.heap.size w0 w1) (hg : w.grownBy w1 vo.ownBlock) :
    OrderSt w0 (w1.setCell ⟨go, 0, none⟩ vo') gm gb gv go vm vo' A c x met out' := by
  have n1 := ne_own hs.bm hs.typo (by decide)
  have n2 := ne_own hs.bb hs.typo (by decide)
  have n3 := ne_own hs.bv hs.typo (by decide)
  have n4 := ne_own hs.bo hs.typo (by decide)
  have m1 := blk_grown hs.bm hg (Ne.symm n1)
  have m2 := blk_grown hs.bb hg (Ne.symm n2)
  have m3 := blk_grown hs.bv hg (Ne.symm n3)
  have m4 := blk_grown hs.bo hg (Ne.symm n4)
  exact ⟨blk_far m1 (p := ⟨go, 0, none⟩) (blk_ne m1 m4 (by decide)) _, blk_far m2 (p := ⟨go, 0, none⟩) (blk_ne m2 m4 (by decide)) _, blk_far m3 (p := ⟨go, 0, none⟩) (blk_ne m3 m4 (by decide)) _, blk_put m4 0 _ rfl,
    Kd.R_set (Kd.R_over' hs.hm hs.typo (by decide) hg) m4 (by decide) 0 _, Kd.R_set ho m4 (by decide) 0 _, below_set hB hs.geo, hs.gem, hs.geb, hs.gev, hs.geo, hs.hx, hs.hc⟩
end
/-- The blocks that a visit may write. -/
abbrev OrderMay (go : Nat) (vm vo : Value) : Nat → Prop := fun b => b = go ∨ vm.ownBlock = some b ∨ vo.ownBlock = some b

set_option maxHeartbeats 8000000 in
set_option maxRecDepth 100000 in
theorem flow_Order_1.calls (k : Nat) : ∀ (x : List (List SIns)) (i : Int) (met : List Bool) (out : List Int) (met' : List Bool) (out' : List Int) (w0 w : World) (gm gb gv go : Nat) (vm vo : Value) (A : Option Addr) (c : Nat)
    (h : flow_Order_1.f k x i met out = some (met', out')) (hs : OrderSt w0 w gm gb gv go vm vo A c x met out),
    Calls Try.prog 27 #[.int .i64 i, .pointer (some ⟨gm, 0, none⟩), .pointer (some ⟨gb, 0, none⟩), .pointer (some ⟨gv, 0, none⟩), .pointer (some ⟨go, 0, none⟩)] w fun e w' =>
      e = .returned (.tuple #[]) ∧ ∃ vo', OrderSt w0 w' gm gb gv go vm vo' A c x met' out' ∧ Kept w w' (OrderMay go vm vo) ∧ ∀ b, vo'.ownBlock = some b → vo.ownBlock = some b ∨ w.heap.size ≤ b := by
  induction k using Nat.strongRecOn with
  | _ k ih =>
  intro x i met out met' out' w0 w gm gb gv go vm vo A c h hs
  cases k with
  | zero => exact absurd h (by simp [flow_Order_1.f])
  | succ k =>
  simp only [flow_Order_1.f] at h
  by_cases c1 : ¬ 0 ≤ i
  · rw [if_neg c1] at h
    exact absurd h (by simp)
  replace c1 := Decidable.not_not.1 c1
  rw [if_pos c1] at h
  by_cases c2 : ¬ i < (met.length : Int)
  · rw [if_neg c2] at h
    exact absurd h (by simp)
  replace c2 := Decidable.not_not.1 c2
  rw [if_pos c2] at h
  replace h := Option.bind_eq_some_iff.mp h
  obtain ⟨s, hsu, h⟩ := h
  have HSU := Aside0.mk hsu
  have H := Aside0.mk h
  have IH := Aside0.mk ih
  clear hsu h ih
  obtain ⟨gx, cx, ex, gbx, glx, clx, HGx⟩ := Kd.R_form hs.hm (by omega)
  subst ex
  have HS := Aside0.mk hs
  clear hs gbx glx HGx clx
  obtain ⟨hx0, hf0⟩ := Kd.R_celln false HS.out.hm i c1 c2
  have cm : w.cell? ⟨gm, 0, none⟩ = some _ := blk_cell HS.out.bm 0
  have HS1 := Aside0.mk (HS.out.putm i true)
  go_enter Try.func27, Try.ntmps27
  go_wp2_with (first
    | ((with_reducible refine gate_store (t := 4) (p := 10) rfl ?_); refine store_event (t := 4) (p := 10) (v := ?vo_) (w1 := (w.setCell ⟨gx, i.toNat, none⟩ (.bool true))) ?hg ?ho ?hn ?hr ?_; (case ho => rfl); (case hg => rfl); (case hn => rfl); (case hr => first | (go_simp; done) | (go_simp; rfl)); intro w1 hw; rw [← hw] at HS1; have HK1 := Aside0.mk (hw ▸ Kept.setCell (S := OrderMay go (.slice (some ⟨gx, 0, none⟩) met.length cx) vo) (Kept.refl w _) (.inl (.inr (.inl (by simp [Value.ownBlock])))) _); clear hw cm hx0 hf0; have cb : w1.cell? ⟨gb, 0, none⟩ = some _ := blk_cell HS1.out.bb 0)
    | ((with_reducible refine gate_callee (f := 14) rfl ?_); refine goesL_ (some 13) rfl rfl Try.func14 (by kernel_rfl) rfl #[.slice A x.length c, .int .i64 i] rfl (by (try simp only [List.map_toArray, List.map_cons, List.map_nil]); first | done | rfl) ?_; (with_reducible refine (flow_Succs.calls k _ _ x i s _ ?side1 ?side2 HSU.out).mono ?_); (case side1 => repeat (first | exact (Kd.C_below HS1.out.hx HS1.out.hB) | (with_reducible refine Kd.C_alloc ?_ _) | (with_reducible refine Kd.C_drewN ?_ _) | (with_reducible refine Kd.C_drew ?_))); (case side2 => exact HS1.out.hc); rintro e w2 ⟨v0, rfl, ho0, hb⟩; refine ⟨_, rfl, ?_⟩;
        obtain ⟨As, cs, es⟩ := Kd.R_slice ho0; subst es; have HS2 := Aside0.mk (HS1.out.below hb); have HK2 := Aside0.mk (Kept.below HK1.out hb);
        have HR := Aside0.mk (show Kd.R (Kd.int .i64) 3 w2 0 (fun k_ => k_ ≠ go ∧ some k_ ≠ (Value.slice (some ⟨gx, 0, none⟩) met.length cx).ownBlock ∧ some k_ ≠ vo.ownBlock) (.slice As s.length cs) s from Kd.R_lower (Kd.R_mono (Kd.R_bound ho0) (fun k_ hk => ⟨fun e_ => by have := blk_lt HS1.out.bo; omega, fun e_ => by have := Kd.R_lt HS1.out.hm k_ e_.symm; omega, fun e_ => by have := Kd.R_lt HS1.out.ho k_ e_.symm; omega⟩)) (Nat.zero_le _));
        clear HS1 HK1 ho0 hb HSU cb))
  go_loopg [15] k (fun kq v15 w' => ∃ (met1 : List Bool) (out1 : List Int) (vo1 : Value) (j : Int), v15 = .int .i64 j ∧ Aside0 (flow_Order_1.l0 kq x i met1 out1 s j = some (met', out')) ∧ Aside0 (kq ≤ k) ∧
    Aside0 (OrderSt w0 w' gm gb gv go (.slice (some ⟨gx, 0, none⟩) met.length cx) vo1 A c x met1 out1) ∧ Aside0 (Kept w w' (OrderMay go (.slice (some ⟨gx, 0, none⟩) met.length cx) vo)) ∧
    Aside0 (∀ b, vo1.ownBlock = some b → vo.ownBlock = some b ∨ w.heap.size ≤ b) ∧
    Aside0 (Kd.R (Kd.int .i64) 3 w' 0 (fun k_ => k_ ≠ go ∧ some k_ ≠ (Value.slice (some ⟨gx, 0, none⟩) met.length cx).ownBlock ∧ some k_ ≠ vo1.ownBlock) (.slice As s.length cs) s))
  case atStart => exact ⟨_, _, _, 0, by first | rfl | simp, H, ⟨Nat.le_refl _⟩, HS2, HK2, ⟨fun _ h => .inl h⟩, HR⟩
  case round =>
    clear H HS2 HK2 HR
    obtain ⟨met1, out1, vo1, j, rfl, HA, HK1, HS1, HK, HV, HR⟩ := hrel
    cases gk with
    | zero => exact absurd HA.out (by simp [flow_Order_1.l0])
    | succ k1 =>
      have H := HA.out
      clear HA
      simp only [flow_Order_1.l0] at H
      by_cases c3 : j < (s.length : Int)
      · rw [if_pos c3] at H
        have c3b0 : decide (j < (s.length : Int)) = true := decide_eq_true c3
        by_cases c4 : ¬ 0 ≤ j
        · rw [if_neg c4] at H
          exact absurd H (by simp)
        replace c4 := Decidable.not_not.1 c4
        rw [if_pos c4] at H
        by_cases c5 : ¬ 0 ≤ rd s j
        · rw [if_neg c5] at H
          exact absurd H (by simp)
        replace c5 := Decidable.not_not.1 c5
        rw [if_pos c5] at H
        by_cases c6 : ¬ rd s j < (met1.length : Int)
        · rw [if_neg c6] at H
          exact absurd H (by simp)
        replace c6 := Decidable.not_not.1 c6
        rw [if_pos c6] at H
        obtain ⟨ad, ea, hx1⟩ := Kd.at_int (Kd.R_reads' HR.out).2.2 j c4 c3
        cases ea
        replace c6 : rd s j < (met.length : Int) := by have := (Kd.R_reads' HS1.out.hm).1; omega
        obtain ⟨hx2, hf2⟩ := Kd.R_celln false HS1.out.hm (rd s j) c5 c6
        have cm : wr.cell? ⟨gm, 0, none⟩ = some _ := blk_cell HS1.out.bm 0
        have cv : wr.cell? ⟨gv, 0, none⟩ = some _ := blk_cell HS1.out.bv 0
        by_cases c7 : rdOf false met1 (rd s j) = true
        · rw [if_pos c7] at H
          have H' := Aside0.mk H
          clear H
          have c7b : (!rdOf false met1 (rd s j)) = false := by rw [c7]; rfl
          clear c7
          go_wp2_with fail
          go_roundg k1
          case measure => have := HK1.out; omega
          case rel => exact ⟨met1, out1, vo1, _, by first | rfl | simp, H', ⟨by have := HK1.out; omega⟩, HS1, HK, HV, HR⟩
        · rw [if_neg c7] at H
          replace H := Option.bind_eq_some_iff.mp H
          obtain ⟨b, hb0, H⟩ := H
          have H' := Aside0.mk H
          have HB0 := Aside0.mk hb0
          clear H hb0
          have c7b : (!rdOf false met1 (rd s j)) = true := by rw [Bool.eq_false_iff.mpr c7]; rfl
          clear c7
          go_wp2_with fail
          refine (IH.out k1 (by have := HK1.out; omega) x (rd s j) met1 out1 b.1 b.2 w0 wr gm gb gv go _ vo1 A c HB0.out HS1.out).mono ?_
          rintro e w3 ⟨rfl, vo3, hs3, hk3, hv3⟩
          have HS3 := Aside0.mk hs3
          have HK3 := Aside0.mk (Kept.then_ HK.out hk3 (fun b hb => by
            rcases hb with hb | hb | hb
            · exact .inl (.inl hb)
            · exact .inl (.inr (.inl hb))
            · rcases HV.out b hb with h | h
              · exact .inl (.inr (.inr h))
              · exact .inr h))
          have HV3 := Aside0.mk (show ∀ b, vo3.ownBlock = some b → vo.ownBlock = some b ∨ w.heap.size ≤ b from fun b hb => by
            rcases hv3 b hb with h | h
            · exact HV.out b h
            · exact .inr (Nat.le_trans HK.out.1 h))
          have HR3 := Aside0.mk (show Kd.R (Kd.int .i64) 3 w3 0 (fun k_ => k_ ≠ go ∧ some k_ ≠ (Value.slice (some ⟨gx, 0, none⟩) met.length cx).ownBlock ∧ some k_ ≠ vo3.ownBlock) (.slice (some ad) s.length cs) s from
            Kd.R_mono (Kd.R_step (Kd.R_bound HR.out) (fun q hq hlt => hk3.2 q hlt (fun hm => by
              rcases hm with h | h | h
              · exact hq.1.1 h
              · exact hq.1.2.1 h.symm
              · exact hq.1.2.2 h.symm))) (fun q hq => ⟨hq.1.1, hq.1.2.1, fun e_ => by
                rcases hv3 q e_.symm with h | h
                · exact hq.1.2.2 h.symm
                · have := hq.2.2.1; omega⟩))
          clear hs3 hk3 hv3 HS1 HK HV HR
          go_wp2_with fail
          go_roundg k1
          case measure => have := HK1.out; omega
          case rel => exact ⟨b.1, b.2, vo3, _, by first | rfl | simp, H', ⟨by have := HK1.out; omega⟩, HS3, HK3, HV3, HR3⟩
      · rw [if_neg c3] at H
        have c3b0 : decide (j < (s.length : Int)) = false := decide_eq_false c3
        by_cases c4 : ¬ out1.length < 17592186044416
        · rw [if_neg c4] at H
          exact absurd H (by simp)
        replace c4 := Decidable.not_not.1 c4
        rw [if_pos c4] at H
        have HE := Aside0.mk (Prod.mk.inj (Option.some.inj H))
        have HL := Aside0.mk c4
        clear H c4
        obtain ⟨y, hy⟩ : ∃ y_ : List Int, y_ = out1 ++ [i] := ⟨_, rfl⟩
        have NY := Aside0.mk hy
        clear hy
        have co : wr.cell? ⟨go, 0, none⟩ = some vo1 := blk_cell HS1.out.bo 0
        have fo : wr.frozen? ⟨go, 0, none⟩ = false := blk_frozen HS1.out.bo 0
        go_wp2_with (first
          | ((with_reducible refine gate_builtin (b := .append) (xs := #[.tmp 28, .tmp 30]) rfl ?_); at_builtin; (refine Kd.R_append (Kd.int .i64) (w0 := w0) w0.heap.size rfl (.tmp 28) (.tmp 30) 28 3 (.int .i64 0) 8 rfl Try.underlying28 info3 rfl (by decide) (by omega) vo1 out1 i [.int .i64 i] (fun _ => True) (fun _ => False) rfl rfl ?aP (fun _ hk => hk.elim) ?aF ?aO ?aB ?aS ?aL ?_; (case aP => exact rfl); (case aF => exact fun _ _ => trivial); (case aO => exact HS1.out.ho); (case aB => exact HS1.out.hB); (case aS => exact below_size HS1.out.hB); (case aL => have := HL.out; omega); intro v1 w3 ho3 hb3 hg3 hat3; rw [← NY.out] at ho3; obtain ⟨A4, c4, e4⟩ := Kd.R_slice ho3; subst e4; have HS3 := Aside0.mk (HS1.out.app ho3 hb3 hg3); have HK3 := Aside0.mk (Kept.of_grown (S := OrderMay go (.slice (some ⟨gx, 0, none⟩) met.length cx) vo) hg3 HK.out (fun b hb => by rcases HV.out b hb with h | h; (exact .inl (.inr (.inr h))); exact .inr h)); have HV3 := Aside0.mk (show ∀ b, (Value.slice A4 y.length c4).ownBlock = some b → vo.ownBlock = some b ∨ w.heap.size ≤ b from fun b hb => by rcases hat3 with h | ⟨q, h, hq⟩; (exact HV.out b (h ▸ hb)); (have := HK.out.1; have e_ : b = q := by rw [h] at hb; exact (Option.some.inj hb).symm); (right; omega)); have fo3 : w3.frozen? ⟨go, 0, none⟩ = false := blk_frozen (blk_grown HS1.out.bo hg3 (Ne.symm (ne_own HS1.out.bo HS1.out.typo (by decide)))) 0; have co3 : w3.cell? ⟨go, 0, none⟩ = some vo1 := blk_cell (blk_grown HS1.out.bo hg3 (Ne.symm (ne_own HS1.out.bo HS1.out.typo (by decide)))) 0; clear ho3 hb3 hg3 hat3 HS1 HK HV HR co fo)))
        first | go_end0 | ((try simp only [Exit.inBlock, Exit.then]); refine bodyPost_ret (results_none rfl _ _ _) rfl ?_)
        obtain ⟨e1, e2⟩ := HE.out
        rw [← NY.out] at e2
        subst e1 e2
        exact ⟨rfl, _, HS3.out, Kept.setCell HK3.out (.inl (.inl rfl)) _, HV3.out⟩
def flow_Order.f (k : Nat) (l0 : List (List SIns)) : Option (List Int) :=
  if (l0.length : Int) = 0 then some []
  else if l0.length ≤ 281474976710656 then (flow_Order_1.f k l0 0 (List.replicate l0.length false) []).bind fun b => slices_Reverse_int_int.f k b.2
  else none
theorem flow_Order_1.mono_l : ∀ k, (∀ y0 y1 y2 y3 y4 y5, LeO (flow_Order_1.l0 k y0 y1 y2 y3 y4 y5) (flow_Order_1.l0 (k + 1) y0 y1 y2 y3 y4 y5)) ∧ (∀ y0 y1 y2 y3, LeO (flow_Order_1.f k y0 y1 y2 y3) (flow_Order_1.f (k + 1) y0 y1 y2 y3))
  | 0 => ⟨fun _ _ _ _ _ _ r h => by simp [flow_Order_1.l0] at h, fun _ _ _ _ r h => by simp [flow_Order_1.f] at h⟩
  | k + 1 => by
    obtain ⟨ih0, ih1⟩ := flow_Order_1.mono_l k
    refine ⟨?_, ?_⟩
    · intro y0 y1 y2 y3 y4 y5
      unfold flow_Order_1.l0
      repeat' first
      | (with_reducible exact ih0 _ _ _ _ _ _)
      | (with_reducible exact ih1 _ _ _ _)
      | (with_reducible exact LeO.refl _)
      | (with_reducible refine LeO.ite ?_ ?_)
      | (with_reducible refine LeO.bind ?_ (fun _ => ?_))
    · intro y0 y1 y2 y3
      unfold flow_Order_1.f
      repeat' first
      | (with_reducible exact ih0 _ _ _ _ _ _)
      | (with_reducible exact flow_Succs.mono _ _ _)
      | (with_reducible exact LeO.refl _)
      | (with_reducible refine LeO.ite ?_ ?_)
      | (with_reducible refine LeO.bind ?_ (fun _ => ?_))
theorem flow_Order.mono : ∀ a0 k, LeO (flow_Order.f k a0) (flow_Order.f (k + 1) a0) := by
  intro a0 k
  unfold flow_Order.f
  repeat' first
  | (with_reducible exact (flow_Order_1.mono_l k).2 _ _ _ _)
  | (with_reducible exact slices_Reverse_int_int.mono _ _)
  | (with_reducible exact LeO.refl _)
  | (with_reducible refine LeO.ite ?_ ?_)
  | (with_reducible refine LeO.bind ?_ (fun _ => ?_))

set_option maxHeartbeats 8000000 in
set_option maxRecDepth 100000 in
theorem flow_Order.calls (k : Nat) (A0 : Option Addr) (c0 : Nat) (l0 : List (List SIns)) (r : List Int) (w : World) (hr0 : Kd.C (Kd.slice 37 kIns) w A0 l0.length l0) (hc0 : l0.length ≤ c0) (h : flow_Order.f k l0 = some r) :
    Calls Try.prog 18 #[.slice A0 l0.length c0] w fun e w' => ∃ v0_ : Value, e = .returned (v0_) ∧ Kd.R (Kd.int .i64) 3 w' w.heap.size (fun _ => True) v0_ r ∧ Below w.heap.size w w' := by
  have HR0 := Aside0.mk hr0
  have HC0 := Aside0.mk hc0
  clear hr0 hc0
  unfold flow_Order.f at h
  by_cases c1 : (l0.length : Int) = 0
  · rw [if_pos c1] at h
    obtain rfl := Option.some.inj h
    have c1b : ((l0.length : Int) == 0) = true := beq_iff_eq.mpr c1
    have c1n : (l0.length == 0) = true := beq_iff_eq.mpr (by omega)
    clear c1 h
    go_enter Try.func18, Try.ntmps18
    go_wp2_with fail
    go_ret
    exact ⟨_, rfl, Kd.R_nil _ _ _ _ _, (Below.refl _ _).alloc (Nat.le_refl _) _⟩
  · rw [if_neg c1] at h
    by_cases c2 : ¬ l0.length ≤ 281474976710656
    · rw [if_neg c2] at h
      exact absurd h (by simp)
    replace c2 := Decidable.not_not.1 c2
    rw [if_pos c2] at h
    obtain ⟨b, hb, h⟩ := Option.bind_eq_some_iff.mp h
    have H := Aside0.mk h
    have HB0 := Aside0.mk hb
    clear h hb
    have c1b : ((l0.length : Int) == 0) = false := beq_eq_false_iff_ne.mpr c1
    have c1n : (l0.length == 0) = false := beq_eq_false_iff_ne.mpr (by omega)
    clear c1
    have hmf : ∀ (fn : Fn) (first cap : Array Value) (w : World), (Instr.makeFunc fn first cap).run Try.prog w = .ok (.func fn first cap) w := fun _ _ _ _ => rfl
    go_enter Try.func18, Try.ntmps18
    have hsf := fun (a : Addr) (c : Array Value) (w : World) => run_store Try.prog w a (.func (.func 27) #[] c) .plain rfl
    have HBz := Aside0.mk (Below.refl w.heap.size w)
    go_wp2_with (first
      | ((with_reducible refine gate_dst (N := 1) rfl ?_); refine box_event ?hg (N := 1) ?hd (cs := #[.slice A0 l0.length c0]) (t := 25) ?hr ?_; (case hd => rfl); (case hg => rfl); (case hr => first | (go_simp; done) | (go_simp; rfl)); intro gb hg w1 hbox hb; have HB1 := Aside0.mk hb; have BB1 := Aside0.mk hbox; have EB := Aside0.mk hg; clear hb hbox hg HBz; have cb : w1.cell? ⟨gb, 0, none⟩ = some _ := blk_cell BB1.out 0)
      | ((with_reducible refine gate_dst (N := 11) rfl ?_); refine Kd.R_make Kd.bool _ 4 rfl (N := 11) rfl 32 _ _ rfl (l0.length : Int) rfl rfl Try.underlying32 (.bool false) 1 info4 rfl (by decide) (by omega) false (ok := fun _ => True) (okp := fun _ => True) rfl (fun _ hk => hk) trivial (by omega) (by omega) (Below.refl _ _) (Nat.le_refl _) ?_; intro vm w2 ho hb hg_ hnew_; rw [show ((l0.length : Int)).toNat = l0.length from by omega] at ho; obtain ⟨Am, cm, em⟩ := Kd.R_slice ho; subst em; have HB2 := Aside0.mk (below_step HB1.out hb); have BB2 := Aside0.mk (blk_below BB1.out hb); have HM2 := Aside0.mk (Kd.R_lower ho (below_size HB1.out)); have GB := Aside0.mk (show w.heap.size ≤ gb by rw [EB.out]; exact Nat.le_refl _); clear hg_ hnew_ HB1 BB1 cb hb ho EB)
      | ((with_reducible refine gate_dst (N := 3) rfl ?_); refine box_event ?hg (N := 3) ?hd (cs := #[.slice none 0 0]) (t := 32) ?hr ?_; (case hd => rfl); (case hg => rfl); (case hr => first | (go_simp; done) | (go_simp; rfl)); intro gm hg w3 hbox hb; have HB3 := Aside0.mk (below_step HB2.out hb); have BB3 := Aside0.mk (blk_below BB2.out hb); have HM3 := Aside0.mk (Kd.R_below HM2.out hb); have BM3 := Aside0.mk hbox; have GM := Aside0.mk (show w.heap.size ≤ gm by rw [hg]; exact below_size HB2.out); clear hb hbox hg HB2 BB2 HM2; have cm3 : w3.cell? ⟨gm, 0, none⟩ = some _ := blk_cell BM3.out 0; have fm3 : w3.frozen? ⟨gm, 0, none⟩ = false := blk_frozen BM3.out 0)
      | ((with_reducible refine gate_store (t := 32) (p := 3) rfl ?_); refine store_event (t := 32) (p := 3) (v := ?vo_) (w1 := (w3.setCell ⟨gm, 0, none⟩ (.slice Am (List.replicate l0.length false).length cm))) ?hg ?ho ?hn ?hr ?_; (case ho => rfl); (case hg => rfl); (case hn => rfl); (case hr => first | (go_simp; done) | (go_simp; rfl)); intro w4 hw; have BM4 := Aside0.mk (hw ▸ blk_put BM3.out 0 _ rfl : w4.heap[gm]? = some (.cells #[.slice Am (List.replicate l0.length false).length cm] 32 (0, 0))); have BB4 := Aside0.mk (hw ▸ blk_far BB3.out (p := ⟨gm, 0, none⟩) (blk_ne BB3.out BM3.out (by decide)) _ : w4.heap[gb]? = some _); have HM4 := Aside0.mk (hw ▸ Kd.R_set HM3.out BM3.out (by decide) 0 _ : Kd.R Kd.bool 4 w4 _ _ _ _); have HB4 := Aside0.mk (hw ▸ below_set HB3.out GM.out : Below w.heap.size w w4); clear hw HB3 BB3 HM3 BM3 cm3 fm3))
    have hst : OrderSt w ((w4.alloc (.cells #[.slice none 0 0] 28)).alloc (.cells #[.func (.func 27) #[] #[.pointer (some ⟨gm, 0, none⟩), .pointer (some ⟨gb, 0, none⟩), .pointer (some ⟨w4.heap.size + 1, 0, none⟩), .pointer (some ⟨w4.heap.size, 0, none⟩)]] 43)) gm gb (w4.heap.size + 1) w4.heap.size
        (.slice Am (List.replicate l0.length false).length cm) (.slice none 0 0) A0 c0 l0 (List.replicate l0.length false) [] :=
      ⟨blk_alloc (blk_alloc BM4.out _) _, blk_alloc (blk_alloc BB4.out _) _, by have h := blk_new (w4.alloc (.cells #[.slice none 0 0] 28)) (.cells #[.func (.func 27) #[] #[.pointer (some ⟨gm, 0, none⟩), .pointer (some ⟨gb, 0, none⟩), .pointer (some ⟨w4.heap.size + 1, 0, none⟩), .pointer (some ⟨w4.heap.size, 0, none⟩)]] 43); simpa using h,
        blk_alloc (blk_new w4 _) _, Kd.R_alloc (Kd.R_alloc HM4.out _) _, Kd.R_nil _ _ _ _ _, below_alloc (below_alloc HB4.out _) _, GM.out, GB.out, by have := below_size HB4.out; omega, below_size HB4.out, HR0.out, HC0.out⟩
    refine (flow_Order_1.calls k l0 0 _ [] b.1 b.2 w _ gm gb _ _ _ _ A0 c0 HB0.out hst).mono ?_
    rintro e w6 ⟨rfl, vo6, hs6, -, -⟩
    clear hst BM4 BB4 HM4 HB4 hmf hsf
    obtain ⟨A6, c6, e6⟩ := Kd.R_slice hs6.ho
    subst e6
    have HS6 := Aside0.mk hs6
    clear hs6
    have co : w6.cell? ⟨w4.heap.size, 0, none⟩ = some _ := blk_cell HS6.out.bo 0
    go_wp2_with ((with_reducible refine gate_callee (f := 28) rfl ?_); refine goesL_ (some 16) rfl rfl Try.func28 (by kernel_rfl) rfl #[.slice A6 b.2.length c6] rfl (by (try simp only [List.map_toArray, List.map_cons, List.map_nil]); first | done | rfl) ?_; (refine (slices_Reverse_int_int.calls k (fun k_ => some k_ = (Value.slice A6 b.2.length c6).ownBlock) _ b.2 r w w6 HS6.out.hB (Kd.R_tight rfl HS6.out.ho) H.out).mono ?_); rintro e w7 ⟨rfl, ho7, hb7, hk7⟩; refine ⟨_, rfl, ?_⟩; have HO7 := Aside0.mk ho7; have HB7 := Aside0.mk hb7; have co7 : w7.cell? ⟨w4.heap.size, 0, none⟩ = some _ := blk_cell (blk_kept HS6.out.bo hk7 (fun e_ => ne_own HS6.out.bo HS6.out.typo (by decide) e_.symm)) 0; clear ho7 hb7 hk7 HS6 co)
    go_ret
    exact ⟨_, rfl, Kd.R_mono HO7.out (fun _ _ => trivial), HB7.out⟩
end Go.Proofs.Ytgmklfaknomakaa.Q
