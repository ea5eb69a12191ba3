/- SpanNumbers: parts of the proofs, put together. -/
import Derived.Test.YtebnnknijbgekaaDoorMSpanNumbers1
import Derived.Test.YtebnnknijbgekaaDoorMSpanNumbers2
import Derived.Test.YtebnnknijbgekaaDoorMSpanNumbers3
namespace Go.Proofs.YtebnnknijbgekaaDoor.Q
open Go.RowKit Go.Proofs.YtebnnknijbgekaaDoorW.PrintWords Go.Proofs.YtebnnknijbgekaaDoorW.PrintLast Go.Proofs.YtebnnknijbgekaaDoorW.PrintMore
attribute [local go_sem] max2_int min2_int max_two min_two max_three min_three max_four min_four   -- for this text's walks alone
set_option linter.unusedVariables false
set_option linter.unusedSimpArgs false

/-! ### ir_Name: function 40 -/
def ir_Name.f (a0 : ByteArray) : Option (Bool) := if a0.toList = ([] : List UInt8) then (some false) else (if (a0.size : Int) > 12 then (some false) else (if 0 < (a0.size : Int) then (if (bt a0 0) < 97 then (some false) else ((strings_Trim.f a0 (⟨#[97, 98, 99, 100, 101, 102, 103, 104, 105, 106, 107, 108, 109, 110, 111, 112, 113, 114, 115, 116, 117, 118, 119, 120, 121, 122, 48, 49, 50, 51, 52, 53, 54, 55, 56, 57]⟩ : ByteArray)).bind fun t169 => (some (t169.toList == ([] : List UInt8))))) else (none)))
set_option maxHeartbeats 8000000 in
set_option maxRecDepth 100000 in
theorem ir_Name.calls (a0 : ByteArray) (r : Bool) (w : World) (h : ir_Name.f a0 = some r) :
  Calls Tryd.prog 40 #[.string a0] w fun e w' => e = .returned (.bool r) ∧ Below w.heap.size w w' := by
 have HB := Aside0.mk (Below.refl w.heap.size w)
 have H := h; clear h; unfold ir_Name.f at H
 by_cases c2 : a0.toList = ([] : List UInt8)
 ·rw [if_pos c2] at H
  obtain ⟨c2b0, c2b1⟩ := qe c2; clear c2
  obtain rfl := Option.some.inj H
  go_enter Tryd.func40, Tryd.ntmps40
  go_wp2
  go_ret
  exact ⟨qE, qB⟩
 ·rw [if_neg c2] at H
  obtain ⟨c2b0, c2b1⟩ := qn c2
  by_cases c3 : (a0.size : Int) > 12
  ·rw [if_pos c3] at H
   have c3b0 : decide (12 < (a0.size : Int)) = true := decide_eq_true c3
   have c3b1 : decide (12 < a0.size) = true := decide_eq_true (by omega)
   clear c3
   obtain rfl := Option.some.inj H
   go_enter Tryd.func40, Tryd.ntmps40
   go_wp2
   go_ret
   exact ⟨qE, qB⟩
  ·rw [if_neg c3] at H
   have c3b0 : decide (12 < (a0.size : Int)) = false := decide_eq_false c3
   have c3b1 : decide (12 < a0.size) = false := decide_eq_false (by omega)
   clear c3
   by_cases c4 : 0 < (a0.size : Int)
   ·rw [if_pos c4] at H
    have c4b0 := decide_eq_true c4
    have c4b1 : decide (0 < a0.size) = true := decide_eq_true (by omega)
    clear c4
    by_cases c6 : (bt a0 0) < 97
    ·rw [if_pos c6] at H
     have c6b0 := decide_eq_true c6
     clear c6
     obtain rfl := Option.some.inj H
     have p5 : 0 ≤ (0 : Int) := (by omega)
     have q5 : 0 < a0.size := (by have : (0 : Int) < (a0.size : Int) := of_decide_eq_true qA; omega)
     have hx5 : ∀ h : 0 < a0.size, ((a0[0]'h).toNat : Int) = bt a0 0 := bt_at a0 0
     clear p5
     have qi5 : (0 < (a0.size : Int)) = True := eq_true (of_decide_eq_true qA)
     replace q5 := eq_true q5
     go_enter Tryd.func40, Tryd.ntmps40
     go_wp2
     go_ret
     exact ⟨qE, qB⟩
    ·rw [if_neg c6] at H
     have c6b0 := decide_eq_false c6
     clear c6
     replace H := qb H; obtain ⟨t169, A7, H⟩ := H
     obtain rfl := Option.some.inj H
     have p5 : 0 ≤ (0 : Int) := (by omega)
     have q5 : 0 < a0.size := (by have : (0 : Int) < (a0.size : Int) := of_decide_eq_true qA; omega)
     have hx5 : ∀ h : 0 < a0.size, ((a0[0]'h).toNat : Int) = bt a0 0 := bt_at a0 0
     clear p5
     have qi5 : (0 < (a0.size : Int)) = True := eq_true (of_decide_eq_true qA)
     replace q5 := eq_true q5
     go_enter Tryd.func40, Tryd.ntmps40
     go_wp2_with (first | ((with_reducible refine gate_callee (f := 65) rfl ?_); refine goesL_ (some 16) rfl rfl Tryd.func65 (by kernel_rfl) rfl #[.string a0, .string (⟨#[97, 98, 99, 100, 101, 102, 103, 104, 105, 106, 107, 108, 109, 110, 111, 112, 113, 114, 115, 116, 117, 118, 119, 120, 121, 122, 48, 49, 50, 51, 52, 53, 54, 55, 56, 57]⟩ : ByteArray)] rfl qL ?_; (with_reducible refine (strings_Trim.calls a0 (⟨#[97, 98, 99, 100, 101, 102, 103, 104, 105, 106, 107, 108, 109, 110, 111, 112, 113, 114, 115, 116, 117, 118, 119, 120, 121, 122, 48, 49, 50, 51, 52, 53, 54, 55, 56, 57]⟩ : ByteArray) t169 _ A7.out).mono ?_); rintro e w8 ⟨rfl, hb⟩; refine ⟨_, rfl, ?_⟩; replace HB := qH hb; (try clear hb)))
     go_ret
     exact ⟨qE, qB⟩
   ·rw [if_neg c4] at H
    exact absurd H (by simp)

end Go.Proofs.YtebnnknijbgekaaDoor.Q
namespace Go.Proofs.YtebnnknijbgekaaDoor.Q
open Go.RowKit Go.Shelf Go.Proofs.YtebnnknijbgekaaDoorW.PrintWords Go.Proofs.YtebnnknijbgekaaDoorW.PrintLast Go.Proofs.YtebnnknijbgekaaDoorW.PrintMore
set_option linter.unusedVariables false

/-- Is it none of the registers? -/
def oddReg (regs n : Int) : Bool := decide (n < 0 ∨ regs ≤ n)
theorem ir_one_1.pred {regs p : Int} {nm : ByteArray} {bl : Value} {g : Nat} {w : World} (hbk : w.heap[g]? = some (.cells #[.string nm, .int .i64 p, .int .i64 regs, bl] 34 (0, 0))) :
    PredAt Tryd.prog 89 #[.pointer (some ⟨g, 0, none⟩)] (Value.int .i64) (oddReg regs) w := fun W x hb => by
  have hc : W.cell? ⟨g, 2, none⟩ = some (.int .i64 regs) := (blk_cell (blk_below hbk hb) 2).trans rfl
  show Calls Tryd.prog 89 #[.int .i64 x, .pointer (some ⟨g, 0, none⟩)] W _
  clear hbk hb
  unfold oddReg
  by_cases c0 : x < 0
  · have c0b : decide (x < 0) = true := decide_eq_true c0
    rw [decide_eq_true (.inl c0)]
    go_enter Tryd.func89, Tryd.ntmps89
    go_wp2
    go_ret
    exact ⟨rfl, 0, rfl⟩
  · have c0b : decide (x < 0) = false := decide_eq_false c0
    by_cases c1 : regs ≤ x
    · have c1b : decide (regs ≤ x) = true := decide_eq_true c1
      rw [decide_eq_true (.inr c1)]
      go_enter Tryd.func89, Tryd.ntmps89
      go_wp2
      go_ret
      exact ⟨rfl, 0, rfl⟩
    · have c1b : decide (regs ≤ x) = false := decide_eq_false c1
      rw [decide_eq_false (by omega)]
      go_enter Tryd.func89, Tryd.ntmps89
      go_wp2
      go_ret
      exact ⟨rfl, 0, rfl⟩

def ir_one_1.f (a0 : Int) (a1_0 : ByteArray) (a1_1 : Int) (a1_2 : Int) (l1_3 : List (List SIns)) : Option Bool := some (oddReg a1_2 a0)
theorem ir_one_1.calls (a0 : Int) (a1_0 : ByteArray) (a1_1 : Int) (a1_2 : Int) (A1_3 : Option Addr) (c1_3 : Nat) (l1_3 : List (List SIns)) (r : Bool) (w : World) (hr1_3 : Kd.C (Kd.slice 31 kIns) w A1_3 l1_3.length l1_3) (hc1_3 : l1_3.length ≤ c1_3) (h : ir_one_1.f a0 a1_0 a1_1 a1_2 l1_3 = some r)
    {gb_ : Nat} (hbk : w.heap[gb_]? = some (.cells #[.string a1_0, .int .i64 a1_1, .int .i64 a1_2, .slice A1_3 l1_3.length c1_3] 34 (0, 0))) :
    Calls Tryd.prog 89 #[.int .i64 a0, .pointer (some ⟨gb_, 0, none⟩)] w fun e w' => e = .returned (.bool r) ∧ Below w.heap.size w w' := by
  obtain rfl := Option.some.inj h
  exact (ir_one_1.pred hbk w a0 (Below.refl _ _)).mono fun e w' q => ⟨q.1, by
    obtain ⟨n, rfl⟩ := q.2
    exact below_drewN' (Below.refl _ w) n⟩

theorem spot_none {w : World} {ad : Addr} {v : Value} (h : w.cell? ad = some v) : ad.spot = none := by
  unfold World.cell? at h
  split at h
  · split at h
    · exact absurd h (by simp)
    · next hs => simpa using hs
  · exact absurd h (by simp)

def slices_ContainsFunc_int_int.f (l0 : List Int) (a1_0 : ByteArray) (a1_1 : Int) (a1_2 : Int) (l1_3 : List (List SIns)) : Option Bool := some (l0.any (oddReg a1_2))
theorem slices_ContainsFunc_int_int.calls (A0 : Option Addr) (c0 : Nat) (l0 : List Int) (a1_0 : ByteArray) (a1_1 : Int) (a1_2 : Int) (A1_3 : Option Addr) (c1_3 : Nat) (l1_3 : List (List SIns)) (r : Bool) (w : World) (hr0 : Kd.C (Kd.int .i64) w A0 l0.length l0) (hc0 : l0.length ≤ c0) (hr1_3 : Kd.C (Kd.slice 31 kIns) w A1_3 l1_3.length l1_3) (hc1_3 : l1_3.length ≤ c1_3) (h : slices_ContainsFunc_int_int.f l0 a1_0 a1_1 a1_2 l1_3 = some r)
    {gb_ : Nat} (hbk : w.heap[gb_]? = some (.cells #[.string a1_0, .int .i64 a1_1, .int .i64 a1_2, .slice A1_3 l1_3.length c1_3] 34 (0, 0))) :
    Calls Tryd.prog 90 #[.slice A0 l0.length c0, .func (.func 89) #[] #[.pointer (some ⟨gb_, 0, none⟩)]] w fun e w' => e = .returned (.bool r) ∧ Below w.heap.size w w' := by
  obtain rfl := Option.some.inj h
  have hR := Kd.reads_of_C (enc := Value.int .i64) (d := (0 : Int)) (h1 := fun _ => rfl) hr0
  have hp := ir_one_1.pred hbk
  have eg : ∀ args w, (callFunc 89 args).run Tryd.prog w = .ok (.enter 89 args) w := enters_of Tryd.func89 (by kernel_rfl) rfl
  clear hbk hr1_3 hc1_3 hr0
  cases l0 with
  | nil =>
    refine (AnyE.slices_ContainsFunc_empty Tryd.l8 A0 c0 _ w).mono ?_
    rintro e w' ⟨rfl, rfl⟩
    exact ⟨rfl, Below.refl _ _⟩
  | cons x xs =>
    obtain ⟨ad, rfl, hc⟩ := hR.2.2 (by simp)
    have hs : ad.spot = none := spot_none (hc 0 (by simp))
    obtain ⟨b, off, sp⟩ := ad
    obtain rfl : sp = none := hs
    have hcell : ∀ j, j < (x :: xs).length → w.cell? ⟨b, off + j, none⟩ = some (.int .i64 ((x :: xs)[j]!)) := by
      intro j hj
      have e := hc j hj
      have e1 : (Addr.add ⟨b, off, none⟩ j) = ⟨b, off + j, none⟩ := by
        unfold Addr.add
        split
        · next h0 => rw [h0]; rfl
        · rfl
      rw [e1] at e
      rw [e]
      congr 2
      rw [List.getD_eq_getElem?_getD, List.getElem!_eq_getElem?_getD]
      rfl
    refine (AnyE.slices_ContainsFunc Tryd.l8 (Value.int .i64) (oddReg a1_2) 89 #[.pointer (some ⟨gb_, 0, none⟩)] eg b off (x :: xs).length c0 (x :: xs) w hp (Nat.le_refl _) hR.2.1 hcell).mono ?_
    rintro e w' ⟨rfl, n, rfl⟩
    rw [List.take_length]
    exact ⟨rfl, below_drewN' (Below.refl _ w) n⟩
end Go.Proofs.YtebnnknijbgekaaDoor.Q
namespace Go.Proofs.YtebnnknijbgekaaDoor.Q
open Go.RowKit Go.Proofs.YtebnnknijbgekaaDoorW.PrintWords Go.Proofs.YtebnnknijbgekaaDoorW.PrintLast Go.Proofs.YtebnnknijbgekaaDoorW.PrintMore
attribute [local go_sem] max2_int min2_int max_two min_two max_three min_three max_four min_four   -- for this text's walks alone
set_option linter.unusedVariables false
set_option linter.unusedSimpArgs false

/-! ### ir_Last: function 88 -/
def ir_Last.f (a0 : Int) : Option (Bool) := if a0 ≥ 12 then (some (decide (a0 ≤ 14))) else (some false)
set_option maxHeartbeats 8000000 in
set_option maxRecDepth 100000 in
theorem ir_Last.calls (a0 : Int) (r : Bool) (w : World) (h : ir_Last.f a0 = some r) :
  Calls Tryd.prog 88 #[.int .i64 a0] w fun e w' => e = .returned (.bool r) ∧ Drawn0 w w' := by
 have H := h; clear h; unfold ir_Last.f at H
 by_cases c2 : a0 ≥ 12
 ·rw [if_pos c2] at H
  have c2b0 : decide (12 ≤ a0) = true := decide_eq_true c2
  clear c2
  obtain rfl := Option.some.inj H
  go_enter Tryd.func88, Tryd.ntmps88
  go_wp2
  go_ret
  exact ⟨by first | rfl | (simp; done) | (simp [*]; done), qD⟩
 ·rw [if_neg c2] at H
  have c2b0 : decide (12 ≤ a0) = false := decide_eq_false c2
  clear c2
  obtain rfl := Option.some.inj H
  go_enter Tryd.func88, Tryd.ntmps88
  go_wp2
  go_ret
  exact ⟨by first | rfl | (simp; done) | (simp [*]; done), qD⟩

end Go.Proofs.YtebnnknijbgekaaDoor.Q
namespace Go.Proofs.YtebnnknijbgekaaDoor.Q
open Go.RowKit Go.Proofs.YtebnnknijbgekaaDoorW.PrintWords Go.Proofs.YtebnnknijbgekaaDoorW.PrintLast Go.Proofs.YtebnnknijbgekaaDoorW.PrintMore
attribute [local go_sem] max2_int min2_int max_two min_two max_three min_three max_four min_four   -- for this text's walks alone
set_option linter.unusedVariables false
set_option linter.unusedSimpArgs false

/-! ### ir_one: function 72 -/
mutual
def ir_one.j0 : Nat → ByteArray → Bool → ByteArray → Int → Int → List (List (SIns)) → Int → Int → Int → Int → ByteArray → List Int → Option (Int)
 | 0, _, _, _, _, _, _, _, _, _, _, _, _ => none
 | k + 1, x7, x45, x178000, x178001, x178002, x178003, x179000, x179001, x179002, x179003, x179004, x179005 => if x45 = true then (some 72) else ((some (([x179001, x179002, x179003] : List Int) : List Int)).bind fun y181 => (ir_one.l0 k x7 y181 y181 (y181.length : Int) 0 x178000 x178001 x178002 x178003 x179000 x179001 x179002 x179003 x179004 x179005))
def ir_one.l0 : Nat → ByteArray → List Int → List Int → Int → Int → ByteArray → Int → Int → List (List (SIns)) → Int → Int → Int → Int → ByteArray → List Int → Option (Int)
 | 0, _, _, _, _, _, _, _, _, _, _, _, _, _, _, _ => none
 | k + 1, x7, x8, x53, x54, x55, x178000, x178001, x178002, x178003, x179000, x179001, x179002, x179003, x179004, x179005 => if x55 < x54 then (if 0 ≤ x55 then (if x55 < (x53.length : Int) then (if x55 < (x7.size : Int) then (if (bt x7 x55) = 32 then (if (rd x53 x55) = 0 then (ir_one.l0 k x7 x8 x53 x54 (wrap64 (x55 + 1)) x178000 x178001 x178002 x178003 x179000 x179001 x179002 x179003 x179004 x179005) else (some 72)) else (ir_one.l0 k x7 x8 x53 x54 (wrap64 (x55 + 1)) x178000 x178001 x178002 x178003 x179000 x179001 x179002 x179003 x179004 x179005)) else (none)) else (none)) else (none)) else (ir_one.l1 k x7 x8 x8 (x8.length : Int) 0 x178000 x178001 x178002 x178003 x179000 x179001 x179002 x179003 x179004 x179005)
def ir_one.l1 : Nat → ByteArray → List Int → List Int → Int → Int → ByteArray → Int → Int → List (List (SIns)) → Int → Int → Int → Int → ByteArray → List Int → Option (Int)
 | 0, _, _, _, _, _, _, _, _, _, _, _, _, _, _, _ => none
 | k + 1, x7, x8, x70, x71, x72, x178000, x178001, x178002, x178003, x179000, x179001, x179002, x179003, x179004, x179005 => if x72 < x71 then (if 0 ≤ x72 then (if x72 < (x70.length : Int) then (if x72 < (x7.size : Int) then (if (bt x7 x72) = 114 then ((ir_one_1.f (rd x70 x72) x178000 x178001 x178002 x178003).bind fun t186 => (if t186 = true then (some 73) else (ir_one.l1 k x7 x8 x70 x71 (wrap64 (x72 + 1)) x178000 x178001 x178002 x178003 x179000 x179001 x179002 x179003 x179004 x179005))) else (ir_one.l1 k x7 x8 x70 x71 (wrap64 (x72 + 1)) x178000 x178001 x178002 x178003 x179000 x179001 x179002 x179003 x179004 x179005)) else (none)) else (none)) else (none)) else ((slices_ContainsFunc_int_int.f x179005 x178000 x178001 x178002 x178003).bind fun t187 => (if t187 = true then (some 73) else (ir_one.l2 k x7 x8 (x8.length : Int) 0 x178000 x178001 x178002 x178003 x179000 x179001 x179002 x179003 x179004 x179005)))
def ir_one.l2 : Nat → ByteArray → List Int → Int → Int → ByteArray → Int → Int → List (List (SIns)) → Int → Int → Int → Int → ByteArray → List Int → Option (Int)
 | 0, _, _, _, _, _, _, _, _, _, _, _, _, _, _ => none
 | k + 1, x7, x91, x92, x93, x178000, x178001, x178002, x178003, x179000, x179001, x179002, x179003, x179004, x179005 => if x93 < x92 then (if 0 ≤ x93 then (if x93 < (x91.length : Int) then (if x93 < (x7.size : Int) then (if (bt x7 x93) = 110 then (if (rd x91 x93) < 0 then (some 81) else (if (rd x91 x93) ≥ 65536 then (some 81) else (ir_one.l2 k x7 x91 x92 (wrap64 (x93 + 1)) x178000 x178001 x178002 x178003 x179000 x179001 x179002 x179003 x179004 x179005))) else (ir_one.l2 k x7 x91 x92 (wrap64 (x93 + 1)) x178000 x178001 x178002 x178003 x179000 x179001 x179002 x179003 x179004 x179005)) else (none)) else (none)) else (none)) else ((ir_Targets.f x179000 x179001 x179002 x179003 x179004 x179005).bind fun t189 => (ir_one.l3 k t189 (t189.length : Int) 0 x178000 x178001 x178002 x178003 x179000 x179001 x179002 x179003 x179004 x179005))
def ir_one.l3 : Nat → List Int → Int → Int → ByteArray → Int → Int → List (List (SIns)) → Int → Int → Int → Int → ByteArray → List Int → Option (Int)
 | 0, _, _, _, _, _, _, _, _, _, _, _, _, _ => none
 | k + 1, x112, x113, x114, x178000, x178001, x178002, x178003, x179000, x179001, x179002, x179003, x179004, x179005 => if x114 < x113 then (if 0 ≤ x114 then (if x114 < (x112.length : Int) then (if (rd x112 x114) < 0 then (some 74) else (if (rd x112 x114) ≥ (x178003.length : Int) then (some 74) else (ir_one.l3 k x112 x113 (wrap64 (x114 + 1)) x178000 x178001 x178002 x178003 x179000 x179001 x179002 x179003 x179004 x179005))) else (none)) else (none)) else (if x179000 = 11 then ((ir_Name.f x179004).bind fun t193 => (ir_one.j5 k (!t193) x179000 x179001 x179002 x179003 x179004 x179005)) else (ir_one.j5 k false x179000 x179001 x179002 x179003 x179004 x179005))
def ir_one.j5 : Nat → Bool → Int → Int → Int → Int → ByteArray → List Int → Option (Int)
 | 0, _, _, _, _, _, _, _ => none
 | k + 1, x128, x179000, x179001, x179002, x179003, x179004, x179005 => if x128 = true then (some 70) else (if (x179005.length : Int) > 4 then (some 192) else (some 0))
end
def ir_one.f (k : Nat) (a0_0 : ByteArray) (a0_1 : Int) (a0_2 : Int) (l0_3 : List (List (SIns))) (a1_0 : Int) (a1_1 : Int) (a1_2 : Int) (a1_3 : Int) (a1_4 : ByteArray) (l1_5 : List Int) (a2 : Bool) : Option (Int) := (ir_shape.f a1_0).bind fun t179 => (if t179.toList = ([] : List UInt8) then (ir_one.j0 k t179 true a0_0 a0_1 a0_2 l0_3 a1_0 a1_1 a1_2 a1_3 a1_4 l1_5) else ((ir_Last.f a1_0).bind fun t180 => (if (t180 != a2) = true then (ir_one.j0 k t179 true a0_0 a0_1 a0_2 l0_3 a1_0 a1_1 a1_2 a1_3 a1_4 l1_5) else (if a1_0 = 11 then (ir_one.j0 k t179 false a0_0 a0_1 a0_2 l0_3 a1_0 a1_1 a1_2 a1_3 a1_4 l1_5) else (if a1_4.toList = ([] : List UInt8) then (ir_one.j0 k t179 (decide ((l1_5.length : Int) > 0)) a0_0 a0_1 a0_2 l0_3 a1_0 a1_1 a1_2 a1_3 a1_4 l1_5) else (ir_one.j0 k t179 true a0_0 a0_1 a0_2 l0_3 a1_0 a1_1 a1_2 a1_3 a1_4 l1_5))))))
theorem ir_one.mono_l : ∀ k, (∀ y0 y1 y2 y3 y4 y5 y6 y7 y8 y9 y10 y11, LeO (ir_one.j0 k y0 y1 y2 y3 y4 y5 y6 y7 y8 y9 y10 y11) (ir_one.j0 (k + 1) y0 y1 y2 y3 y4 y5 y6 y7 y8 y9 y10 y11)) ∧ (∀ y0 y1 y2 y3 y4 y5 y6 y7 y8 y9 y10 y11 y12 y13 y14, LeO (ir_one.l0 k y0 y1 y2 y3 y4 y5 y6 y7 y8 y9 y10 y11 y12 y13 y14) (ir_one.l0 (k + 1) y0 y1 y2 y3 y4 y5 y6 y7 y8 y9 y10 y11 y12 y13 y14)) ∧ (∀ y0 y1 y2 y3 y4 y5 y6 y7 y8 y9 y10 y11 y12 y13 y14, LeO (ir_one.l1 k y0 y1 y2 y3 y4 y5 y6 y7 y8 y9 y10 y11 y12 y13 y14) (ir_one.l1 (k + 1) y0 y1 y2 y3 y4 y5 y6 y7 y8 y9 y10 y11 y12 y13 y14)) ∧ (∀ y0 y1 y2 y3 y4 y5 y6 y7 y8 y9 y10 y11 y12 y13, LeO (ir_one.l2 k y0 y1 y2 y3 y4 y5 y6 y7 y8 y9 y10 y11 y12 y13) (ir_one.l2 (k + 1) y0 y1 y2 y3 y4 y5 y6 y7 y8 y9 y10 y11 y12 y13)) ∧ (∀ y0 y1 y2 y3 y4 y5 y6 y7 y8 y9 y10 y11 y12, LeO (ir_one.l3 k y0 y1 y2 y3 y4 y5 y6 y7 y8 y9 y10 y11 y12) (ir_one.l3 (k + 1) y0 y1 y2 y3 y4 y5 y6 y7 y8 y9 y10 y11 y12)) ∧ (∀ y0 y1 y2 y3 y4 y5 y6, LeO (ir_one.j5 k y0 y1 y2 y3 y4 y5 y6) (ir_one.j5 (k + 1) y0 y1 y2 y3 y4 y5 y6))
 | 0 => ⟨fun _ _ _ _ _ _ _ _ _ _ _ _ r h => by simp [ir_one.j0] at h, fun _ _ _ _ _ _ _ _ _ _ _ _ _ _ _ r h => by simp [ir_one.l0] at h, fun _ _ _ _ _ _ _ _ _ _ _ _ _ _ _ r h => by simp [ir_one.l1] at h, fun _ _ _ _ _ _ _ _ _ _ _ _ _ _ r h => by simp [ir_one.l2] at h, fun _ _ _ _ _ _ _ _ _ _ _ _ _ r h => by simp [ir_one.l3] at h, fun _ _ _ _ _ _ _ r h => by simp [ir_one.j5] at h⟩
 | k + 1 => by
  obtain ⟨ih0, ih1, ih2, ih3, ih4, ih5⟩ := ir_one.mono_l k
  refine ⟨?_, ?_, ?_, ?_, ?_, ?_⟩ <;> intros <;> (first | unfold ir_one.j0 | unfold ir_one.l0 | unfold ir_one.l1 | unfold ir_one.l2 | unfold ir_one.l3 | unfold ir_one.j5) <;> repeat' first | (with_reducible exact ih0 _ _ _ _ _ _ _ _ _ _ _ _) | (with_reducible exact ih1 _ _ _ _ _ _ _ _ _ _ _ _ _ _ _) | (with_reducible exact ih2 _ _ _ _ _ _ _ _ _ _ _ _ _ _ _) | (with_reducible exact ih3 _ _ _ _ _ _ _ _ _ _ _ _ _ _) | (with_reducible exact ih4 _ _ _ _ _ _ _ _ _ _ _ _ _) | (with_reducible exact ih5 _ _ _ _ _ _ _) | (with_reducible exact LeO.refl _) | (with_reducible exact LeO.none _) | (with_reducible refine LeO.ite ?_ ?_) | (with_reducible refine LeO.bind ?_ (fun _ => ?_)) | exact LeO.none _ | refine LeO.ite ?_ ?_ | refine LeO.bind ?_ (fun _ => ?_)
theorem ir_one.mono : ∀ a0 a1 a2 a3 a4 a5 a6 a7 a8 a9 a10 k, LeO (ir_one.f k a0 a1 a2 a3 a4 a5 a6 a7 a8 a9 a10) (ir_one.f (k + 1) a0 a1 a2 a3 a4 a5 a6 a7 a8 a9 a10) := by
 intro a0 a1 a2 a3 a4 a5 a6 a7 a8 a9 a10 k
 obtain ⟨ih0, ih1, ih2, ih3, ih4, ih5⟩ := ir_one.mono_l k
 unfold ir_one.f
 repeat' first | (with_reducible exact ih0 _ _ _ _ _ _ _ _ _ _ _ _) | (with_reducible exact ih1 _ _ _ _ _ _ _ _ _ _ _ _ _ _ _) | (with_reducible exact ih2 _ _ _ _ _ _ _ _ _ _ _ _ _ _ _) | (with_reducible exact ih3 _ _ _ _ _ _ _ _ _ _ _ _ _ _) | (with_reducible exact ih4 _ _ _ _ _ _ _ _ _ _ _ _ _) | (with_reducible exact ih5 _ _ _ _ _ _ _) | (with_reducible exact LeO.refl _) | (with_reducible exact LeO.none _) | (with_reducible refine LeO.ite ?_ ?_) | (with_reducible refine LeO.bind ?_ (fun _ => ?_)) | exact LeO.none _ | refine LeO.ite ?_ ?_ | refine LeO.bind ?_ (fun _ => ?_)
set_option maxHeartbeats 8000000 in
set_option maxRecDepth 100000 in
theorem ir_one.calls (k : Nat) (a0_0 : ByteArray) (a0_1 : Int) (a0_2 : Int) (A0_3 : Option Addr) (c0_3 : Nat) (l0_3 : List (List (SIns))) (a1_0 : Int) (a1_1 : Int) (a1_2 : Int) (a1_3 : Int) (a1_4 : ByteArray) (A1_5 : Option Addr) (c1_5 : Nat) (l1_5 : List Int) (a2 : Bool) (r : Int) (w : World) (hL : LaidW w) (hr0_3 : Kd.C (Kd.slice 31 kIns) w A0_3 l0_3.length l0_3) (hc0_3 : l0_3.length ≤ c0_3) (hr1_5 : Kd.C (Kd.int .i64) w A1_5 l1_5.length l1_5) (hc1_5 : l1_5.length ≤ c1_5) (h : ir_one.f k a0_0 a0_1 a0_2 l0_3 a1_0 a1_1 a1_2 a1_3 a1_4 l1_5 a2 = some r) :
  Calls Tryd.prog 72 #[.agg #[.string a0_0, .int .i64 a0_1, .int .i64 a0_2, .slice A0_3 l0_3.length c0_3], .agg #[.int .i64 a1_0, .int .i64 a1_1, .int .i64 a1_2, .int .i64 a1_3, .string a1_4, .slice A1_5 l1_5.length c1_5], .bool a2] w fun e w' => e = .returned (.int .i64 r) ∧ Below w.heap.size w w' := by
 have hu34 := Tryd.underlying34
 have hu31 := Tryd.underlying31
 have HR0_3 := Aside0.mk hr0_3
 have HC0_3 := Aside0.mk hc0_3
 clear hr0_3 hc0_3
 have HR1_5 := Aside0.mk hr1_5
 have HC1_5 := Aside0.mk hc1_5
 clear hr1_5 hc1_5
 have HB := Aside0.mk (Below.refl w.heap.size w)
 have HLd := Aside0.mk hL
 clear hL
 have H := h; clear h; unfold ir_one.f at H
 replace H := qb H; obtain ⟨t179, A4, H⟩ := H
 have HC5 := Aside0.mk H
 clear H
 go_enter Tryd.func72, Tryd.ntmps72
 go_upto_region 2 with (first | ((with_reducible refine gate_dst (N := 3) rfl ?_); (try (refine gate_guard (by rfl) ?_; dsimp only)); refine box_event (by rfl) (N := 3) (by rfl) (cs := #[.string a0_0, .int .i64 a0_1, .int .i64 a0_2, .slice A0_3 l0_3.length c0_3]) (t := 34) ?hr ?_; (case hr => first | (go_simp; done) | (go_simp; rfl)); intro gb177 hg w6 hbox hb; have BK177 := Aside0.mk (hbox); have GW177 := qG hg; have GE177 := GW177; replace HB := qH hb; clear hb hbox hg) | ((with_reducible refine gate_dst (N := 4) rfl ?_); (try (refine gate_guard (by rfl) ?_; dsimp only)); refine box_event (by rfl) (N := 4) (by rfl) (cs := #[.int .i64 a1_0, .int .i64 a1_1, .int .i64 a1_2, .int .i64 a1_3, .string a1_4, .slice A1_5 l1_5.length c1_5]) (t := 31) ?hr ?_; (case hr => first | (go_simp; done) | (go_simp; rfl)); intro gb178 hg w7 hbox hb; have BK178 := Aside0.mk (hbox); have GW178 := qG hg; have GE178 := GW178; replace HB := qH hb; have NB177_178 := Aside0.mk ((by rw [hg]; exact Nat.ne_of_lt (blk_lt (g := gb177) (o := .cells #[.string a0_0, .int .i64 a0_1, .int .i64 a0_2, .slice A0_3 l0_3.length c0_3] 34 (0, 0)) (qK BK177.out)) : gb177 ≠ gb178)); have NB178_177 := Aside0.mk ((by rw [hg]; exact Nat.ne_of_gt (blk_lt (g := gb177) (o := .cells #[.string a0_0, .int .i64 a0_1, .int .i64 a0_2, .slice A0_3 l0_3.length c0_3] 34 (0, 0)) (qK BK177.out)) : gb178 ≠ gb177)); replace BK177 := qW BK177 hb; clear hb hbox hg; have hnb8 := NB178_177.out; have hnc8 := NB177_178.out; obtain ⟨hcz9_0, hcz9_1, hcz9_2, hcz9_3, hcz9_4, hcz9_5, hfz9_0, hfz9_1, hfz9_2, hfz9_3, hfz9_4, hfz9_5⟩ := bk6 BK178.out) | ((with_reducible refine gate_callee (f := 71) rfl ?_); refine goesL_ (some 20) rfl rfl Tryd.func71 (by kernel_rfl) rfl #[.int .i64 a1_0] rfl qL ?_; (with_reducible refine (ir_shape.calls a1_0 t179 _ A4.out (hL := ?side99)).mono ?_); (case side99 => exact LaidW.below HLd.out qB); rintro e w' ⟨rfl, ⟨nd, rfl⟩⟩; refine ⟨_, rfl, ?_⟩))
 (try simp only [Act.put, List.setIfInBounds_toArray, List.set_cons_zero, List.set_cons_succ])
 go_cut [45] (fun v45 wc => ∃ (kq : Nat) (x45_4 : Bool), v45 = .bool x45_4 ∧ Aside0 (ir_one.j0 kq t179 x45_4 a0_0 a0_1 a0_2 l0_3 a1_0 a1_1 a1_2 a1_3 a1_4 l1_5 = some r) ∧ Aside0 (kq ≤ k) ∧ Aside0 (wc.heap[gb177]? = some (.cells #[.string a0_0, .int .i64 a0_1, .int .i64 a0_2, (.slice A0_3 l0_3.length c0_3)] 34 (0, 0))) ∧ Aside0 (wc.heap[gb178]? = some (.cells #[.int .i64 a1_0, .int .i64 a1_1, .int .i64 a1_2, .int .i64 a1_3, .string a1_4, (.slice A1_5 l1_5.length c1_5)] 31 (0, 0))) ∧ Aside0 (Below w.heap.size w wc))
 case first =>
  have H := HC5.out
  clear HC5
  by_cases c10 : t179.toList = ([] : List UInt8)
  ·rw [if_pos c10] at H
   obtain ⟨c10b0, c10b1⟩ := qe c10; clear c10
   (first | rw [c10b0] | (simp only [i64_w, i32_w]; rw [c10b0]) | skip)
   have H' := Aside0.mk H
   clear H
   go_wp2
   go_meet
   case rel => exact ⟨_, (true), qT, H', ⟨qO⟩, ⟨qK BK177.out⟩, ⟨qK BK178.out⟩, ⟨qB⟩⟩
  ·rw [if_neg c10] at H
   obtain ⟨c10b0, c10b1⟩ := qn c10
   (first | rw [c10b0] | (simp only [i64_w, i32_w]; rw [c10b0]) | skip)
   replace H := qb H; obtain ⟨t180, A11, H⟩ := H
   by_cases c12 : (t180 != a2) = true
   ·rw [if_pos c12] at H
    have c12b0 : (t180 != a2) = true := c12
    (try (have c12b1 : decide (t180 = a2) = false := by simpa using c12))
    (try (have c12b2 : (t180 == a2) = false := by simpa using c12))
    (try (have c12b3 : ¬ (t180 = a2) := by simpa using c12))
    clear c12
    have H' := Aside0.mk H
    clear H
    have hnb13 := NB178_177.out
    have hnc13 := NB177_178.out
    obtain ⟨hcz14_0, hcz14_1, hcz14_2, hcz14_3, hcz14_4, hcz14_5, hfz14_0, hfz14_1, hfz14_2, hfz14_3, hfz14_4, hfz14_5⟩ := bk6 BK178.out
    go_wp2_with (first | (go_at_call 88; (with_reducible refine (ir_Last.calls a1_0 t180 _ A11.out).mono ?_); (try clear A11); rintro e w' ⟨rfl, ⟨nd, rfl⟩⟩))
    go_meet
    case rel => exact ⟨_, (true), qT, H', ⟨qO⟩, ⟨qK BK177.out⟩, ⟨qK BK178.out⟩, ⟨qB⟩⟩
   ·rw [if_neg c12] at H
    have c12b0 : (t180 != a2) = false := by simpa using c12
    (try (have c12b1 : decide (t180 = a2) = true := by simpa using c12))
    (try (have c12b2 : (t180 == a2) = true := by simpa using c12))
    clear c12
    by_cases c15 : a1_0 = 11
    ·rw [if_pos c15] at H
     obtain ⟨c15b0, c15b1⟩ := qe c15; clear c15
     have H' := Aside0.mk H
     clear H
     have hnb16 := NB178_177.out
     have hnc16 := NB177_178.out
     obtain ⟨hcz17_0, hcz17_1, hcz17_2, hcz17_3, hcz17_4, hcz17_5, hfz17_0, hfz17_1, hfz17_2, hfz17_3, hfz17_4, hfz17_5⟩ := bk6 BK178.out
     go_wp2_with (first | (go_at_call 88; (with_reducible refine (ir_Last.calls a1_0 t180 _ A11.out).mono ?_); (try clear A11); rintro e w' ⟨rfl, ⟨nd, rfl⟩⟩))
     go_meet
     case rel => exact ⟨_, (false), qT, H', ⟨qO⟩, ⟨qK BK177.out⟩, ⟨qK BK178.out⟩, ⟨qB⟩⟩
    ·rw [if_neg c15] at H
     obtain ⟨c15b0, c15b1⟩ := qn c15
     by_cases c18 : a1_4.toList = ([] : List UInt8)
     ·rw [if_pos c18] at H
      obtain ⟨c18b0, c18b1⟩ := qe c18; clear c18
      have H' := Aside0.mk H
      clear H
      have hnb19 := NB178_177.out
      have hnc19 := NB177_178.out
      obtain ⟨hcz20_0, hcz20_1, hcz20_2, hcz20_3, hcz20_4, hcz20_5, hfz20_0, hfz20_1, hfz20_2, hfz20_3, hfz20_4, hfz20_5⟩ := bk6 BK178.out
      go_wp2_with (first | (go_at_call 88; (with_reducible refine (ir_Last.calls a1_0 t180 _ A11.out).mono ?_); (try clear A11); rintro e w' ⟨rfl, ⟨nd, rfl⟩⟩))
      go_meet
      case rel => exact ⟨_, (decide ((l1_5.length : Int) > 0)), qT, H', ⟨qO⟩, ⟨qK BK177.out⟩, ⟨qK BK178.out⟩, ⟨qB⟩⟩
     ·rw [if_neg c18] at H
      obtain ⟨c18b0, c18b1⟩ := qn c18
      have H' := Aside0.mk H
      clear H
      have hnb21 := NB178_177.out
      have hnc21 := NB177_178.out
      obtain ⟨hcz22_0, hcz22_1, hcz22_2, hcz22_3, hcz22_4, hcz22_5, hfz22_0, hfz22_1, hfz22_2, hfz22_3, hfz22_4, hfz22_5⟩ := bk6 BK178.out
      go_wp2_with (first | (go_at_call 88; (with_reducible refine (ir_Last.calls a1_0 t180 _ A11.out).mono ?_); (try clear A11); rintro e w' ⟨rfl, ⟨nd, rfl⟩⟩))
      go_meet
      case rel => exact ⟨_, (true), qT, H', ⟨qO⟩, ⟨qK BK177.out⟩, ⟨qK BK178.out⟩, ⟨qB⟩⟩
 case rest =>
  clear HC5
  try clear c1; try clear c2; try clear p2; try clear c7; try clear c8; try clear c10; try clear c10b0 c10b1; try clear c12; try clear c12b0 c12b1 c12b2; try clear c13; try clear c15; try clear c15b0 c15b1; try clear c16; try clear c18; try clear c18b0 c18b1; try clear c19; try clear c21; try clear hcz14_0 hcz14_1 hcz14_2 hcz14_3 hcz14_4 hcz14_5 hfz14_0 hfz14_1 hfz14_2 hfz14_3 hfz14_4 hfz14_5; try clear hcz17_0 hcz17_1 hcz17_2 hcz17_3 hcz17_4 hcz17_5 hfz17_0 hfz17_1 hfz17_2 hfz17_3 hfz17_4 hfz17_5; try clear hcz20_0 hcz20_1 hcz20_2 hcz20_3 hcz20_4 hcz20_5 hfz20_0 hfz20_1 hfz20_2 hfz20_3 hfz20_4 hfz20_5; try clear hcz22_0 hcz22_1 hcz22_2 hcz22_3 hcz22_4 hcz22_5 hfz22_0 hfz22_1 hfz22_2 hfz22_3 hfz22_4 hfz22_5; try clear hcz9_0 hcz9_1 hcz9_2 hcz9_3 hcz9_4 hcz9_5 hfz9_0 hfz9_1 hfz9_2 hfz9_3 hfz9_4 hfz9_5
  obtain ⟨kq, x45_4, rfl, HA, HJ4, BK177, BK178, HB⟩ := hcut
  cases kq with
  | zero => exact absurd HA.out (by simp [ir_one.j0])
  | succ kj4 =>
   have H := HA.out
   clear HA
   simp only [ir_one.j0] at H
   by_cases c23 : x45_4 = true
   ·subst c23
    have H1 : (some 72) = some r := by rw [if_pos rfl] at H; exact H
    clear H
    have H := H1
    clear H1
    obtain rfl := Option.some.inj H
    go_wp2
    go_ret
    exact ⟨qE, qB⟩
   ·replace c23 := Bool.eq_false_iff.mpr c23
    subst c23
    have H1 : ((some (([a1_1, a1_2, a1_3] : List Int) : List Int)).bind fun y181 => (ir_one.l0 kj4 t179 y181 y181 (y181.length : Int) 0 a0_0 a0_1 a0_2 l0_3 a1_0 a1_1 a1_2 a1_3 a1_4 l1_5)) = some r := by rw [if_neg (show ¬ (false = true) by decide)] at H; exact H
    clear H
    have H := H1
    clear H1
    obtain ⟨y181, hy181⟩ : ∃ y_ : List Int, y_ = (([a1_1, a1_2, a1_3] : List Int)) := ⟨_, rfl⟩
    replace H : (ir_one.l0 kj4 t179 y181 y181 (y181.length : Int) 0 a0_0 a0_1 a0_2 l0_3 a1_0 a1_1 a1_2 a1_3 a1_4 l1_5) = some r := by first | (rw [hy181]; with_reducible exact H) | (have H2_ := (Option.bind_some _ _).symm.trans H; rw [hy181]; with_reducible exact H2_) | (have H2_ := (Option.bind_some _ _).symm.trans H; with_reducible exact H2_) | with_reducible exact H | (rw [hy181]; exact H) | exact H
    have Ny181 := Aside0.mk hy181
    clear hy181
    have H' := Aside0.mk H
    clear H
    have hnb24 := NB178_177.out
    have hnc24 := NB177_178.out
    obtain ⟨hcz25_0, hcz25_1, hcz25_2, hcz25_3, hcz25_4, hcz25_5, hfz25_0, hfz25_1, hfz25_2, hfz25_3, hfz25_4, hfz25_5⟩ := bk6 BK178.out
    go_wp2_with (first | ((with_reducible refine gate_dst (N := 52) rfl ?_); (try (refine gate_guard (by rfl) ?_; dsimp only)); refine Kd.R_lit (Kd.int .i64) _ 3 (by rfl) (N := 52) (by rfl) (xs := ([a1_1, a1_2, a1_3] : List Int)) (inner := [.int .i64 a1_1, .int .i64 a1_2, .int .i64 a1_3]) (ok := fun _ => True) (okp := fun _ => True) ?hr ?hp (fun _ hk => hk) trivial (Below.refl _ _) (Nat.le_refl _) (by simp) ?_; (case hr => first | (go_simp; done) | (go_simp; rfl)); (case hp => exact (Reps.one (show Kd.M (Kd.int .i64) _ _ _ a1_1 [.int .i64 a1_1] from rfl) (Reps.one (show Kd.M (Kd.int .i64) _ _ _ a1_2 [.int .i64 a1_2] from rfl) (Reps.one (show Kd.M (Kd.int .i64) _ _ _ a1_3 [.int .i64 a1_3] from rfl) (Reps.none _ _))))); intro v182 w26 ho27 hb hg_ hnew_; clear hg_ hnew_; (first | rw [← Ny181.out] at ho27 | (simp only [Int.reduceToNat] at ho27; rw [← Ny181.out] at ho27)); have HO183 := Aside0.mk (Kd.R_lower ho27 (below_size qB)); replace BK177 := qW BK177 hb; replace BK178 := qW BK178 hb; replace HB := qH hb; clear hb ho27; obtain ⟨Ao28, co28, eo28⟩ := Kd.R_slice HO183.out; subst eo28))
    go_loopg [55] kj4 (fun kq v55 w' => ∃ (x55_2 : Int), v55 = .int .i64 x55_2 ∧ Aside0 (ir_one.l0 kq t179 y181 y181 (y181.length : Int) x55_2 a0_0 a0_1 a0_2 l0_3 a1_0 a1_1 a1_2 a1_3 a1_4 l1_5 = some r) ∧ Aside0 (kq ≤ kj4) ∧ Aside0 (Kd.R (Kd.int .i64) 3 w' w.heap.size (fun _ => True) (.slice Ao28 y181.length co28) y181) ∧ Aside0 (Kd.R (Kd.int .i64) 3 w' w.heap.size (fun _ => True) (.slice Ao28 y181.length co28) y181) ∧ Aside0 (w'.heap[gb177]? = some (.cells #[.string a0_0, .int .i64 a0_1, .int .i64 a0_2, (.slice A0_3 l0_3.length c0_3)] 34 (0, 0))) ∧ Aside0 (w'.heap[gb178]? = some (.cells #[.int .i64 a1_0, .int .i64 a1_1, .int .i64 a1_2, .int .i64 a1_3, .string a1_4, (.slice A1_5 l1_5.length c1_5)] 31 (0, 0))) ∧ Aside0 (Below w.heap.size w w'))
    case atStart => exact ⟨(0), qT, H', ⟨Nat.le_refl _⟩, ⟨qR HO183.out⟩, ⟨qR HO183.out⟩, ⟨qK BK177.out⟩, ⟨qK BK178.out⟩, ⟨qB⟩⟩
    case round =>
     clear H'
     try clear c1; try clear c2; try clear p2; try clear c7; try clear c8; try clear c10; try clear c10b0 c10b1; try clear c12; try clear c12b0 c12b1 c12b2; try clear c13; try clear c15; try clear c15b0 c15b1; try clear c16; try clear c18; try clear c18b0 c18b1; try clear c19; try clear c21; try clear c23; try clear c24; try clear hcz14_0 hcz14_1 hcz14_2 hcz14_3 hcz14_4 hcz14_5 hfz14_0 hfz14_1 hfz14_2 hfz14_3 hfz14_4 hfz14_5; try clear hcz17_0 hcz17_1 hcz17_2 hcz17_3 hcz17_4 hcz17_5 hfz17_0 hfz17_1 hfz17_2 hfz17_3 hfz17_4 hfz17_5; try clear hcz20_0 hcz20_1 hcz20_2 hcz20_3 hcz20_4 hcz20_5 hfz20_0 hfz20_1 hfz20_2 hfz20_3 hfz20_4 hfz20_5; try clear hcz22_0 hcz22_1 hcz22_2 hcz22_3 hcz22_4 hcz22_5 hfz22_0 hfz22_1 hfz22_2 hfz22_3 hfz22_4 hfz22_5; try clear hcz25_0 hcz25_1 hcz25_2 hcz25_3 hcz25_4 hcz25_5 hfz25_0 hfz25_1 hfz25_2 hfz25_3 hfz25_4 hfz25_5; try clear hcz9_0 hcz9_1 hcz9_2 hcz9_3 hcz9_4 hcz9_5 hfz9_0 hfz9_1 hfz9_2 hfz9_3 hfz9_4 hfz9_5
     obtain ⟨x55_2, rfl, HA, HK2, HO_8, HO_53, BK177, BK178, HB⟩ := hrel
     cases gk with
     | zero => exact absurd HA.out (by simp [ir_one.l0])
     | succ k2 =>
      have H := HA.out
      clear HA
      simp only [ir_one.l0] at H
      by_cases c29 : x55_2 < (y181.length : Int)
      ·rw [if_pos c29] at H
       have c29b0 := decide_eq_true c29
       clear c29
       by_cases c30 : 0 ≤ x55_2
       ·rw [if_pos c30] at H
        have c30b0 := decide_eq_true c30
        clear c30
        by_cases c31 : x55_2 < (y181.length : Int)
        ·rw [if_pos c31] at H
         have c31b0 := decide_eq_true c31
         clear c31
         by_cases c32 : x55_2 < (t179.size : Int)
         ·rw [if_pos c32] at H
          have c32b0 := decide_eq_true c32
          clear c32
          by_cases c34 : (bt t179 x55_2) = 32
          ·rw [if_pos c34] at H
           obtain ⟨c34b0, c34b1⟩ := qe c34; clear c34
           by_cases c35 : (rd y181 x55_2) = 0
           ·rw [if_pos c35] at H
            obtain ⟨c35b0, c35b1⟩ := qe c35; clear c35
            have H' := Aside0.mk H
            clear H
            have p184 : 0 ≤ (x55_2 : Int) := of_decide_eq_true qA
            have q184 : x55_2 < (y181.length : Int) := of_decide_eq_true qA
            obtain ⟨ad184, e184, hx184_0⟩ := Kd.at_int (Kd.R_reads' HO_53.out).2.2 x55_2 p184 q184
            cases e184
            replace p184 := eq_true p184
            replace q184 := eq_true q184
            have p33 : 0 ≤ (x55_2 : Int) := of_decide_eq_true qA
            have q33 : x55_2 < (t179.size : Int) := of_decide_eq_true qA
            have hx33 := bt_at t179 x55_2
            replace p33 := eq_true p33
            replace q33 := eq_true q33
            go_wp2
            go_roundg k2
            case measure => have := HJ4.out; have := HK2.out; omega
            case rel => exact ⟨(wrap64 (x55_2 + 1)), qT, H', ⟨by have := HJ4.out; have := HK2.out; omega⟩, ⟨qR HO_8.out⟩, ⟨qR HO_53.out⟩, ⟨qK BK177.out⟩, ⟨qK BK178.out⟩, ⟨qB⟩⟩
           ·rw [if_neg c35] at H
            obtain ⟨c35b0, c35b1⟩ := qn c35
            obtain rfl := Option.some.inj H
            have p184 : 0 ≤ (x55_2 : Int) := of_decide_eq_true qA
            have q184 : x55_2 < (y181.length : Int) := of_decide_eq_true qA
            obtain ⟨ad184, e184, hx184_0⟩ := Kd.at_int (Kd.R_reads' HO_53.out).2.2 x55_2 p184 q184
            cases e184
            replace p184 := eq_true p184
            replace q184 := eq_true q184
            have p33 : 0 ≤ (x55_2 : Int) := of_decide_eq_true qA
            have q33 : x55_2 < (t179.size : Int) := of_decide_eq_true qA
            have hx33 := bt_at t179 x55_2
            replace p33 := eq_true p33
            replace q33 := eq_true q33
            go_wp2
            go_ret
            exact ⟨qE, qB⟩
          ·rw [if_neg c34] at H
           obtain ⟨c34b0, c34b1⟩ := qn c34
           have H' := Aside0.mk H
           clear H
           have p184 : 0 ≤ (x55_2 : Int) := of_decide_eq_true qA
           have q184 : x55_2 < (y181.length : Int) := of_decide_eq_true qA
           obtain ⟨ad184, e184, hx184_0⟩ := Kd.at_int (Kd.R_reads' HO_53.out).2.2 x55_2 p184 q184
           cases e184
           replace p184 := eq_true p184
           replace q184 := eq_true q184
           have p33 : 0 ≤ (x55_2 : Int) := of_decide_eq_true qA
           have q33 : x55_2 < (t179.size : Int) := of_decide_eq_true qA
           have hx33 := bt_at t179 x55_2
           replace p33 := eq_true p33
           replace q33 := eq_true q33
           go_wp2
           go_roundg k2
           case measure => have := HJ4.out; have := HK2.out; omega
           case rel => exact ⟨(wrap64 (x55_2 + 1)), qT, H', ⟨by have := HJ4.out; have := HK2.out; omega⟩, ⟨qR HO_8.out⟩, ⟨qR HO_53.out⟩, ⟨qK BK177.out⟩, ⟨qK BK178.out⟩, ⟨qB⟩⟩
         ·rw [if_neg c32] at H
          exact absurd H (by simp)
        ·rw [if_neg c31] at H
         exact absurd H (by simp)
       ·rw [if_neg c30] at H
        exact absurd H (by simp)
      ·rw [if_neg c29] at H
       have c29b0 := decide_eq_false c29
       clear c29
       have H' := Aside0.mk H
       clear H
       go_wp2
       go_loopg [72] k2 (fun kq v72 w' => ∃ (x72_3 : Int), v72 = .int .i64 x72_3 ∧ Aside0 (ir_one.l1 kq t179 y181 y181 (y181.length : Int) x72_3 a0_0 a0_1 a0_2 l0_3 a1_0 a1_1 a1_2 a1_3 a1_4 l1_5 = some r) ∧ Aside0 (kq ≤ k2) ∧ Aside0 (Kd.R (Kd.int .i64) 3 w' w.heap.size (fun _ => True) (.slice Ao28 y181.length co28) y181) ∧ Aside0 (Kd.R (Kd.int .i64) 3 w' w.heap.size (fun _ => True) (.slice Ao28 y181.length co28) y181) ∧ Aside0 (w'.heap[gb177]? = some (.cells #[.string a0_0, .int .i64 a0_1, .int .i64 a0_2, (.slice A0_3 l0_3.length c0_3)] 34 (0, 0))) ∧ Aside0 (w'.heap[gb178]? = some (.cells #[.int .i64 a1_0, .int .i64 a1_1, .int .i64 a1_2, .int .i64 a1_3, .string a1_4, (.slice A1_5 l1_5.length c1_5)] 31 (0, 0))) ∧ Aside0 (Below w.heap.size w w'))
       case atStart => exact ⟨(0), qT, H', ⟨Nat.le_refl _⟩, ⟨qR HO_8.out⟩, ⟨qR HO_8.out⟩, ⟨qK BK177.out⟩, ⟨qK BK178.out⟩, ⟨qB⟩⟩
       case round =>
        clear H'
        try clear c1; try clear p1; try clear q1; try clear hx1; try clear c2; try clear p2; try clear c3; try clear p3; try clear q3; try clear hx3; try clear p6; try clear c7; try clear c8; try clear c10; try clear c10b0 c10b1; try clear c12; try clear c12b0 c12b1 c12b2; try clear c13; try clear c15; try clear c15b0 c15b1; try clear c16; try clear c18; try clear c18b0 c18b1; try clear p18; try clear q18; try clear hx18; try clear c19; try clear c21; try clear c23; try clear c24; try clear c29; try clear c29b0; try clear c30; try clear c30b0; try clear c31; try clear c31b0; try clear c32; try clear c32b0; try clear p33; try clear q33; try clear hx33; try clear c34; try clear c34b0 c34b1; try clear c35; try clear c35b0 c35b1; try clear hcz14_0 hcz14_1 hcz14_2 hcz14_3 hcz14_4 hcz14_5 hfz14_0 hfz14_1 hfz14_2 hfz14_3 hfz14_4 hfz14_5; try clear hcz17_0 hcz17_1 hcz17_2 hcz17_3 hcz17_4 hcz17_5 hfz17_0 hfz17_1 hfz17_2 hfz17_3 hfz17_4 hfz17_5; try clear hcz20_0 hcz20_1 hcz20_2 hcz20_3 hcz20_4 hcz20_5 hfz20_0 hfz20_1 hfz20_2 hfz20_3 hfz20_4 hfz20_5; try clear hcz22_0 hcz22_1 hcz22_2 hcz22_3 hcz22_4 hcz22_5 hfz22_0 hfz22_1 hfz22_2 hfz22_3 hfz22_4 hfz22_5; try clear hcz25_0 hcz25_1 hcz25_2 hcz25_3 hcz25_4 hcz25_5 hfz25_0 hfz25_1 hfz25_2 hfz25_3 hfz25_4 hfz25_5; try clear hcz9_0 hcz9_1 hcz9_2 hcz9_3 hcz9_4 hcz9_5 hfz9_0 hfz9_1 hfz9_2 hfz9_3 hfz9_4 hfz9_5; try clear hx184_0; try clear p184; try clear q184
        obtain ⟨x72_3, rfl, HA, HK3, HO_8, HO_70, BK177, BK178, HB⟩ := hrel
        cases gk with
        | zero => exact absurd HA.out (by simp [ir_one.l1])
        | succ k3 =>
         have H := HA.out
         clear HA
         simp only [ir_one.l1] at H
         by_cases c36 : x72_3 < (y181.length : Int)
         ·rw [if_pos c36] at H
          have c36b0 := decide_eq_true c36
          clear c36
          by_cases c37 : 0 ≤ x72_3
          ·rw [if_pos c37] at H
           have c37b0 := decide_eq_true c37
           clear c37
           by_cases c38 : x72_3 < (y181.length : Int)
           ·rw [if_pos c38] at H
            have c38b0 := decide_eq_true c38
            clear c38
            by_cases c39 : x72_3 < (t179.size : Int)
            ·rw [if_pos c39] at H
             have c39b0 := decide_eq_true c39
             clear c39
             by_cases c41 : (bt t179 x72_3) = 114
             ·rw [if_pos c41] at H
              obtain ⟨c41b0, c41b1⟩ := qe c41; clear c41
              replace H := qb H; obtain ⟨t186, A42, H⟩ := H
              by_cases c43 : t186 = true
              ·subst c43
               have H1 : (some 73) = some r := by rw [if_pos rfl] at H; exact H
               clear H
               have H := H1
               clear H1
               obtain rfl := Option.some.inj H
               have p185 : 0 ≤ (x72_3 : Int) := of_decide_eq_true qA
               have q185 : x72_3 < (y181.length : Int) := of_decide_eq_true qA
               obtain ⟨ad185, e185, hx185_0⟩ := Kd.at_int (Kd.R_reads' HO_70.out).2.2 x72_3 p185 q185
               cases e185
               replace p185 := eq_true p185
               replace q185 := eq_true q185
               have p40 : 0 ≤ (x72_3 : Int) := of_decide_eq_true qA
               have q40 : x72_3 < (t179.size : Int) := of_decide_eq_true qA
               have hx40 := bt_at t179 x72_3
               replace p40 := eq_true p40
               replace q40 := eq_true q40
               have hnb44 := NB177_178.out
               have hnc44 := NB178_177.out
               obtain ⟨hcz45_0, hcz45_1, hcz45_2, hcz45_3, hfz45_0, hfz45_1, hfz45_2, hfz45_3⟩ := bk4 BK177.out
               go_wp2_with (first | (go_at_call 89; (refine (ir_one_1.calls (rd y181 x72_3) a0_0 a0_1 a0_2 (A0_3) (c0_3) l0_3 true _ ?side1 ?side2 A42.out (hbk := ?side98) (gb_ := gb177)).mono ?_); (case side1 => repeat (first | exact (Kd.C_below HR0_3.out HB.out) | (refine Kd.C_alloc ?_ _) | (refine Kd.C_drewN ?_ _) | (refine Kd.C_drew ?_))); (case side2 => exact HC0_3.out); (case side98 => exact qK BK177.out); (try clear A42); rintro e w46 ⟨rfl, hb⟩; replace HO_8 := Aside0.mk (Kd.R_below (qR HO_8.out) hb); replace HO_70 := Aside0.mk (Kd.R_below (qR HO_70.out) hb); replace BK177 := qW BK177 hb; replace BK178 := qW BK178 hb; replace HB := qH hb; (try clear hb)))
               go_ret
               exact ⟨qE, qB⟩
              ·replace c43 := Bool.eq_false_iff.mpr c43
               subst c43
               have H1 : (ir_one.l1 k3 t179 y181 y181 (y181.length : Int) (wrap64 (x72_3 + 1)) a0_0 a0_1 a0_2 l0_3 a1_0 a1_1 a1_2 a1_3 a1_4 l1_5) = some r := by rw [if_neg (show ¬ (false = true) by decide)] at H; exact H
               clear H
               have H := H1
               clear H1
               have H' := Aside0.mk H
               clear H
               have p185 : 0 ≤ (x72_3 : Int) := of_decide_eq_true qA
               have q185 : x72_3 < (y181.length : Int) := of_decide_eq_true qA
               obtain ⟨ad185, e185, hx185_0⟩ := Kd.at_int (Kd.R_reads' HO_70.out).2.2 x72_3 p185 q185
               cases e185
               replace p185 := eq_true p185
               replace q185 := eq_true q185
               have p40 : 0 ≤ (x72_3 : Int) := of_decide_eq_true qA
               have q40 : x72_3 < (t179.size : Int) := of_decide_eq_true qA
               have hx40 := bt_at t179 x72_3
               replace p40 := eq_true p40
               replace q40 := eq_true q40
               have hnb47 := NB177_178.out
               have hnc47 := NB178_177.out
               obtain ⟨hcz48_0, hcz48_1, hcz48_2, hcz48_3, hfz48_0, hfz48_1, hfz48_2, hfz48_3⟩ := bk4 BK177.out
               go_wp2_with (first | (go_at_call 89; (refine (ir_one_1.calls (rd y181 x72_3) a0_0 a0_1 a0_2 (A0_3) (c0_3) l0_3 false _ ?side1 ?side2 A42.out (hbk := ?side98) (gb_ := gb177)).mono ?_); (case side1 => repeat (first | exact (Kd.C_below HR0_3.out HB.out) | (refine Kd.C_alloc ?_ _) | (refine Kd.C_drewN ?_ _) | (refine Kd.C_drew ?_))); (case side2 => exact HC0_3.out); (case side98 => exact qK BK177.out); (try clear A42); rintro e w49 ⟨rfl, hb⟩; replace HO_8 := Aside0.mk (Kd.R_below (qR HO_8.out) hb); replace HO_70 := Aside0.mk (Kd.R_below (qR HO_70.out) hb); replace BK177 := qW BK177 hb; replace BK178 := qW BK178 hb; replace HB := qH hb; (try clear hb)))
               go_roundg k3
               case measure => have := HJ4.out; have := HK2.out; have := HK3.out; omega
               case rel => exact ⟨(wrap64 (x72_3 + 1)), qT, H', ⟨by have := HJ4.out; have := HK2.out; have := HK3.out; omega⟩, ⟨qR HO_8.out⟩, ⟨qR HO_70.out⟩, ⟨qK BK177.out⟩, ⟨qK BK178.out⟩, ⟨qB⟩⟩
             ·rw [if_neg c41] at H
              obtain ⟨c41b0, c41b1⟩ := qn c41
              have H' := Aside0.mk H
              clear H
              have p185 : 0 ≤ (x72_3 : Int) := of_decide_eq_true qA
              have q185 : x72_3 < (y181.length : Int) := of_decide_eq_true qA
              obtain ⟨ad185, e185, hx185_0⟩ := Kd.at_int (Kd.R_reads' HO_70.out).2.2 x72_3 p185 q185
              cases e185
              replace p185 := eq_true p185
              replace q185 := eq_true q185
              have p40 : 0 ≤ (x72_3 : Int) := of_decide_eq_true qA
              have q40 : x72_3 < (t179.size : Int) := of_decide_eq_true qA
              have hx40 := bt_at t179 x72_3
              replace p40 := eq_true p40
              replace q40 := eq_true q40
              go_wp2
              go_roundg k3
              case measure => have := HJ4.out; have := HK2.out; have := HK3.out; omega
              case rel => exact ⟨(wrap64 (x72_3 + 1)), qT, H', ⟨by have := HJ4.out; have := HK2.out; have := HK3.out; omega⟩, ⟨qR HO_8.out⟩, ⟨qR HO_70.out⟩, ⟨qK BK177.out⟩, ⟨qK BK178.out⟩, ⟨qB⟩⟩
            ·rw [if_neg c39] at H
             exact absurd H (by simp)
           ·rw [if_neg c38] at H
            exact absurd H (by simp)
          ·rw [if_neg c37] at H
           exact absurd H (by simp)
         ·rw [if_neg c36] at H
          have c36b0 := decide_eq_false c36
          clear c36
          replace H := qb H; obtain ⟨t187, A50, H⟩ := H
          by_cases c51 : t187 = true
          ·subst c51
           have H1 : (some 73) = some r := by rw [if_pos rfl] at H; exact H
           clear H
           have H := H1
           clear H1
           obtain rfl := Option.some.inj H
           have hnb52 := NB178_177.out
           have hnc52 := NB177_178.out
           obtain ⟨hcz53_0, hcz53_1, hcz53_2, hcz53_3, hcz53_4, hcz53_5, hfz53_0, hfz53_1, hfz53_2, hfz53_3, hfz53_4, hfz53_5⟩ := bk6 BK178.out
           obtain ⟨hcz54_0, hcz54_1, hcz54_2, hcz54_3, hfz54_0, hfz54_1, hfz54_2, hfz54_3⟩ := bk4 BK177.out
           go_wp2_with (first | ((with_reducible refine gate_callee (f := 90) rfl ?_); refine goesL_ (some 90) rfl rfl Tryd.func90 (by kernel_rfl) rfl #[.slice A1_5 l1_5.length c1_5, .func (.func 89) #[] #[.pointer (some ⟨gb177, 0, none⟩)]] rfl qL ?_; (refine (slices_ContainsFunc_int_int.calls (A1_5) (c1_5) l1_5 a0_0 a0_1 a0_2 (A0_3) (c0_3) l0_3 true _ ?side1 ?side2 ?side3 ?side4 A50.out (hbk := ?side98) (gb_ := gb177)).mono ?_); (case side1 => repeat (first | exact (Kd.C_below HR1_5.out HB.out) | (refine Kd.C_alloc ?_ _) | (refine Kd.C_drewN ?_ _) | (refine Kd.C_drew ?_))); (case side2 => exact HC1_5.out); (case side3 => repeat (first | exact (Kd.C_below HR0_3.out HB.out) | (refine Kd.C_alloc ?_ _) | (refine Kd.C_drewN ?_ _) | (refine Kd.C_drew ?_))); (case side4 => exact HC0_3.out); (case side98 => exact qK BK177.out); rintro e w55 ⟨rfl, hb⟩; refine ⟨_, rfl, ?_⟩; replace HO_8 := Aside0.mk (Kd.R_below (qR HO_8.out) hb); replace HO_70 := Aside0.mk (Kd.R_below (qR HO_70.out) hb); replace BK177 := qW BK177 hb; replace BK178 := qW BK178 hb; replace HB := qH hb; (try clear hb)))
           go_ret
           exact ⟨qE, qB⟩
          ·replace c51 := Bool.eq_false_iff.mpr c51
           subst c51
           have H1 : (ir_one.l2 k3 t179 y181 (y181.length : Int) 0 a0_0 a0_1 a0_2 l0_3 a1_0 a1_1 a1_2 a1_3 a1_4 l1_5) = some r := by rw [if_neg (show ¬ (false = true) by decide)] at H; exact H
           clear H
           have H := H1
           clear H1
           have H' := Aside0.mk H
           clear H
           have hnb56 := NB178_177.out
           have hnc56 := NB177_178.out
           obtain ⟨hcz57_0, hcz57_1, hcz57_2, hcz57_3, hcz57_4, hcz57_5, hfz57_0, hfz57_1, hfz57_2, hfz57_3, hfz57_4, hfz57_5⟩ := bk6 BK178.out
           obtain ⟨hcz58_0, hcz58_1, hcz58_2, hcz58_3, hfz58_0, hfz58_1, hfz58_2, hfz58_3⟩ := bk4 BK177.out
           go_wp2_with (first | ((with_reducible refine gate_callee (f := 90) rfl ?_); refine goesL_ (some 90) rfl rfl Tryd.func90 (by kernel_rfl) rfl #[.slice A1_5 l1_5.length c1_5, .func (.func 89) #[] #[.pointer (some ⟨gb177, 0, none⟩)]] rfl qL ?_; (refine (slices_ContainsFunc_int_int.calls (A1_5) (c1_5) l1_5 a0_0 a0_1 a0_2 (A0_3) (c0_3) l0_3 false _ ?side1 ?side2 ?side3 ?side4 A50.out (hbk := ?side98) (gb_ := gb177)).mono ?_); (case side1 => repeat (first | exact (Kd.C_below HR1_5.out HB.out) | (refine Kd.C_alloc ?_ _) | (refine Kd.C_drewN ?_ _) | (refine Kd.C_drew ?_))); (case side2 => exact HC1_5.out); (case side3 => repeat (first | exact (Kd.C_below HR0_3.out HB.out) | (refine Kd.C_alloc ?_ _) | (refine Kd.C_drewN ?_ _) | (refine Kd.C_drew ?_))); (case side4 => exact HC0_3.out); (case side98 => exact qK BK177.out); rintro e w59 ⟨rfl, hb⟩; refine ⟨_, rfl, ?_⟩; replace HO_8 := Aside0.mk (Kd.R_below (qR HO_8.out) hb); replace HO_70 := Aside0.mk (Kd.R_below (qR HO_70.out) hb); replace BK177 := qW BK177 hb; replace BK178 := qW BK178 hb; replace HB := qH hb; (try clear hb)))
           go_loopg [93] k3 (fun kq v93 w' => ∃ (x93_4 : Int), v93 = .int .i64 x93_4 ∧ Aside0 (ir_one.l2 kq t179 y181 (y181.length : Int) x93_4 a0_0 a0_1 a0_2 l0_3 a1_0 a1_1 a1_2 a1_3 a1_4 l1_5 = some r) ∧ Aside0 (kq ≤ k3) ∧ Aside0 (Kd.R (Kd.int .i64) 3 w' w.heap.size (fun _ => True) (.slice Ao28 y181.length co28) y181) ∧ Aside0 (w'.heap[gb177]? = some (.cells #[.string a0_0, .int .i64 a0_1, .int .i64 a0_2, (.slice A0_3 l0_3.length c0_3)] 34 (0, 0))) ∧ Aside0 (w'.heap[gb178]? = some (.cells #[.int .i64 a1_0, .int .i64 a1_1, .int .i64 a1_2, .int .i64 a1_3, .string a1_4, (.slice A1_5 l1_5.length c1_5)] 31 (0, 0))) ∧ Aside0 (Below w.heap.size w w'))
           case atStart => exact ⟨(0), qT, H', ⟨Nat.le_refl _⟩, ⟨qR HO_8.out⟩, ⟨qK BK177.out⟩, ⟨qK BK178.out⟩, ⟨qB⟩⟩
           case round =>
            clear H'
            try clear c1; try clear p1; try clear q1; try clear hx1; try clear c2; try clear p2; try clear c3; try clear p3; try clear q3; try clear hx3; try clear c4; try clear p4; try clear q4; try clear hx4; try clear c5; try clear p6; try clear c7; try clear c8; try clear c9; try clear c10; try clear c10b0 c10b1; try clear c12; try clear c12b0 c12b1 c12b2; try clear c13; try clear c15; try clear c15b0 c15b1; try clear c16; try clear c18; try clear c18b0 c18b1; try clear p18; try clear q18; try clear hx18; try clear c19; try clear c21; try clear c23; try clear c24; try clear c29; try clear c29b0; try clear c30; try clear c30b0; try clear c31; try clear c31b0; try clear c32; try clear c32b0; try clear p33; try clear q33; try clear hx33; try clear c34; try clear c34b0 c34b1; try clear c35; try clear c35b0 c35b1; try clear c36; try clear c36b0; try clear c37; try clear c37b0; try clear c38; try clear c38b0; try clear c39; try clear c39b0; try clear p40; try clear q40; try clear hx40; try clear c41; try clear c41b0 c41b1; try clear c43; try clear c44; try clear c47; try clear c51; try clear c52; try clear c56; try clear hcz14_0 hcz14_1 hcz14_2 hcz14_3 hcz14_4 hcz14_5 hfz14_0 hfz14_1 hfz14_2 hfz14_3 hfz14_4 hfz14_5; try clear hcz17_0 hcz17_1 hcz17_2 hcz17_3 hcz17_4 hcz17_5 hfz17_0 hfz17_1 hfz17_2 hfz17_3 hfz17_4 hfz17_5; try clear hcz20_0 hcz20_1 hcz20_2 hcz20_3 hcz20_4 hcz20_5 hfz20_0 hfz20_1 hfz20_2 hfz20_3 hfz20_4 hfz20_5; try clear hcz22_0 hcz22_1 hcz22_2 hcz22_3 hcz22_4 hcz22_5 hfz22_0 hfz22_1 hfz22_2 hfz22_3 hfz22_4 hfz22_5; try clear hcz25_0 hcz25_1 hcz25_2 hcz25_3 hcz25_4 hcz25_5 hfz25_0 hfz25_1 hfz25_2 hfz25_3 hfz25_4 hfz25_5; try clear hcz45_0 hcz45_1 hcz45_2 hcz45_3 hfz45_0 hfz45_1 hfz45_2 hfz45_3; try clear hcz48_0 hcz48_1 hcz48_2 hcz48_3 hfz48_0 hfz48_1 hfz48_2 hfz48_3; try clear hcz53_0 hcz53_1 hcz53_2 hcz53_3 hcz53_4 hcz53_5 hfz53_0 hfz53_1 hfz53_2 hfz53_3 hfz53_4 hfz53_5; try clear hcz54_0 hcz54_1 hcz54_2 hcz54_3 hfz54_0 hfz54_1 hfz54_2 hfz54_3; try clear hcz57_0 hcz57_1 hcz57_2 hcz57_3 hcz57_4 hcz57_5 hfz57_0 hfz57_1 hfz57_2 hfz57_3 hfz57_4 hfz57_5; try clear hcz58_0 hcz58_1 hcz58_2 hcz58_3 hfz58_0 hfz58_1 hfz58_2 hfz58_3; try clear hcz9_0 hcz9_1 hcz9_2 hcz9_3 hcz9_4 hcz9_5 hfz9_0 hfz9_1 hfz9_2 hfz9_3 hfz9_4 hfz9_5; try clear hx184_0; try clear hx185_0; try clear p184; try clear p185; try clear q184; try clear q185
            obtain ⟨x93_4, rfl, HA, HK4, HO_91, BK177, BK178, HB⟩ := hrel
            cases gk with
            | zero => exact absurd HA.out (by simp [ir_one.l2])
            | succ k4 =>
             have H := HA.out
             clear HA
             simp only [ir_one.l2] at H
             by_cases c60 : x93_4 < (y181.length : Int)
             ·rw [if_pos c60] at H
              have c60b0 := decide_eq_true c60
              clear c60
              by_cases c61 : 0 ≤ x93_4
              ·rw [if_pos c61] at H
               have c61b0 := decide_eq_true c61
               clear c61
               by_cases c62 : x93_4 < (y181.length : Int)
               ·rw [if_pos c62] at H
                have c62b0 := decide_eq_true c62
                clear c62
                by_cases c63 : x93_4 < (t179.size : Int)
                ·rw [if_pos c63] at H
                 have c63b0 := decide_eq_true c63
                 clear c63
                 by_cases c65 : (bt t179 x93_4) = 110
                 ·rw [if_pos c65] at H
                  obtain ⟨c65b0, c65b1⟩ := qe c65; clear c65
                  by_cases c66 : (rd y181 x93_4) < 0
                  ·rw [if_pos c66] at H
                   have c66b0 := decide_eq_true c66
                   clear c66
                   obtain rfl := Option.some.inj H
                   have p188 : 0 ≤ (x93_4 : Int) := of_decide_eq_true qA
                   have q188 : x93_4 < (y181.length : Int) := of_decide_eq_true qA
                   obtain ⟨ad188, e188, hx188_0⟩ := Kd.at_int (Kd.R_reads' HO_91.out).2.2 x93_4 p188 q188
                   cases e188
                   replace p188 := eq_true p188
                   replace q188 := eq_true q188
                   have p64 : 0 ≤ (x93_4 : Int) := of_decide_eq_true qA
                   have q64 : x93_4 < (t179.size : Int) := of_decide_eq_true qA
                   have hx64 := bt_at t179 x93_4
                   replace p64 := eq_true p64
                   replace q64 := eq_true q64
                   go_wp2
                   go_ret
                   exact ⟨qE, qB⟩
                  ·rw [if_neg c66] at H
                   have c66b0 := decide_eq_false c66
                   clear c66
                   by_cases c67 : (rd y181 x93_4) ≥ 65536
                   ·rw [if_pos c67] at H
                    have c67b0 : decide (65536 ≤ (rd y181 x93_4)) = true := decide_eq_true c67
                    clear c67
                    obtain rfl := Option.some.inj H
                    have p188 : 0 ≤ (x93_4 : Int) := of_decide_eq_true qA
                    have q188 : x93_4 < (y181.length : Int) := of_decide_eq_true qA
                    obtain ⟨ad188, e188, hx188_0⟩ := Kd.at_int (Kd.R_reads' HO_91.out).2.2 x93_4 p188 q188
                    cases e188
                    replace p188 := eq_true p188
                    replace q188 := eq_true q188
                    have p64 : 0 ≤ (x93_4 : Int) := of_decide_eq_true qA
                    have q64 : x93_4 < (t179.size : Int) := of_decide_eq_true qA
                    have hx64 := bt_at t179 x93_4
                    replace p64 := eq_true p64
                    replace q64 := eq_true q64
                    go_wp2
                    go_ret
                    exact ⟨qE, qB⟩
                   ·rw [if_neg c67] at H
                    have c67b0 : decide (65536 ≤ (rd y181 x93_4)) = false := decide_eq_false c67
                    clear c67
                    have H' := Aside0.mk H
                    clear H
                    have p188 : 0 ≤ (x93_4 : Int) := of_decide_eq_true qA
                    have q188 : x93_4 < (y181.length : Int) := of_decide_eq_true qA
                    obtain ⟨ad188, e188, hx188_0⟩ := Kd.at_int (Kd.R_reads' HO_91.out).2.2 x93_4 p188 q188
                    cases e188
                    replace p188 := eq_true p188
                    replace q188 := eq_true q188
                    have p64 : 0 ≤ (x93_4 : Int) := of_decide_eq_true qA
                    have q64 : x93_4 < (t179.size : Int) := of_decide_eq_true qA
                    have hx64 := bt_at t179 x93_4
                    replace p64 := eq_true p64
                    replace q64 := eq_true q64
                    go_wp2
                    go_roundg k4
                    case measure => have := HJ4.out; have := HK2.out; have := HK3.out; have := HK4.out; omega
                    case rel => exact ⟨(wrap64 (x93_4 + 1)), qT, H', ⟨by have := HJ4.out; have := HK2.out; have := HK3.out; have := HK4.out; omega⟩, ⟨qR HO_91.out⟩, ⟨qK BK177.out⟩, ⟨qK BK178.out⟩, ⟨qB⟩⟩
                 ·rw [if_neg c65] at H
                  obtain ⟨c65b0, c65b1⟩ := qn c65
                  have H' := Aside0.mk H
                  clear H
                  have p188 : 0 ≤ (x93_4 : Int) := of_decide_eq_true qA
                  have q188 : x93_4 < (y181.length : Int) := of_decide_eq_true qA
                  obtain ⟨ad188, e188, hx188_0⟩ := Kd.at_int (Kd.R_reads' HO_91.out).2.2 x93_4 p188 q188
                  cases e188
                  replace p188 := eq_true p188
                  replace q188 := eq_true q188
                  have p64 : 0 ≤ (x93_4 : Int) := of_decide_eq_true qA
                  have q64 : x93_4 < (t179.size : Int) := of_decide_eq_true qA
                  have hx64 := bt_at t179 x93_4
                  replace p64 := eq_true p64
                  replace q64 := eq_true q64
                  go_wp2
                  go_roundg k4
                  case measure => have := HJ4.out; have := HK2.out; have := HK3.out; have := HK4.out; omega
                  case rel => exact ⟨(wrap64 (x93_4 + 1)), qT, H', ⟨by have := HJ4.out; have := HK2.out; have := HK3.out; have := HK4.out; omega⟩, ⟨qR HO_91.out⟩, ⟨qK BK177.out⟩, ⟨qK BK178.out⟩, ⟨qB⟩⟩
                ·rw [if_neg c63] at H
                 exact absurd H (by simp)
               ·rw [if_neg c62] at H
                exact absurd H (by simp)
              ·rw [if_neg c61] at H
               exact absurd H (by simp)
             ·rw [if_neg c60] at H
              have c60b0 := decide_eq_false c60
              clear c60
              replace H := qb H; obtain ⟨t189, A68, H⟩ := H
              have H' := Aside0.mk H
              clear H
              have hnb69 := NB178_177.out
              have hnc69 := NB177_178.out
              obtain ⟨hcz70_0, hcz70_1, hcz70_2, hcz70_3, hcz70_4, hcz70_5, hfz70_0, hfz70_1, hfz70_2, hfz70_3, hfz70_4, hfz70_5⟩ := bk6 BK178.out
              go_wp2_with (first | ((with_reducible refine gate_callee (f := 91) rfl ?_); refine goesL_ (some 112) rfl rfl Tryd.func91 (by kernel_rfl) rfl #[.agg #[.int .i64 a1_0, .int .i64 a1_1, .int .i64 a1_2, .int .i64 a1_3, .string a1_4, .slice A1_5 l1_5.length c1_5]] rfl qL ?_; (with_reducible refine (ir_Targets.calls a1_0 a1_1 a1_2 a1_3 a1_4 _ _ l1_5 t189 _ ?side1 ?side2 A68.out).mono ?_); (case side1 => exact qCB HR1_5.out); (case side2 => exact HC1_5.out); rintro e w71 ⟨v190, rfl, ho0, hb⟩; refine ⟨_, rfl, ?_⟩; have HO191 := Aside0.mk (Kd.R_lower (Kd.R_new' ho0 (Kd.R_lt (qR HO_91.out))) (below_size qB)); replace HO_91 := Aside0.mk (Kd.R_elder' (qR HO_91.out) (Kd.R_base ho0) hb); replace BK177 := qW BK177 hb; replace BK178 := qW BK178 hb; replace HB := qH hb; (try clear hb); (try clear ho0); obtain ⟨Ao72, co72, eo72⟩ := Kd.R_slice HO191.out; subst eo72))
              go_loopg [114] k4 (fun kq v114 w' => ∃ (x114_5 : Int), v114 = .int .i64 x114_5 ∧ Aside0 (ir_one.l3 kq t189 (t189.length : Int) x114_5 a0_0 a0_1 a0_2 l0_3 a1_0 a1_1 a1_2 a1_3 a1_4 l1_5 = some r) ∧ Aside0 (kq ≤ k4) ∧ Aside0 (Kd.R (Kd.int .i64) 3 w' w.heap.size (fun _ => True) (.slice Ao72 t189.length co72) t189) ∧ Aside0 (w'.heap[gb177]? = some (.cells #[.string a0_0, .int .i64 a0_1, .int .i64 a0_2, (.slice A0_3 l0_3.length c0_3)] 34 (0, 0))) ∧ Aside0 (w'.heap[gb178]? = some (.cells #[.int .i64 a1_0, .int .i64 a1_1, .int .i64 a1_2, .int .i64 a1_3, .string a1_4, (.slice A1_5 l1_5.length c1_5)] 31 (0, 0))) ∧ Aside0 (Below w.heap.size w w'))
              case atStart => exact ⟨(0), qT, H', ⟨Nat.le_refl _⟩, ⟨by (with_reducible repeat (first | apply Kd.R_alloc | apply Kd.R_drewN | apply Kd.R_drew)); exact Kd.R_mono HO191.out (fun _ hk => trivial)⟩, ⟨qK BK177.out⟩, ⟨qK BK178.out⟩, ⟨qB⟩⟩
              case round =>
               clear H'
               try clear c1; try clear p1; try clear q1; try clear hx1; try clear c2; try clear p2; try clear c3; try clear p3; try clear q3; try clear hx3; try clear c4; try clear p4; try clear q4; try clear hx4; try clear c5; try clear c6; try clear p6; try clear q6; try clear hx6; try clear c7; try clear c8; try clear c9; try clear c10; try clear c10b0 c10b1; try clear c12; try clear c12b0 c12b1 c12b2; try clear c13; try clear c15; try clear c15b0 c15b1; try clear c16; try clear c18; try clear c18b0 c18b1; try clear p18; try clear q18; try clear hx18; try clear c19; try clear c21; try clear c23; try clear c24; try clear c29; try clear c29b0; try clear c30; try clear c30b0; try clear c31; try clear c31b0; try clear c32; try clear c32b0; try clear p33; try clear q33; try clear hx33; try clear c34; try clear c34b0 c34b1; try clear c35; try clear c35b0 c35b1; try clear c36; try clear c36b0; try clear c37; try clear c37b0; try clear c38; try clear c38b0; try clear c39; try clear c39b0; try clear p40; try clear q40; try clear hx40; try clear c41; try clear c41b0 c41b1; try clear c43; try clear c44; try clear c47; try clear c51; try clear c52; try clear c56; try clear c60; try clear c60b0; try clear c61; try clear c61b0; try clear c62; try clear c62b0; try clear c63; try clear c63b0; try clear p64; try clear q64; try clear hx64; try clear c65; try clear c65b0 c65b1; try clear c66; try clear c66b0; try clear c67; try clear c67b0; try clear c69; try clear hcz14_0 hcz14_1 hcz14_2 hcz14_3 hcz14_4 hcz14_5 hfz14_0 hfz14_1 hfz14_2 hfz14_3 hfz14_4 hfz14_5; try clear hcz17_0 hcz17_1 hcz17_2 hcz17_3 hcz17_4 hcz17_5 hfz17_0 hfz17_1 hfz17_2 hfz17_3 hfz17_4 hfz17_5; try clear hcz20_0 hcz20_1 hcz20_2 hcz20_3 hcz20_4 hcz20_5 hfz20_0 hfz20_1 hfz20_2 hfz20_3 hfz20_4 hfz20_5; try clear hcz22_0 hcz22_1 hcz22_2 hcz22_3 hcz22_4 hcz22_5 hfz22_0 hfz22_1 hfz22_2 hfz22_3 hfz22_4 hfz22_5; try clear hcz25_0 hcz25_1 hcz25_2 hcz25_3 hcz25_4 hcz25_5 hfz25_0 hfz25_1 hfz25_2 hfz25_3 hfz25_4 hfz25_5; try clear hcz45_0 hcz45_1 hcz45_2 hcz45_3 hfz45_0 hfz45_1 hfz45_2 hfz45_3; try clear hcz48_0 hcz48_1 hcz48_2 hcz48_3 hfz48_0 hfz48_1 hfz48_2 hfz48_3; try clear hcz53_0 hcz53_1 hcz53_2 hcz53_3 hcz53_4 hcz53_5 hfz53_0 hfz53_1 hfz53_2 hfz53_3 hfz53_4 hfz53_5; try clear hcz54_0 hcz54_1 hcz54_2 hcz54_3 hfz54_0 hfz54_1 hfz54_2 hfz54_3; try clear hcz57_0 hcz57_1 hcz57_2 hcz57_3 hcz57_4 hcz57_5 hfz57_0 hfz57_1 hfz57_2 hfz57_3 hfz57_4 hfz57_5; try clear hcz58_0 hcz58_1 hcz58_2 hcz58_3 hfz58_0 hfz58_1 hfz58_2 hfz58_3; try clear hcz70_0 hcz70_1 hcz70_2 hcz70_3 hcz70_4 hcz70_5 hfz70_0 hfz70_1 hfz70_2 hfz70_3 hfz70_4 hfz70_5; try clear hcz9_0 hcz9_1 hcz9_2 hcz9_3 hcz9_4 hcz9_5 hfz9_0 hfz9_1 hfz9_2 hfz9_3 hfz9_4 hfz9_5; try clear hx184_0; try clear hx185_0; try clear hx188_0; try clear p184; try clear p185; try clear p188; try clear q184; try clear q185; try clear q188
               obtain ⟨x114_5, rfl, HA, HK5, HO_112, BK177, BK178, HB⟩ := hrel
               cases gk with
               | zero => exact absurd HA.out (by simp [ir_one.l3])
               | succ k5 =>
                have H := HA.out
                clear HA
                simp only [ir_one.l3] at H
                by_cases c73 : x114_5 < (t189.length : Int)
                ·rw [if_pos c73] at H
                 have c73b0 := decide_eq_true c73
                 clear c73
                 by_cases c74 : 0 ≤ x114_5
                 ·rw [if_pos c74] at H
                  have c74b0 := decide_eq_true c74
                  clear c74
                  by_cases c75 : x114_5 < (t189.length : Int)
                  ·rw [if_pos c75] at H
                   have c75b0 := decide_eq_true c75
                   clear c75
                   by_cases c76 : (rd t189 x114_5) < 0
                   ·rw [if_pos c76] at H
                    have c76b0 := decide_eq_true c76
                    clear c76
                    obtain rfl := Option.some.inj H
                    have p192 : 0 ≤ (x114_5 : Int) := of_decide_eq_true qA
                    have q192 : x114_5 < (t189.length : Int) := of_decide_eq_true qA
                    obtain ⟨ad192, e192, hx192_0⟩ := Kd.at_int (Kd.R_reads' HO_112.out).2.2 x114_5 p192 q192
                    cases e192
                    replace p192 := eq_true p192
                    replace q192 := eq_true q192
                    go_wp2
                    go_ret
                    exact ⟨qE, qB⟩
                   ·rw [if_neg c76] at H
                    have c76b0 := decide_eq_false c76
                    clear c76
                    by_cases c77 : (rd t189 x114_5) ≥ (l0_3.length : Int)
                    ·rw [if_pos c77] at H
                     have c77b0 : decide ((l0_3.length : Int) ≤ (rd t189 x114_5)) = true := decide_eq_true c77
                     clear c77
                     obtain rfl := Option.some.inj H
                     have p192 : 0 ≤ (x114_5 : Int) := of_decide_eq_true qA
                     have q192 : x114_5 < (t189.length : Int) := of_decide_eq_true qA
                     obtain ⟨ad192, e192, hx192_0⟩ := Kd.at_int (Kd.R_reads' HO_112.out).2.2 x114_5 p192 q192
                     cases e192
                     replace p192 := eq_true p192
                     replace q192 := eq_true q192
                     have hnb78 := NB177_178.out
                     have hnc78 := NB178_177.out
                     obtain ⟨hcz79_0, hcz79_1, hcz79_2, hcz79_3, hfz79_0, hfz79_1, hfz79_2, hfz79_3⟩ := bk4 BK177.out
                     go_wp2
                     go_ret
                     exact ⟨qE, qB⟩
                    ·rw [if_neg c77] at H
                     have c77b0 : decide ((l0_3.length : Int) ≤ (rd t189 x114_5)) = false := decide_eq_false c77
                     clear c77
                     have H' := Aside0.mk H
                     clear H
                     have p192 : 0 ≤ (x114_5 : Int) := of_decide_eq_true qA
                     have q192 : x114_5 < (t189.length : Int) := of_decide_eq_true qA
                     obtain ⟨ad192, e192, hx192_0⟩ := Kd.at_int (Kd.R_reads' HO_112.out).2.2 x114_5 p192 q192
                     cases e192
                     replace p192 := eq_true p192
                     replace q192 := eq_true q192
                     have hnb80 := NB177_178.out
                     have hnc80 := NB178_177.out
                     obtain ⟨hcz81_0, hcz81_1, hcz81_2, hcz81_3, hfz81_0, hfz81_1, hfz81_2, hfz81_3⟩ := bk4 BK177.out
                     go_wp2
                     go_roundg k5
                     case measure => have := HJ4.out; have := HK2.out; have := HK3.out; have := HK4.out; have := HK5.out; omega
                     case rel => exact ⟨(wrap64 (x114_5 + 1)), qT, H', ⟨by have := HJ4.out; have := HK2.out; have := HK3.out; have := HK4.out; have := HK5.out; omega⟩, ⟨qR HO_112.out⟩, ⟨qK BK177.out⟩, ⟨qK BK178.out⟩, ⟨qB⟩⟩
                  ·rw [if_neg c75] at H
                   exact absurd H (by simp)
                 ·rw [if_neg c74] at H
                  exact absurd H (by simp)
                ·rw [if_neg c73] at H
                 have c73b0 := decide_eq_false c73
                 clear c73
                 have HC82 := Aside0.mk H
                 clear H
                 go_upto_region 32 with (fail)
                 go_cut [128] (fun v128 wc => ∃ (kq : Nat) (x128_81 : Bool), v128 = .bool x128_81 ∧ Aside0 (ir_one.j5 kq x128_81 a1_0 a1_1 a1_2 a1_3 a1_4 l1_5 = some r) ∧ Aside0 (kq ≤ k5) ∧ Aside0 (wc.heap[gb177]? = some (.cells #[.string a0_0, .int .i64 a0_1, .int .i64 a0_2, (.slice A0_3 l0_3.length c0_3)] 34 (0, 0))) ∧ Aside0 (wc.heap[gb178]? = some (.cells #[.int .i64 a1_0, .int .i64 a1_1, .int .i64 a1_2, .int .i64 a1_3, .string a1_4, (.slice A1_5 l1_5.length c1_5)] 31 (0, 0))) ∧ Aside0 (Below w.heap.size w wc))
                 case first =>
                  have H := HC82.out
                  clear HC82
                  by_cases c83 : a1_0 = 11
                  ·rw [if_pos c83] at H
                   obtain ⟨c83b0, c83b1⟩ := qe c83; clear c83
                   (first | rw [c83b0] | (simp only [i64_w, i32_w]; rw [c83b0]) | skip)
                   replace H := qb H; obtain ⟨t193, A84, H⟩ := H
                   have H' := Aside0.mk H
                   clear H
                   have hnb85 := NB178_177.out
                   have hnc85 := NB177_178.out
                   obtain ⟨hcz86_0, hcz86_1, hcz86_2, hcz86_3, hcz86_4, hcz86_5, hfz86_0, hfz86_1, hfz86_2, hfz86_3, hfz86_4, hfz86_5⟩ := bk6 BK178.out
                   go_wp2_with (first | (go_at_call 40; (with_reducible refine (ir_Name.calls a1_4 t193 _ A84.out).mono ?_); (try clear A84); rintro e w87 ⟨rfl, hb⟩; replace HO_112 := Aside0.mk (Kd.R_below (qR HO_112.out) hb); replace BK177 := qW BK177 hb; replace BK178 := qW BK178 hb; replace HB := qH hb; (try clear hb)))
                   go_meet
                   case rel => exact ⟨_, (!t193), qT, H', ⟨by have := HJ4.out; have := HK2.out; have := HK3.out; have := HK4.out; have := HK5.out; first | omega | exact Nat.le_refl _⟩, ⟨qK BK177.out⟩, ⟨qK BK178.out⟩, ⟨qB⟩⟩
                  ·rw [if_neg c83] at H
                   obtain ⟨c83b0, c83b1⟩ := qn c83
                   (first | rw [c83b0] | (simp only [i64_w, i32_w]; rw [c83b0]) | skip)
                   have H' := Aside0.mk H
                   clear H
                   have hnb88 := NB178_177.out
                   have hnc88 := NB177_178.out
                   obtain ⟨hcz89_0, hcz89_1, hcz89_2, hcz89_3, hcz89_4, hcz89_5, hfz89_0, hfz89_1, hfz89_2, hfz89_3, hfz89_4, hfz89_5⟩ := bk6 BK178.out
                   go_wp2
                   go_meet
                   case rel => exact ⟨_, (false), qT, H', ⟨by have := HJ4.out; have := HK2.out; have := HK3.out; have := HK4.out; have := HK5.out; first | omega | exact Nat.le_refl _⟩, ⟨qK BK177.out⟩, ⟨qK BK178.out⟩, ⟨qB⟩⟩
                 case rest =>
                  clear HC82
                  try clear c1; try clear p1; try clear q1; try clear hx1; try clear c2; try clear p2; try clear c3; try clear p3; try clear q3; try clear hx3; try clear c4; try clear p4; try clear q4; try clear hx4; try clear c5; try clear c6; try clear p6; try clear q6; try clear hx6; try clear c7; try clear c8; try clear c9; try clear c10; try clear c10b0 c10b1; try clear c12; try clear c12b0 c12b1 c12b2; try clear c13; try clear c15; try clear c15b0 c15b1; try clear c16; try clear c18; try clear c18b0 c18b1; try clear p18; try clear q18; try clear hx18; try clear c19; try clear p19; try clear q19; try clear hx19; try clear c21; try clear c23; try clear c24; try clear c29; try clear c29b0; try clear c30; try clear c30b0; try clear c31; try clear c31b0; try clear c32; try clear c32b0; try clear p33; try clear q33; try clear hx33; try clear c34; try clear c34b0 c34b1; try clear c35; try clear c35b0 c35b1; try clear c36; try clear c36b0; try clear c37; try clear c37b0; try clear c38; try clear c38b0; try clear c39; try clear c39b0; try clear p40; try clear q40; try clear hx40; try clear c41; try clear c41b0 c41b1; try clear c43; try clear c44; try clear c47; try clear c51; try clear c52; try clear c56; try clear c60; try clear c60b0; try clear c61; try clear c61b0; try clear c62; try clear c62b0; try clear c63; try clear c63b0; try clear p64; try clear q64; try clear hx64; try clear c65; try clear c65b0 c65b1; try clear c66; try clear c66b0; try clear c67; try clear c67b0; try clear c69; try clear c73; try clear c73b0; try clear c74; try clear c74b0; try clear c75; try clear c75b0; try clear c76; try clear c76b0; try clear c77; try clear c77b0; try clear c78; try clear c80; try clear c83; try clear c83b0 c83b1; try clear c85; try clear c88; try clear hcz14_0 hcz14_1 hcz14_2 hcz14_3 hcz14_4 hcz14_5 hfz14_0 hfz14_1 hfz14_2 hfz14_3 hfz14_4 hfz14_5; try clear hcz17_0 hcz17_1 hcz17_2 hcz17_3 hcz17_4 hcz17_5 hfz17_0 hfz17_1 hfz17_2 hfz17_3 hfz17_4 hfz17_5; try clear hcz20_0 hcz20_1 hcz20_2 hcz20_3 hcz20_4 hcz20_5 hfz20_0 hfz20_1 hfz20_2 hfz20_3 hfz20_4 hfz20_5; try clear hcz22_0 hcz22_1 hcz22_2 hcz22_3 hcz22_4 hcz22_5 hfz22_0 hfz22_1 hfz22_2 hfz22_3 hfz22_4 hfz22_5; try clear hcz25_0 hcz25_1 hcz25_2 hcz25_3 hcz25_4 hcz25_5 hfz25_0 hfz25_1 hfz25_2 hfz25_3 hfz25_4 hfz25_5; try clear hcz45_0 hcz45_1 hcz45_2 hcz45_3 hfz45_0 hfz45_1 hfz45_2 hfz45_3; try clear hcz48_0 hcz48_1 hcz48_2 hcz48_3 hfz48_0 hfz48_1 hfz48_2 hfz48_3; try clear hcz53_0 hcz53_1 hcz53_2 hcz53_3 hcz53_4 hcz53_5 hfz53_0 hfz53_1 hfz53_2 hfz53_3 hfz53_4 hfz53_5; try clear hcz54_0 hcz54_1 hcz54_2 hcz54_3 hfz54_0 hfz54_1 hfz54_2 hfz54_3; try clear hcz57_0 hcz57_1 hcz57_2 hcz57_3 hcz57_4 hcz57_5 hfz57_0 hfz57_1 hfz57_2 hfz57_3 hfz57_4 hfz57_5; try clear hcz58_0 hcz58_1 hcz58_2 hcz58_3 hfz58_0 hfz58_1 hfz58_2 hfz58_3; try clear hcz70_0 hcz70_1 hcz70_2 hcz70_3 hcz70_4 hcz70_5 hfz70_0 hfz70_1 hfz70_2 hfz70_3 hfz70_4 hfz70_5; try clear hcz79_0 hcz79_1 hcz79_2 hcz79_3 hfz79_0 hfz79_1 hfz79_2 hfz79_3; try clear hcz81_0 hcz81_1 hcz81_2 hcz81_3 hfz81_0 hfz81_1 hfz81_2 hfz81_3; try clear hcz86_0 hcz86_1 hcz86_2 hcz86_3 hcz86_4 hcz86_5 hfz86_0 hfz86_1 hfz86_2 hfz86_3 hfz86_4 hfz86_5; try clear hcz89_0 hcz89_1 hcz89_2 hcz89_3 hcz89_4 hcz89_5 hfz89_0 hfz89_1 hfz89_2 hfz89_3 hfz89_4 hfz89_5; try clear hcz9_0 hcz9_1 hcz9_2 hcz9_3 hcz9_4 hcz9_5 hfz9_0 hfz9_1 hfz9_2 hfz9_3 hfz9_4 hfz9_5; try clear hx184_0; try clear hx185_0; try clear hx188_0; try clear hx192_0; try clear p184; try clear p185; try clear p188; try clear p192; try clear q184; try clear q185; try clear q188; try clear q192
                  obtain ⟨kq, x128_81, rfl, HA, HJ81, BK177, BK178, HB⟩ := hcut
                  cases kq with
                  | zero => exact absurd HA.out (by simp [ir_one.j5])
                  | succ kj81 =>
                   have H := HA.out
                   clear HA
                   simp only [ir_one.j5] at H
                   by_cases c90 : x128_81 = true
                   ·subst c90
                    have H1 : (some 70) = some r := by rw [if_pos rfl] at H; exact H
                    clear H
                    have H := H1
                    clear H1
                    obtain rfl := Option.some.inj H
                    go_wp2
                    go_ret
                    exact ⟨qE, qB⟩
                   ·replace c90 := Bool.eq_false_iff.mpr c90
                    subst c90
                    have H1 : (if (l1_5.length : Int) > 4 then (some 192) else (some 0)) = some r := by rw [if_neg (show ¬ (false = true) by decide)] at H; exact H
                    clear H
                    have H := H1
                    clear H1
                    by_cases c91 : (l1_5.length : Int) > 4
                    ·rw [if_pos c91] at H
                     have c91b0 : decide (4 < (l1_5.length : Int)) = true := decide_eq_true c91
                     have c91b1 : decide (4 < l1_5.length) = true := decide_eq_true (by omega)
                     clear c91
                     obtain rfl := Option.some.inj H
                     have hnb92 := NB178_177.out
                     have hnc92 := NB177_178.out
                     obtain ⟨hcz93_0, hcz93_1, hcz93_2, hcz93_3, hcz93_4, hcz93_5, hfz93_0, hfz93_1, hfz93_2, hfz93_3, hfz93_4, hfz93_5⟩ := bk6 BK178.out
                     go_wp2
                     go_ret
                     exact ⟨qE, qB⟩
                    ·rw [if_neg c91] at H
                     have c91b0 : decide (4 < (l1_5.length : Int)) = false := decide_eq_false c91
                     have c91b1 : decide (4 < l1_5.length) = false := decide_eq_false (by omega)
                     clear c91
                     obtain rfl := Option.some.inj H
                     have hnb94 := NB178_177.out
                     have hnc94 := NB177_178.out
                     obtain ⟨hcz95_0, hcz95_1, hcz95_2, hcz95_3, hcz95_4, hcz95_5, hfz95_0, hfz95_1, hfz95_2, hfz95_3, hfz95_4, hfz95_5⟩ := bk6 BK178.out
                     go_wp2
                     go_ret
                     exact ⟨qE, qB⟩

end Go.Proofs.YtebnnknijbgekaaDoor.Q
namespace Go.Proofs.YtebnnknijbgekaaDoor.Q
open Go.RowKit Go.Proofs.YtebnnknijbgekaaDoorW.PrintWords Go.Proofs.YtebnnknijbgekaaDoorW.PrintLast Go.Proofs.YtebnnknijbgekaaDoorW.PrintMore
attribute [local go_sem] max2_int min2_int max_two min_two max_three min_three max_four min_four   -- for this text's walks alone
set_option linter.unusedVariables false
set_option linter.unusedSimpArgs false

/-! ### ir_Check: function 49 -/
mutual
def ir_Check.j0 : Nat → Bool → ByteArray → Int → Int → List (List (SIns)) → Option (Int)
 | 0, _, _, _, _, _ => none
 | k + 1, x46, x195000, x195001, x195002, x195003 => if x46 = true then (some 71) else (ir_Check.l0 k 200 x195003 (x195003.length : Int) 0 x195000 x195001 x195002 x195003)
def ir_Check.l0 : Nat → Int → List (List (SIns)) → Int → Int → ByteArray → Int → Int → List (List (SIns)) → Option (Int)
 | 0, _, _, _, _, _, _, _, _ => none
 | k + 1, x3, x48, x49, x50, x195000, x195001, x195002, x195003 => if x50 < x49 then (if 0 ≤ x50 then (if x50 < (x48.length : Int) then (if ((rd_LIns x48 x50).length : Int) = 0 then (some 71) else (if ((rd_LIns x48 x50).length : Int) > x3 then (some 71) else (ir_Check.l0 k (wrap64 (x3 - ((rd_LIns x48 x50).length : Int))) x48 x49 (wrap64 (x50 + 1)) x195000 x195001 x195002 x195003))) else (none)) else (none)) else (ir_Check.l1 k x195003 (x195003.length : Int) 0 x195000 x195001 x195002 x195003)
def ir_Check.l1 : Nat → List (List (SIns)) → Int → Int → ByteArray → Int → Int → List (List (SIns)) → Option (Int)
 | 0, _, _, _, _, _, _, _ => none
 | k + 1, x69, x70, x71, x195000, x195001, x195002, x195003 => if x71 < x70 then (if 0 ≤ x71 then (if x71 < (x69.length : Int) then (ir_Check.l2 k (rd_LIns x69 x71) x69 x70 x71 (rd_LIns x69 x71) ((rd_LIns x69 x71).length : Int) 0 x195000 x195001 x195002 x195003) else (none)) else (none)) else (some 0)
def ir_Check.l2 : Nat → List (SIns) → List (List (SIns)) → Int → Int → List (SIns) → Int → Int → ByteArray → Int → Int → List (List (SIns)) → Option (Int)
 | 0, _, _, _, _, _, _, _, _, _, _, _ => none
 | k + 1, x7, x69, x70, x71, x75, x76, x77, x195000, x195001, x195002, x195003 => if x77 < x76 then (if 0 ≤ x77 then (if x77 < (x75.length : Int) then ((ir_one.f k x195000 x195001 x195002 x195003 ((rd_TIns x75 x77).f0) ((rd_TIns x75 x77).f1) ((rd_TIns x75 x77).f2) ((rd_TIns x75 x77).f3) ((rd_TIns x75 x77).f4) ((rd_TIns x75 x77).f5) (x77 == (wrap64 ((x7.length : Int) - 1)))).bind fun t200 => (if t200 = 0 then (ir_Check.l2 k x7 x69 x70 x71 x75 x76 (wrap64 (x77 + 1)) x195000 x195001 x195002 x195003) else (some t200))) else (none)) else (none)) else (ir_Check.l1 k x69 x70 (wrap64 (x71 + 1)) x195000 x195001 x195002 x195003)
end
def ir_Check.f (k : Nat) (a0_0 : ByteArray) (a0_1 : Int) (a0_2 : Int) (l0_3 : List (List (SIns))) : Option (Int) := (ir_Name.f a0_0).bind fun t195 => (if t195 = true then (if a0_1 < 0 then (ir_Check.j0 k true a0_0 a0_1 a0_2 l0_3) else (if a0_1 > 4 then (ir_Check.j0 k true a0_0 a0_1 a0_2 l0_3) else (if a0_2 < a0_1 then (ir_Check.j0 k true a0_0 a0_1 a0_2 l0_3) else (if a0_2 > 64 then (ir_Check.j0 k true a0_0 a0_1 a0_2 l0_3) else (if (l0_3.length : Int) < 1 then (ir_Check.j0 k true a0_0 a0_1 a0_2 l0_3) else (ir_Check.j0 k (decide ((l0_3.length : Int) > 32)) a0_0 a0_1 a0_2 l0_3)))))) else (some 70))
theorem ir_Check.mono_l : ∀ k, (∀ y0 y1 y2 y3 y4, LeO (ir_Check.j0 k y0 y1 y2 y3 y4) (ir_Check.j0 (k + 1) y0 y1 y2 y3 y4)) ∧ (∀ y0 y1 y2 y3 y4 y5 y6 y7, LeO (ir_Check.l0 k y0 y1 y2 y3 y4 y5 y6 y7) (ir_Check.l0 (k + 1) y0 y1 y2 y3 y4 y5 y6 y7)) ∧ (∀ y0 y1 y2 y3 y4 y5 y6, LeO (ir_Check.l1 k y0 y1 y2 y3 y4 y5 y6) (ir_Check.l1 (k + 1) y0 y1 y2 y3 y4 y5 y6)) ∧ (∀ y0 y1 y2 y3 y4 y5 y6 y7 y8 y9 y10, LeO (ir_Check.l2 k y0 y1 y2 y3 y4 y5 y6 y7 y8 y9 y10) (ir_Check.l2 (k + 1) y0 y1 y2 y3 y4 y5 y6 y7 y8 y9 y10))
 | 0 => ⟨fun _ _ _ _ _ r h => by simp [ir_Check.j0] at h, fun _ _ _ _ _ _ _ _ r h => by simp [ir_Check.l0] at h, fun _ _ _ _ _ _ _ r h => by simp [ir_Check.l1] at h, fun _ _ _ _ _ _ _ _ _ _ _ r h => by simp [ir_Check.l2] at h⟩
 | k + 1 => by
  obtain ⟨ih0, ih1, ih2, ih3⟩ := ir_Check.mono_l k
  refine ⟨?_, ?_, ?_, ?_⟩ <;> intros <;> (first | unfold ir_Check.j0 | unfold ir_Check.l0 | unfold ir_Check.l1 | unfold ir_Check.l2) <;> repeat' first | (with_reducible exact ih0 _ _ _ _ _) | (with_reducible exact ih1 _ _ _ _ _ _ _ _) | (with_reducible exact ih2 _ _ _ _ _ _ _) | (with_reducible exact ih3 _ _ _ _ _ _ _ _ _ _ _) | (with_reducible exact ir_one.mono _ _ _ _ _ _ _ _ _ _ _ _) | (with_reducible exact LeO.refl _) | (with_reducible exact LeO.none _) | (with_reducible refine LeO.ite ?_ ?_) | (with_reducible refine LeO.bind ?_ (fun _ => ?_)) | exact LeO.none _ | refine LeO.ite ?_ ?_ | refine LeO.bind ?_ (fun _ => ?_)
theorem ir_Check.mono : ∀ a0 a1 a2 a3 k, LeO (ir_Check.f k a0 a1 a2 a3) (ir_Check.f (k + 1) a0 a1 a2 a3) := by
 intro a0 a1 a2 a3 k
 obtain ⟨ih0, ih1, ih2, ih3⟩ := ir_Check.mono_l k
 unfold ir_Check.f
 repeat' first | (with_reducible exact ih0 _ _ _ _ _) | (with_reducible exact ih1 _ _ _ _ _ _ _ _) | (with_reducible exact ih2 _ _ _ _ _ _ _) | (with_reducible exact ih3 _ _ _ _ _ _ _ _ _ _ _) | (with_reducible exact ir_one.mono _ _ _ _ _ _ _ _ _ _ _ _) | (with_reducible exact LeO.refl _) | (with_reducible exact LeO.none _) | (with_reducible refine LeO.ite ?_ ?_) | (with_reducible refine LeO.bind ?_ (fun _ => ?_)) | exact LeO.none _ | refine LeO.ite ?_ ?_ | refine LeO.bind ?_ (fun _ => ?_)
set_option maxHeartbeats 8000000 in
set_option maxRecDepth 100000 in
theorem ir_Check.calls (k : Nat) (a0_0 : ByteArray) (a0_1 : Int) (a0_2 : Int) (A0_3 : Option Addr) (c0_3 : Nat) (l0_3 : List (List (SIns))) (r : Int) (w : World) (hL : LaidW w) (hr0_3 : Kd.C (Kd.slice 31 kIns) w A0_3 l0_3.length l0_3) (hc0_3 : l0_3.length ≤ c0_3) (h : ir_Check.f k a0_0 a0_1 a0_2 l0_3 = some r) :
  Calls Tryd.prog 49 #[.agg #[.string a0_0, .int .i64 a0_1, .int .i64 a0_2, .slice A0_3 l0_3.length c0_3]] w fun e w' => e = .returned (.int .i64 r) ∧ Below w.heap.size w w' := by
 have hu34 := Tryd.underlying34
 have hu31 := Tryd.underlying31
 have HR0_3 := Aside0.mk hr0_3
 have HC0_3 := Aside0.mk hc0_3
 clear hr0_3 hc0_3
 have HB := Aside0.mk (Below.refl w.heap.size w)
 have HLd := Aside0.mk hL
 clear hL
 have H := h; clear h; unfold ir_Check.f at H
 replace H := qb H; obtain ⟨t195, A2, H⟩ := H
 by_cases c3 : t195 = true
 ·subst c3
  have H1 : (if a0_1 < 0 then (ir_Check.j0 k true a0_0 a0_1 a0_2 l0_3) else (if a0_1 > 4 then (ir_Check.j0 k true a0_0 a0_1 a0_2 l0_3) else (if a0_2 < a0_1 then (ir_Check.j0 k true a0_0 a0_1 a0_2 l0_3) else (if a0_2 > 64 then (ir_Check.j0 k true a0_0 a0_1 a0_2 l0_3) else (if (l0_3.length : Int) < 1 then (ir_Check.j0 k true a0_0 a0_1 a0_2 l0_3) else (ir_Check.j0 k (decide ((l0_3.length : Int) > 32)) a0_0 a0_1 a0_2 l0_3)))))) = some r := by rw [if_pos rfl] at H; exact H
  clear H
  have H := H1
  clear H1
  have HC4 := Aside0.mk H
  clear H
  go_enter Tryd.func49, Tryd.ntmps49
  go_upto_region 3 with (first | ((with_reducible refine gate_dst (N := 1) rfl ?_); (try (refine gate_guard (by rfl) ?_; dsimp only)); refine box_event (by rfl) (N := 1) (by rfl) (cs := #[.string a0_0, .int .i64 a0_1, .int .i64 a0_2, .slice A0_3 l0_3.length c0_3]) (t := 34) ?hr ?_; (case hr => first | (go_simp; done) | (go_simp; rfl)); intro gb194 hg w5 hbox hb; have BK194 := Aside0.mk (hbox); have GW194 := qG hg; have GE194 := GW194; replace HB := qH hb; clear hb hbox hg; obtain ⟨hcz6_0, hcz6_1, hcz6_2, hcz6_3, hfz6_0, hfz6_1, hfz6_2, hfz6_3⟩ := bk4 BK194.out) | ((with_reducible refine gate_callee (f := 40) rfl ?_); refine goesL_ (some 13) rfl rfl Tryd.func40 (by kernel_rfl) rfl #[.string a0_0] rfl qL ?_; (with_reducible refine (ir_Name.calls a0_0 true _ A2.out).mono ?_); rintro e w7 ⟨rfl, hb⟩; refine ⟨_, rfl, ?_⟩; replace BK194 := qW BK194 hb; replace HB := qH hb; (try clear hb)))
  (try simp only [Act.put, List.setIfInBounds_toArray, List.set_cons_zero, List.set_cons_succ])
  go_cut [46] (fun v46 wc => ∃ (kq : Nat) (x46_3 : Bool), v46 = .bool x46_3 ∧ Aside0 (ir_Check.j0 kq x46_3 a0_0 a0_1 a0_2 l0_3 = some r) ∧ Aside0 (kq ≤ k) ∧ Aside0 (wc.heap[gb194]? = some (.cells #[.string a0_0, .int .i64 a0_1, .int .i64 a0_2, (.slice A0_3 l0_3.length c0_3)] 34 (0, 0))) ∧ Aside0 (Below w.heap.size w wc))
  case first =>
   have H := HC4.out
   clear HC4
   by_cases c8 : a0_1 < 0
   ·rw [if_pos c8] at H
    have c8b0 := decide_eq_true c8
    clear c8
    (first | rw [c8b0] | (simp only [i64_w, i32_w]; rw [c8b0]) | skip)
    have H' := Aside0.mk H
    clear H
    obtain ⟨hcz9_0, hcz9_1, hcz9_2, hcz9_3, hfz9_0, hfz9_1, hfz9_2, hfz9_3⟩ := bk4 BK194.out
    go_wp2
    go_meet
    case rel => exact ⟨_, (true), qT, H', ⟨qO⟩, ⟨qK BK194.out⟩, ⟨qB⟩⟩
   ·rw [if_neg c8] at H
    have c8b0 := decide_eq_false c8
    clear c8
    (first | rw [c8b0] | (simp only [i64_w, i32_w]; rw [c8b0]) | skip)
    by_cases c10 : a0_1 > 4
    ·rw [if_pos c10] at H
     have c10b0 : decide (4 < a0_1) = true := decide_eq_true c10
     clear c10
     have H' := Aside0.mk H
     clear H
     obtain ⟨hcz11_0, hcz11_1, hcz11_2, hcz11_3, hfz11_0, hfz11_1, hfz11_2, hfz11_3⟩ := bk4 BK194.out
     go_wp2
     go_meet
     case rel => exact ⟨_, (true), qT, H', ⟨qO⟩, ⟨qK BK194.out⟩, ⟨qB⟩⟩
    ·rw [if_neg c10] at H
     have c10b0 : decide (4 < a0_1) = false := decide_eq_false c10
     clear c10
     by_cases c12 : a0_2 < a0_1
     ·rw [if_pos c12] at H
      have c12b0 := decide_eq_true c12
      clear c12
      have H' := Aside0.mk H
      clear H
      obtain ⟨hcz13_0, hcz13_1, hcz13_2, hcz13_3, hfz13_0, hfz13_1, hfz13_2, hfz13_3⟩ := bk4 BK194.out
      go_wp2
      go_meet
      case rel => exact ⟨_, (true), qT, H', ⟨qO⟩, ⟨qK BK194.out⟩, ⟨qB⟩⟩
     ·rw [if_neg c12] at H
      have c12b0 := decide_eq_false c12
      clear c12
      by_cases c14 : a0_2 > 64
      ·rw [if_pos c14] at H
       have c14b0 : decide (64 < a0_2) = true := decide_eq_true c14
       clear c14
       have H' := Aside0.mk H
       clear H
       obtain ⟨hcz15_0, hcz15_1, hcz15_2, hcz15_3, hfz15_0, hfz15_1, hfz15_2, hfz15_3⟩ := bk4 BK194.out
       go_wp2
       go_meet
       case rel => exact ⟨_, (true), qT, H', ⟨qO⟩, ⟨qK BK194.out⟩, ⟨qB⟩⟩
      ·rw [if_neg c14] at H
       have c14b0 : decide (64 < a0_2) = false := decide_eq_false c14
       clear c14
       by_cases c16 : (l0_3.length : Int) < 1
       ·rw [if_pos c16] at H
        have c16b0 := decide_eq_true c16
        have c16b1 : decide (l0_3.length < 1) = true := decide_eq_true (by omega)
        clear c16
        have H' := Aside0.mk H
        clear H
        obtain ⟨hcz17_0, hcz17_1, hcz17_2, hcz17_3, hfz17_0, hfz17_1, hfz17_2, hfz17_3⟩ := bk4 BK194.out
        go_wp2
        go_meet
        case rel => exact ⟨_, (true), qT, H', ⟨qO⟩, ⟨qK BK194.out⟩, ⟨qB⟩⟩
       ·rw [if_neg c16] at H
        have c16b0 := decide_eq_false c16
        have c16b1 : decide (l0_3.length < 1) = false := decide_eq_false (by omega)
        clear c16
        have H' := Aside0.mk H
        clear H
        obtain ⟨hcz18_0, hcz18_1, hcz18_2, hcz18_3, hfz18_0, hfz18_1, hfz18_2, hfz18_3⟩ := bk4 BK194.out
        go_wp2
        go_meet
        case rel => exact ⟨_, (decide ((l0_3.length : Int) > 32)), qT, H', ⟨qO⟩, ⟨qK BK194.out⟩, ⟨qB⟩⟩
  case rest =>
   clear HC4
   try clear c1; try clear p2; try clear c3; try clear c4; try clear c8; try clear c8b0; try clear c10; try clear c10b0; try clear c12; try clear c12b0; try clear c14; try clear c14b0; try clear c16; try clear c16b0 c16b1; try clear hcz11_0 hcz11_1 hcz11_2 hcz11_3 hfz11_0 hfz11_1 hfz11_2 hfz11_3; try clear hcz13_0 hcz13_1 hcz13_2 hcz13_3 hfz13_0 hfz13_1 hfz13_2 hfz13_3; try clear hcz15_0 hcz15_1 hcz15_2 hcz15_3 hfz15_0 hfz15_1 hfz15_2 hfz15_3; try clear hcz17_0 hcz17_1 hcz17_2 hcz17_3 hfz17_0 hfz17_1 hfz17_2 hfz17_3; try clear hcz18_0 hcz18_1 hcz18_2 hcz18_3 hfz18_0 hfz18_1 hfz18_2 hfz18_3; try clear hcz6_0 hcz6_1 hcz6_2 hcz6_3 hfz6_0 hfz6_1 hfz6_2 hfz6_3; try clear hcz9_0 hcz9_1 hcz9_2 hcz9_3 hfz9_0 hfz9_1 hfz9_2 hfz9_3
   obtain ⟨kq, x46_3, rfl, HA, HJ3, BK194, HB⟩ := hcut
   cases kq with
   | zero => exact absurd HA.out (by simp [ir_Check.j0])
   | succ kj3 =>
    have H := HA.out
    clear HA
    simp only [ir_Check.j0] at H
    by_cases c19 : x46_3 = true
    ·subst c19
     have H1 : (some 71) = some r := by rw [if_pos rfl] at H; exact H
     clear H
     have H := H1
     clear H1
     obtain rfl := Option.some.inj H
     go_wp2
     go_ret
     exact ⟨qE, qB⟩
    ·replace c19 := Bool.eq_false_iff.mpr c19
     subst c19
     have H1 : (ir_Check.l0 kj3 200 l0_3 (l0_3.length : Int) 0 a0_0 a0_1 a0_2 l0_3) = some r := by rw [if_neg (show ¬ (false = true) by decide)] at H; exact H
     clear H
     have H := H1
     clear H1
     have H' := Aside0.mk H
     clear H
     obtain ⟨hcz20_0, hcz20_1, hcz20_2, hcz20_3, hfz20_0, hfz20_1, hfz20_2, hfz20_3⟩ := bk4 BK194.out
     go_wp2
     go_loopg [3, 50] kj3 (fun kq v3 v50 w' => ∃ (x3_2 : Int) (x50_2 : Int), v3 = .int .i64 x3_2 ∧ v50 = .int .i64 x50_2 ∧ Aside0 (ir_Check.l0 kq x3_2 l0_3 (l0_3.length : Int) x50_2 a0_0 a0_1 a0_2 l0_3 = some r) ∧ Aside0 (kq ≤ kj3) ∧ Aside0 (w'.heap[gb194]? = some (.cells #[.string a0_0, .int .i64 a0_1, .int .i64 a0_2, (.slice A0_3 l0_3.length c0_3)] 34 (0, 0))) ∧ Aside0 (Below w.heap.size w w'))
     case atStart => exact ⟨(200), (0), qT, qT, H', ⟨Nat.le_refl _⟩, ⟨qK BK194.out⟩, ⟨qB⟩⟩
     case round =>
      clear H'
      try clear c1; try clear p2; try clear c3; try clear c4; try clear c8; try clear c8b0; try clear c10; try clear c10b0; try clear c12; try clear c12b0; try clear c14; try clear c14b0; try clear c16; try clear c16b0 c16b1; try clear c19; try clear hcz11_0 hcz11_1 hcz11_2 hcz11_3 hfz11_0 hfz11_1 hfz11_2 hfz11_3; try clear hcz13_0 hcz13_1 hcz13_2 hcz13_3 hfz13_0 hfz13_1 hfz13_2 hfz13_3; try clear hcz15_0 hcz15_1 hcz15_2 hcz15_3 hfz15_0 hfz15_1 hfz15_2 hfz15_3; try clear hcz17_0 hcz17_1 hcz17_2 hcz17_3 hfz17_0 hfz17_1 hfz17_2 hfz17_3; try clear hcz18_0 hcz18_1 hcz18_2 hcz18_3 hfz18_0 hfz18_1 hfz18_2 hfz18_3; try clear hcz20_0 hcz20_1 hcz20_2 hcz20_3 hfz20_0 hfz20_1 hfz20_2 hfz20_3; try clear hcz6_0 hcz6_1 hcz6_2 hcz6_3 hfz6_0 hfz6_1 hfz6_2 hfz6_3; try clear hcz9_0 hcz9_1 hcz9_2 hcz9_3 hfz9_0 hfz9_1 hfz9_2 hfz9_3
      obtain ⟨x3_2, x50_2, rfl, rfl, HA, HK2, BK194, HB⟩ := hrel
      cases gk with
      | zero => exact absurd HA.out (by simp [ir_Check.l0])
      | succ k2 =>
       have H := HA.out
       clear HA
       simp only [ir_Check.l0] at H
       by_cases c21 : x50_2 < (l0_3.length : Int)
       ·rw [if_pos c21] at H
        have c21b0 := decide_eq_true c21
        clear c21
        by_cases c22 : 0 ≤ x50_2
        ·rw [if_pos c22] at H
         have c22b0 := decide_eq_true c22
         clear c22
         by_cases c23 : x50_2 < (l0_3.length : Int)
         ·rw [if_pos c23] at H
          have c23b0 := decide_eq_true c23
          clear c23
          by_cases c24 : ((rd_LIns l0_3 x50_2).length : Int) = 0
          ·rw [if_pos c24] at H
           obtain ⟨c24b0, c24b1⟩ := qe c24; clear c24
           obtain rfl := Option.some.inj H
           have p196 : 0 ≤ (x50_2 : Int) := of_decide_eq_true qA
           have q196 : x50_2 < (l0_3.length : Int) := of_decide_eq_true qA
           obtain ⟨ad196, A196_0, c196_0, e196, hx196_0, hl196_0, hi196_0⟩ := at_LIns HR0_3.out x50_2 p196 q196
           cases e196
           replace hx196_0 := (HB.out.cell (World.block_lt_of_cell? w _ hx196_0)).trans hx196_0
           have HR196_0 := Aside0.mk hi196_0
           have HC196_0 := Aside0.mk hl196_0
           clear hi196_0 hl196_0
           replace p196 := eq_true p196
           replace q196 := eq_true q196
           go_wp2
           go_ret
           exact ⟨qE, qB⟩
          ·rw [if_neg c24] at H
           obtain ⟨c24b0, c24b1⟩ := qn c24
           have c24b2 : ¬ ((rd_LIns l0_3 x50_2) = []) := fun h_ => c24 (by rw [h_]; rfl)
           by_cases c25 : ((rd_LIns l0_3 x50_2).length : Int) > x3_2
           ·rw [if_pos c25] at H
            have c25b0 : decide (x3_2 < ((rd_LIns l0_3 x50_2).length : Int)) = true := decide_eq_true c25
            clear c25
            obtain rfl := Option.some.inj H
            have p196 : 0 ≤ (x50_2 : Int) := of_decide_eq_true qA
            have q196 : x50_2 < (l0_3.length : Int) := of_decide_eq_true qA
            obtain ⟨ad196, A196_0, c196_0, e196, hx196_0, hl196_0, hi196_0⟩ := at_LIns HR0_3.out x50_2 p196 q196
            cases e196
            replace hx196_0 := (HB.out.cell (World.block_lt_of_cell? w _ hx196_0)).trans hx196_0
            have HR196_0 := Aside0.mk hi196_0
            have HC196_0 := Aside0.mk hl196_0
            clear hi196_0 hl196_0
            replace p196 := eq_true p196
            replace q196 := eq_true q196
            go_wp2
            go_ret
            exact ⟨qE, qB⟩
           ·rw [if_neg c25] at H
            have c25b0 : decide (x3_2 < ((rd_LIns l0_3 x50_2).length : Int)) = false := decide_eq_false c25
            clear c25
            have H' := Aside0.mk H
            clear H
            have p196 : 0 ≤ (x50_2 : Int) := of_decide_eq_true qA
            have q196 : x50_2 < (l0_3.length : Int) := of_decide_eq_true qA
            obtain ⟨ad196, A196_0, c196_0, e196, hx196_0, hl196_0, hi196_0⟩ := at_LIns HR0_3.out x50_2 p196 q196
            cases e196
            replace hx196_0 := (HB.out.cell (World.block_lt_of_cell? w _ hx196_0)).trans hx196_0
            have HR196_0 := Aside0.mk hi196_0
            have HC196_0 := Aside0.mk hl196_0
            clear hi196_0 hl196_0
            replace p196 := eq_true p196
            replace q196 := eq_true q196
            go_wp2
            go_roundg k2
            case measure => have := HJ3.out; have := HK2.out; omega
            case rel => exact ⟨(wrap64 (x3_2 - ((rd_LIns l0_3 x50_2).length : Int))), (wrap64 (x50_2 + 1)), qT, qT, H', ⟨by have := HJ3.out; have := HK2.out; omega⟩, ⟨qK BK194.out⟩, ⟨qB⟩⟩
         ·rw [if_neg c23] at H
          exact absurd H (by simp)
        ·rw [if_neg c22] at H
         exact absurd H (by simp)
       ·rw [if_neg c21] at H
        have c21b0 := decide_eq_false c21
        clear c21
        have H' := Aside0.mk H
        clear H
        obtain ⟨hcz26_0, hcz26_1, hcz26_2, hcz26_3, hfz26_0, hfz26_1, hfz26_2, hfz26_3⟩ := bk4 BK194.out
        go_wp2
        go_loopg [71] k2 (fun kq v71 w' => ∃ (x71_3 : Int), v71 = .int .i64 x71_3 ∧ Aside0 (ir_Check.l1 kq l0_3 (l0_3.length : Int) x71_3 a0_0 a0_1 a0_2 l0_3 = some r) ∧ Aside0 (kq ≤ k2) ∧ Aside0 (w'.heap[gb194]? = some (.cells #[.string a0_0, .int .i64 a0_1, .int .i64 a0_2, (.slice A0_3 l0_3.length c0_3)] 34 (0, 0))) ∧ Aside0 (Below w.heap.size w w'))
        case atStart => exact ⟨(0), qT, H', ⟨Nat.le_refl _⟩, ⟨qK BK194.out⟩, ⟨qB⟩⟩
        case round =>
         clear H'
         try clear c1; try clear p1; try clear q1; try clear hx1; try clear c2; try clear p2; try clear c3; try clear c4; try clear p6; try clear c8; try clear c8b0; try clear c10; try clear c10b0; try clear c12; try clear c12b0; try clear c14; try clear c14b0; try clear c16; try clear c16b0 c16b1; try clear c19; try clear p19; try clear q19; try clear hx19; try clear c21; try clear c21b0; try clear c22; try clear c22b0; try clear c23; try clear c23b0; try clear c24; try clear c24b0 c24b1 c24b2; try clear c25; try clear c25b0; try clear hcz11_0 hcz11_1 hcz11_2 hcz11_3 hfz11_0 hfz11_1 hfz11_2 hfz11_3; try clear hcz13_0 hcz13_1 hcz13_2 hcz13_3 hfz13_0 hfz13_1 hfz13_2 hfz13_3; try clear hcz15_0 hcz15_1 hcz15_2 hcz15_3 hfz15_0 hfz15_1 hfz15_2 hfz15_3; try clear hcz17_0 hcz17_1 hcz17_2 hcz17_3 hfz17_0 hfz17_1 hfz17_2 hfz17_3; try clear hcz18_0 hcz18_1 hcz18_2 hcz18_3 hfz18_0 hfz18_1 hfz18_2 hfz18_3; try clear hcz20_0 hcz20_1 hcz20_2 hcz20_3 hfz20_0 hfz20_1 hfz20_2 hfz20_3; try clear hcz26_0 hcz26_1 hcz26_2 hcz26_3 hfz26_0 hfz26_1 hfz26_2 hfz26_3; try clear hcz6_0 hcz6_1 hcz6_2 hcz6_3 hfz6_0 hfz6_1 hfz6_2 hfz6_3; try clear hcz9_0 hcz9_1 hcz9_2 hcz9_3 hfz9_0 hfz9_1 hfz9_2 hfz9_3; try clear hx196_0; try clear p196; try clear q196
         obtain ⟨x71_3, rfl, HA, HK3, BK194, HB⟩ := hrel
         cases gk with
         | zero => exact absurd HA.out (by simp [ir_Check.l1])
         | succ k3 =>
          have H := HA.out
          clear HA
          simp only [ir_Check.l1] at H
          by_cases c27 : x71_3 < (l0_3.length : Int)
          ·rw [if_pos c27] at H
           have c27b0 := decide_eq_true c27
           clear c27
           by_cases c28 : 0 ≤ x71_3
           ·rw [if_pos c28] at H
            have c28b0 := decide_eq_true c28
            clear c28
            by_cases c29 : x71_3 < (l0_3.length : Int)
            ·rw [if_pos c29] at H
             have c29b0 := decide_eq_true c29
             clear c29
             have H' := Aside0.mk H
             clear H
             have p197 : 0 ≤ (x71_3 : Int) := of_decide_eq_true qA
             have q197 : x71_3 < (l0_3.length : Int) := of_decide_eq_true qA
             obtain ⟨ad197, A197_0, c197_0, e197, hx197_0, hl197_0, hi197_0⟩ := at_LIns HR0_3.out x71_3 p197 q197
             cases e197
             replace hx197_0 := (HB.out.cell (World.block_lt_of_cell? w _ hx197_0)).trans hx197_0
             have HR197_0 := Aside0.mk hi197_0
             have HC197_0 := Aside0.mk hl197_0
             clear hi197_0 hl197_0
             replace p197 := eq_true p197
             replace q197 := eq_true q197
             go_wp2
             go_loopg [77] k3 (fun kq v77 w' => ∃ (x77_4 : Int), v77 = .int .i64 x77_4 ∧ Aside0 (ir_Check.l2 kq (rd_LIns l0_3 x71_3) l0_3 (l0_3.length : Int) x71_3 (rd_LIns l0_3 x71_3) ((rd_LIns l0_3 x71_3).length : Int) x77_4 a0_0 a0_1 a0_2 l0_3 = some r) ∧ Aside0 (kq ≤ k3) ∧ Aside0 (w'.heap[gb194]? = some (.cells #[.string a0_0, .int .i64 a0_1, .int .i64 a0_2, (.slice (some ad197) l0_3.length c0_3)] 34 (0, 0))) ∧ Aside0 (Below w.heap.size w w'))
             case atStart => exact ⟨(0), qT, H', ⟨Nat.le_refl _⟩, ⟨qK BK194.out⟩, ⟨qB⟩⟩
             case round =>
              clear H'
              try clear c1; try clear p1; try clear q1; try clear hx1; try clear c2; try clear p2; try clear c3; try clear c4; try clear p6; try clear c8; try clear c8b0; try clear c10; try clear c10b0; try clear c12; try clear c12b0; try clear c14; try clear c14b0; try clear c16; try clear c16b0 c16b1; try clear c19; try clear p19; try clear q19; try clear hx19; try clear c21; try clear c21b0; try clear c22; try clear c22b0; try clear c23; try clear c23b0; try clear c24; try clear c24b0 c24b1 c24b2; try clear c25; try clear c25b0; try clear c27; try clear c27b0; try clear c28; try clear c28b0; try clear c29; try clear c29b0; try clear hcz11_0 hcz11_1 hcz11_2 hcz11_3 hfz11_0 hfz11_1 hfz11_2 hfz11_3; try clear hcz13_0 hcz13_1 hcz13_2 hcz13_3 hfz13_0 hfz13_1 hfz13_2 hfz13_3; try clear hcz15_0 hcz15_1 hcz15_2 hcz15_3 hfz15_0 hfz15_1 hfz15_2 hfz15_3; try clear hcz17_0 hcz17_1 hcz17_2 hcz17_3 hfz17_0 hfz17_1 hfz17_2 hfz17_3; try clear hcz18_0 hcz18_1 hcz18_2 hcz18_3 hfz18_0 hfz18_1 hfz18_2 hfz18_3; try clear hcz20_0 hcz20_1 hcz20_2 hcz20_3 hfz20_0 hfz20_1 hfz20_2 hfz20_3; try clear hcz26_0 hcz26_1 hcz26_2 hcz26_3 hfz26_0 hfz26_1 hfz26_2 hfz26_3; try clear hcz6_0 hcz6_1 hcz6_2 hcz6_3 hfz6_0 hfz6_1 hfz6_2 hfz6_3; try clear hcz9_0 hcz9_1 hcz9_2 hcz9_3 hfz9_0 hfz9_1 hfz9_2 hfz9_3; try clear hx196_0; try clear hx197_0; try clear p196; try clear p197; try clear q196; try clear q197
              obtain ⟨x77_4, rfl, HA, HK4, BK194, HB⟩ := hrel
              cases gk with
              | zero => exact absurd HA.out (by simp [ir_Check.l2])
              | succ k4 =>
               have H := HA.out
               clear HA
               simp only [ir_Check.l2] at H
               by_cases c30 : x77_4 < ((rd_LIns l0_3 x71_3).length : Int)
               ·rw [if_pos c30] at H
                have c30b0 := decide_eq_true c30
                clear c30
                by_cases c31 : 0 ≤ x77_4
                ·rw [if_pos c31] at H
                 have c31b0 := decide_eq_true c31
                 clear c31
                 by_cases c32 : x77_4 < ((rd_LIns l0_3 x71_3).length : Int)
                 ·rw [if_pos c32] at H
                  have c32b0 := decide_eq_true c32
                  clear c32
                  replace H := qb H; obtain ⟨t200, A33, H⟩ := H
                  by_cases c34 : t200 = 0
                  ·rw [if_pos c34] at H
                   obtain ⟨c34b0, c34b1⟩ := qe c34; clear c34
                   have H' := Aside0.mk H
                   clear H
                   have p198 : 0 ≤ (x77_4 : Int) := of_decide_eq_true qA
                   have q198 : x77_4 < ((rd_LIns l0_3 x71_3).length : Int) := of_decide_eq_true qA
                   obtain ⟨ad198, A198_5, c198_5, e198, hx198_0, hx198_1, hx198_2, hx198_3, hx198_4, hx198_5, hl198_5, hi198_5⟩ := at_TIns HR197_0.out x77_4 p198 q198
                   cases e198
                   replace hx198_0 := (HB.out.cell (World.block_lt_of_cell? w _ hx198_0)).trans hx198_0
                   replace hx198_1 := (HB.out.cell (World.block_lt_of_cell? w _ hx198_1)).trans hx198_1
                   replace hx198_2 := (HB.out.cell (World.block_lt_of_cell? w _ hx198_2)).trans hx198_2
                   replace hx198_3 := (HB.out.cell (World.block_lt_of_cell? w _ hx198_3)).trans hx198_3
                   replace hx198_4 := (HB.out.cell (World.block_lt_of_cell? w _ hx198_4)).trans hx198_4
                   replace hx198_5 := (HB.out.cell (World.block_lt_of_cell? w _ hx198_5)).trans hx198_5
                   have HR198_5 := Aside0.mk hi198_5
                   have HC198_5 := Aside0.mk hl198_5
                   clear hi198_5 hl198_5
                   replace p198 := eq_true p198
                   replace q198 := eq_true q198
                   go_wp2_with (first | ((with_reducible refine gate_dst (N := 9) rfl ?_); (try (refine gate_guard (by rfl) ?_; dsimp only)); refine box_event (by rfl) (N := 9) (by rfl) (cs := #[.int .i64 0, .int .i64 0, .int .i64 0, .int .i64 0, .string (⟨#[]⟩ : ByteArray), .slice none 0 0]) (t := 31) ?hr ?_; (case hr => first | (go_simp; done) | (go_simp; rfl)); intro gb199 hg w35 hbox hb; have BK199 := Aside0.mk (hbox); have GW199 := qG hg; have GE199 := GW199; replace HB := qH hb; have NB194_199 := Aside0.mk ((by rw [hg]; exact Nat.ne_of_lt (blk_lt (g := gb194) (o := .cells #[.string a0_0, .int .i64 a0_1, .int .i64 a0_2, .slice (some ad197) l0_3.length c0_3] 34 (0, 0)) (qK BK194.out)) : gb194 ≠ gb199)); have NB199_194 := Aside0.mk ((by rw [hg]; exact Nat.ne_of_gt (blk_lt (g := gb194) (o := .cells #[.string a0_0, .int .i64 a0_1, .int .i64 a0_2, .slice (some ad197) l0_3.length c0_3] 34 (0, 0)) (qK BK194.out)) : gb199 ≠ gb194)); replace BK194 := qW BK194 hb; clear hb hbox hg; have hnb36 := NB199_194.out; have hnc36 := NB194_199.out; obtain ⟨hcz37_0, hcz37_1, hcz37_2, hcz37_3, hcz37_4, hcz37_5, hfz37_0, hfz37_1, hfz37_2, hfz37_3, hfz37_4, hfz37_5⟩ := bk6 BK199.out; obtain ⟨hcz38_0, hcz38_1, hcz38_2, hcz38_3, hfz38_0, hfz38_1, hfz38_2, hfz38_3⟩ := bk4 BK194.out) | ((with_reducible refine gate_callee (f := 72) rfl ?_); refine goesL_ (some 89) rfl rfl Tryd.func72 (by kernel_rfl) rfl #[.agg #[.string a0_0, .int .i64 a0_1, .int .i64 a0_2, .slice (some ad197) l0_3.length c0_3], .agg #[.int .i64 ((rd_TIns (rd_LIns l0_3 x71_3) x77_4).f0), .int .i64 ((rd_TIns (rd_LIns l0_3 x71_3) x77_4).f1), .int .i64 ((rd_TIns (rd_LIns l0_3 x71_3) x77_4).f2), .int .i64 ((rd_TIns (rd_LIns l0_3 x71_3) x77_4).f3), .string ((rd_TIns (rd_LIns l0_3 x71_3) x77_4).f4), .slice A198_5 ((rd_TIns (rd_LIns l0_3 x71_3) x77_4).f5).length c198_5], .bool (x77_4 == (wrap64 (((rd_LIns l0_3 x71_3).length : Int) - 1)))] rfl qL ?_; (with_reducible refine (ir_one.calls k4 a0_0 a0_1 a0_2 _ _ l0_3 ((rd_TIns (rd_LIns l0_3 x71_3) x77_4).f0) ((rd_TIns (rd_LIns l0_3 x71_3) x77_4).f1) ((rd_TIns (rd_LIns l0_3 x71_3) x77_4).f2) ((rd_TIns (rd_LIns l0_3 x71_3) x77_4).f3) ((rd_TIns (rd_LIns l0_3 x71_3) x77_4).f4) _ _ ((rd_TIns (rd_LIns l0_3 x71_3) x77_4).f5) (x77_4 == (wrap64 (((rd_LIns l0_3 x71_3).length : Int) - 1))) t200 _ ?side1 ?side2 ?side3 ?side4 A33.out (hL := ?side99)).mono ?_); (case side1 => exact Kd.C_below HR0_3.out qB); (case side2 => exact HC0_3.out); (case side3 => exact Kd.C_below HR198_5.out qB); (case side4 => exact HC198_5.out); (case side99 => exact LaidW.below HLd.out qB); rintro e w39 ⟨rfl, hb⟩; refine ⟨_, rfl, ?_⟩; replace BK194 := Aside0.mk (blk_below (g := gb194) (o := .cells #[.string a0_0, .int .i64 a0_1, .int .i64 a0_2, .slice (some ad197) l0_3.length c0_3] 34 (0, 0)) (by (with_reducible repeat (first | refine blk_drewN ?_ _ | refine blk_drew ?_ | refine blk_alloc ?_ _)); refine blk_far ?_ NB194_199.out _; (with_reducible repeat (first | refine blk_drewN ?_ _ | refine blk_drew ?_ | refine blk_alloc ?_ _)); refine blk_far ?_ NB194_199.out _; (with_reducible repeat (first | refine blk_drewN ?_ _ | refine blk_drew ?_ | refine blk_alloc ?_ _)); refine blk_far ?_ NB194_199.out _; (with_reducible repeat (first | refine blk_drewN ?_ _ | refine blk_drew ?_ | refine blk_alloc ?_ _)); refine blk_far ?_ NB194_199.out _; (with_reducible repeat (first | refine blk_drewN ?_ _ | refine blk_drew ?_ | refine blk_alloc ?_ _)); refine blk_far ?_ NB194_199.out _; (with_reducible repeat (first | refine blk_drewN ?_ _ | refine blk_drew ?_ | refine blk_alloc ?_ _)); refine blk_far ?_ NB194_199.out _; (with_reducible repeat (first | refine blk_drewN ?_ _ | refine blk_drew ?_ | refine blk_alloc ?_ _)); exact BK194.out) hb); replace BK199 := Aside0.mk (blk_below (g := gb199) (o := .cells #[.int .i64 ((rd_TIns (rd_LIns l0_3 x71_3) x77_4).f0), .int .i64 ((rd_TIns (rd_LIns l0_3 x71_3) x77_4).f1), .int .i64 ((rd_TIns (rd_LIns l0_3 x71_3) x77_4).f2), .int .i64 ((rd_TIns (rd_LIns l0_3 x71_3) x77_4).f3), .string ((rd_TIns (rd_LIns l0_3 x71_3) x77_4).f4), .slice A198_5 ((rd_TIns (rd_LIns l0_3 x71_3) x77_4).f5).length c198_5] 31 (0, 0)) (by (with_reducible repeat (first | refine blk_drewN ?_ _ | refine blk_drew ?_ | refine blk_alloc ?_ _)); refine blk_put (cs := #[.int .i64 ((rd_TIns (rd_LIns l0_3 x71_3) x77_4).f0), .int .i64 ((rd_TIns (rd_LIns l0_3 x71_3) x77_4).f1), .int .i64 ((rd_TIns (rd_LIns l0_3 x71_3) x77_4).f2), .int .i64 ((rd_TIns (rd_LIns l0_3 x71_3) x77_4).f3), .string ((rd_TIns (rd_LIns l0_3 x71_3) x77_4).f4), .slice none 0 0]) ?_ 5 _ rfl; (with_reducible repeat (first | refine blk_drewN ?_ _ | refine blk_drew ?_ | refine blk_alloc ?_ _)); refine blk_put (cs := #[.int .i64 ((rd_TIns (rd_LIns l0_3 x71_3) x77_4).f0), .int .i64 ((rd_TIns (rd_LIns l0_3 x71_3) x77_4).f1), .int .i64 ((rd_TIns (rd_LIns l0_3 x71_3) x77_4).f2), .int .i64 ((rd_TIns (rd_LIns l0_3 x71_3) x77_4).f3), .string (⟨#[]⟩ : ByteArray), .slice none 0 0]) ?_ 4 _ rfl; (with_reducible repeat (first | refine blk_drewN ?_ _ | refine blk_drew ?_ | refine blk_alloc ?_ _)); refine blk_put (cs := #[.int .i64 ((rd_TIns (rd_LIns l0_3 x71_3) x77_4).f0), .int .i64 ((rd_TIns (rd_LIns l0_3 x71_3) x77_4).f1), .int .i64 ((rd_TIns (rd_LIns l0_3 x71_3) x77_4).f2), .int .i64 0, .string (⟨#[]⟩ : ByteArray), .slice none 0 0]) ?_ 3 _ rfl; (with_reducible repeat (first | refine blk_drewN ?_ _ | refine blk_drew ?_ | refine blk_alloc ?_ _)); refine blk_put (cs := #[.int .i64 ((rd_TIns (rd_LIns l0_3 x71_3) x77_4).f0), .int .i64 ((rd_TIns (rd_LIns l0_3 x71_3) x77_4).f1), .int .i64 0, .int .i64 0, .string (⟨#[]⟩ : ByteArray), .slice none 0 0]) ?_ 2 _ rfl; (with_reducible repeat (first | refine blk_drewN ?_ _ | refine blk_drew ?_ | refine blk_alloc ?_ _)); refine blk_put (cs := #[.int .i64 ((rd_TIns (rd_LIns l0_3 x71_3) x77_4).f0), .int .i64 0, .int .i64 0, .int .i64 0, .string (⟨#[]⟩ : ByteArray), .slice none 0 0]) ?_ 1 _ rfl; (with_reducible repeat (first | refine blk_drewN ?_ _ | refine blk_drew ?_ | refine blk_alloc ?_ _)); refine blk_put (cs := #[.int .i64 0, .int .i64 0, .int .i64 0, .int .i64 0, .string (⟨#[]⟩ : ByteArray), .slice none 0 0]) ?_ 0 _ rfl; (with_reducible repeat (first | refine blk_drewN ?_ _ | refine blk_drew ?_ | refine blk_alloc ?_ _)); exact BK199.out) hb); replace HB := qH hb))
                   go_roundg k4
                   case measure => have := HJ3.out; have := HK2.out; have := HK3.out; have := HK4.out; omega
                   case rel => exact ⟨(wrap64 (x77_4 + 1)), qT, H', ⟨by have := HJ3.out; have := HK2.out; have := HK3.out; have := HK4.out; omega⟩, ⟨qK BK194.out⟩, ⟨qB⟩⟩
                  ·rw [if_neg c34] at H
                   obtain ⟨c34b0, c34b1⟩ := qn c34
                   obtain rfl := Option.some.inj H
                   have p198 : 0 ≤ (x77_4 : Int) := of_decide_eq_true qA
                   have q198 : x77_4 < ((rd_LIns l0_3 x71_3).length : Int) := of_decide_eq_true qA
                   obtain ⟨ad198, A198_5, c198_5, e198, hx198_0, hx198_1, hx198_2, hx198_3, hx198_4, hx198_5, hl198_5, hi198_5⟩ := at_TIns HR197_0.out x77_4 p198 q198
                   cases e198
                   replace hx198_0 := (HB.out.cell (World.block_lt_of_cell? w _ hx198_0)).trans hx198_0
                   replace hx198_1 := (HB.out.cell (World.block_lt_of_cell? w _ hx198_1)).trans hx198_1
                   replace hx198_2 := (HB.out.cell (World.block_lt_of_cell? w _ hx198_2)).trans hx198_2
                   replace hx198_3 := (HB.out.cell (World.block_lt_of_cell? w _ hx198_3)).trans hx198_3
                   replace hx198_4 := (HB.out.cell (World.block_lt_of_cell? w _ hx198_4)).trans hx198_4
                   replace hx198_5 := (HB.out.cell (World.block_lt_of_cell? w _ hx198_5)).trans hx198_5
                   have HR198_5 := Aside0.mk hi198_5
                   have HC198_5 := Aside0.mk hl198_5
                   clear hi198_5 hl198_5
                   replace p198 := eq_true p198
                   replace q198 := eq_true q198
                   go_wp2_with (first | ((with_reducible refine gate_dst (N := 9) rfl ?_); (try (refine gate_guard (by rfl) ?_; dsimp only)); refine box_event (by rfl) (N := 9) (by rfl) (cs := #[.int .i64 0, .int .i64 0, .int .i64 0, .int .i64 0, .string (⟨#[]⟩ : ByteArray), .slice none 0 0]) (t := 31) ?hr ?_; (case hr => first | (go_simp; done) | (go_simp; rfl)); intro gb199 hg w40 hbox hb; have BK199 := Aside0.mk (hbox); have GW199 := qG hg; have GE199 := GW199; replace HB := qH hb; have NB194_199 := Aside0.mk ((by rw [hg]; exact Nat.ne_of_lt (blk_lt (g := gb194) (o := .cells #[.string a0_0, .int .i64 a0_1, .int .i64 a0_2, .slice (some ad197) l0_3.length c0_3] 34 (0, 0)) (qK BK194.out)) : gb194 ≠ gb199)); have NB199_194 := Aside0.mk ((by rw [hg]; exact Nat.ne_of_gt (blk_lt (g := gb194) (o := .cells #[.string a0_0, .int .i64 a0_1, .int .i64 a0_2, .slice (some ad197) l0_3.length c0_3] 34 (0, 0)) (qK BK194.out)) : gb199 ≠ gb194)); replace BK194 := qW BK194 hb; clear hb hbox hg; have hnb41 := NB199_194.out; have hnc41 := NB194_199.out; obtain ⟨hcz42_0, hcz42_1, hcz42_2, hcz42_3, hcz42_4, hcz42_5, hfz42_0, hfz42_1, hfz42_2, hfz42_3, hfz42_4, hfz42_5⟩ := bk6 BK199.out; obtain ⟨hcz43_0, hcz43_1, hcz43_2, hcz43_3, hfz43_0, hfz43_1, hfz43_2, hfz43_3⟩ := bk4 BK194.out) | ((with_reducible refine gate_callee (f := 72) rfl ?_); refine goesL_ (some 89) rfl rfl Tryd.func72 (by kernel_rfl) rfl #[.agg #[.string a0_0, .int .i64 a0_1, .int .i64 a0_2, .slice (some ad197) l0_3.length c0_3], .agg #[.int .i64 ((rd_TIns (rd_LIns l0_3 x71_3) x77_4).f0), .int .i64 ((rd_TIns (rd_LIns l0_3 x71_3) x77_4).f1), .int .i64 ((rd_TIns (rd_LIns l0_3 x71_3) x77_4).f2), .int .i64 ((rd_TIns (rd_LIns l0_3 x71_3) x77_4).f3), .string ((rd_TIns (rd_LIns l0_3 x71_3) x77_4).f4), .slice A198_5 ((rd_TIns (rd_LIns l0_3 x71_3) x77_4).f5).length c198_5], .bool (x77_4 == (wrap64 (((rd_LIns l0_3 x71_3).length : Int) - 1)))] rfl qL ?_; (with_reducible refine (ir_one.calls k4 a0_0 a0_1 a0_2 _ _ l0_3 ((rd_TIns (rd_LIns l0_3 x71_3) x77_4).f0) ((rd_TIns (rd_LIns l0_3 x71_3) x77_4).f1) ((rd_TIns (rd_LIns l0_3 x71_3) x77_4).f2) ((rd_TIns (rd_LIns l0_3 x71_3) x77_4).f3) ((rd_TIns (rd_LIns l0_3 x71_3) x77_4).f4) _ _ ((rd_TIns (rd_LIns l0_3 x71_3) x77_4).f5) (x77_4 == (wrap64 (((rd_LIns l0_3 x71_3).length : Int) - 1))) t200 _ ?side1 ?side2 ?side3 ?side4 A33.out (hL := ?side99)).mono ?_); (case side1 => exact Kd.C_below HR0_3.out qB); (case side2 => exact HC0_3.out); (case side3 => exact Kd.C_below HR198_5.out qB); (case side4 => exact HC198_5.out); (case side99 => exact LaidW.below HLd.out qB); rintro e w44 ⟨rfl, hb⟩; refine ⟨_, rfl, ?_⟩; replace BK194 := Aside0.mk (blk_below (g := gb194) (o := .cells #[.string a0_0, .int .i64 a0_1, .int .i64 a0_2, .slice (some ad197) l0_3.length c0_3] 34 (0, 0)) (by (with_reducible repeat (first | refine blk_drewN ?_ _ | refine blk_drew ?_ | refine blk_alloc ?_ _)); refine blk_far ?_ NB194_199.out _; (with_reducible repeat (first | refine blk_drewN ?_ _ | refine blk_drew ?_ | refine blk_alloc ?_ _)); refine blk_far ?_ NB194_199.out _; (with_reducible repeat (first | refine blk_drewN ?_ _ | refine blk_drew ?_ | refine blk_alloc ?_ _)); refine blk_far ?_ NB194_199.out _; (with_reducible repeat (first | refine blk_drewN ?_ _ | refine blk_drew ?_ | refine blk_alloc ?_ _)); refine blk_far ?_ NB194_199.out _; (with_reducible repeat (first | refine blk_drewN ?_ _ | refine blk_drew ?_ | refine blk_alloc ?_ _)); refine blk_far ?_ NB194_199.out _; (with_reducible repeat (first | refine blk_drewN ?_ _ | refine blk_drew ?_ | refine blk_alloc ?_ _)); refine blk_far ?_ NB194_199.out _; (with_reducible repeat (first | refine blk_drewN ?_ _ | refine blk_drew ?_ | refine blk_alloc ?_ _)); exact BK194.out) hb); replace BK199 := Aside0.mk (blk_below (g := gb199) (o := .cells #[.int .i64 ((rd_TIns (rd_LIns l0_3 x71_3) x77_4).f0), .int .i64 ((rd_TIns (rd_LIns l0_3 x71_3) x77_4).f1), .int .i64 ((rd_TIns (rd_LIns l0_3 x71_3) x77_4).f2), .int .i64 ((rd_TIns (rd_LIns l0_3 x71_3) x77_4).f3), .string ((rd_TIns (rd_LIns l0_3 x71_3) x77_4).f4), .slice A198_5 ((rd_TIns (rd_LIns l0_3 x71_3) x77_4).f5).length c198_5] 31 (0, 0)) (by (with_reducible repeat (first | refine blk_drewN ?_ _ | refine blk_drew ?_ | refine blk_alloc ?_ _)); refine blk_put (cs := #[.int .i64 ((rd_TIns (rd_LIns l0_3 x71_3) x77_4).f0), .int .i64 ((rd_TIns (rd_LIns l0_3 x71_3) x77_4).f1), .int .i64 ((rd_TIns (rd_LIns l0_3 x71_3) x77_4).f2), .int .i64 ((rd_TIns (rd_LIns l0_3 x71_3) x77_4).f3), .string ((rd_TIns (rd_LIns l0_3 x71_3) x77_4).f4), .slice none 0 0]) ?_ 5 _ rfl; (with_reducible repeat (first | refine blk_drewN ?_ _ | refine blk_drew ?_ | refine blk_alloc ?_ _)); refine blk_put (cs := #[.int .i64 ((rd_TIns (rd_LIns l0_3 x71_3) x77_4).f0), .int .i64 ((rd_TIns (rd_LIns l0_3 x71_3) x77_4).f1), .int .i64 ((rd_TIns (rd_LIns l0_3 x71_3) x77_4).f2), .int .i64 ((rd_TIns (rd_LIns l0_3 x71_3) x77_4).f3), .string (⟨#[]⟩ : ByteArray), .slice none 0 0]) ?_ 4 _ rfl; (with_reducible repeat (first | refine blk_drewN ?_ _ | refine blk_drew ?_ | refine blk_alloc ?_ _)); refine blk_put (cs := #[.int .i64 ((rd_TIns (rd_LIns l0_3 x71_3) x77_4).f0), .int .i64 ((rd_TIns (rd_LIns l0_3 x71_3) x77_4).f1), .int .i64 ((rd_TIns (rd_LIns l0_3 x71_3) x77_4).f2), .int .i64 0, .string (⟨#[]⟩ : ByteArray), .slice none 0 0]) ?_ 3 _ rfl; (with_reducible repeat (first | refine blk_drewN ?_ _ | refine blk_drew ?_ | refine blk_alloc ?_ _)); refine blk_put (cs := #[.int .i64 ((rd_TIns (rd_LIns l0_3 x71_3) x77_4).f0), .int .i64 ((rd_TIns (rd_LIns l0_3 x71_3) x77_4).f1), .int .i64 0, .int .i64 0, .string (⟨#[]⟩ : ByteArray), .slice none 0 0]) ?_ 2 _ rfl; (with_reducible repeat (first | refine blk_drewN ?_ _ | refine blk_drew ?_ | refine blk_alloc ?_ _)); refine blk_put (cs := #[.int .i64 ((rd_TIns (rd_LIns l0_3 x71_3) x77_4).f0), .int .i64 0, .int .i64 0, .int .i64 0, .string (⟨#[]⟩ : ByteArray), .slice none 0 0]) ?_ 1 _ rfl; (with_reducible repeat (first | refine blk_drewN ?_ _ | refine blk_drew ?_ | refine blk_alloc ?_ _)); refine blk_put (cs := #[.int .i64 0, .int .i64 0, .int .i64 0, .int .i64 0, .string (⟨#[]⟩ : ByteArray), .slice none 0 0]) ?_ 0 _ rfl; (with_reducible repeat (first | refine blk_drewN ?_ _ | refine blk_drew ?_ | refine blk_alloc ?_ _)); exact BK199.out) hb); replace HB := qH hb))
                   go_ret
                   exact ⟨qE, qB⟩
                 ·rw [if_neg c32] at H
                  exact absurd H (by simp)
                ·rw [if_neg c31] at H
                 exact absurd H (by simp)
               ·rw [if_neg c30] at H
                have c30b0 := decide_eq_false c30
                clear c30
                have H' := Aside0.mk H
                clear H
                go_wp2
                go_roundg k4
                case measure => have := HJ3.out; have := HK2.out; have := HK3.out; have := HK4.out; omega
                case rel => exact ⟨(wrap64 (x71_3 + 1)), qT, H', ⟨by have := HJ3.out; have := HK2.out; have := HK3.out; have := HK4.out; omega⟩, ⟨qK BK194.out⟩, ⟨qB⟩⟩
            ·rw [if_neg c29] at H
             exact absurd H (by simp)
           ·rw [if_neg c28] at H
            exact absurd H (by simp)
          ·rw [if_neg c27] at H
           have c27b0 := decide_eq_false c27
           clear c27
           obtain rfl := Option.some.inj H
           go_wp2
           go_ret
           exact ⟨qE, qB⟩
 ·replace c3 := Bool.eq_false_iff.mpr c3
  subst c3
  have H1 : (some 70) = some r := by rw [if_neg (show ¬ (false = true) by decide)] at H; exact H
  clear H
  have H := H1
  clear H1
  obtain rfl := Option.some.inj H
  go_enter Tryd.func49, Tryd.ntmps49
  go_wp2_with (first | ((with_reducible refine gate_dst (N := 1) rfl ?_); (try (refine gate_guard (by rfl) ?_; dsimp only)); refine box_event (by rfl) (N := 1) (by rfl) (cs := #[.string a0_0, .int .i64 a0_1, .int .i64 a0_2, .slice A0_3 l0_3.length c0_3]) (t := 34) ?hr ?_; (case hr => first | (go_simp; done) | (go_simp; rfl)); intro gb194 hg w45 hbox hb; have BK194 := Aside0.mk (hbox); have GW194 := qG hg; have GE194 := GW194; replace HB := qH hb; clear hb hbox hg; obtain ⟨hcz46_0, hcz46_1, hcz46_2, hcz46_3, hfz46_0, hfz46_1, hfz46_2, hfz46_3⟩ := bk4 BK194.out) | ((with_reducible refine gate_callee (f := 40) rfl ?_); refine goesL_ (some 13) rfl rfl Tryd.func40 (by kernel_rfl) rfl #[.string a0_0] rfl qL ?_; (with_reducible refine (ir_Name.calls a0_0 false _ A2.out).mono ?_); rintro e w47 ⟨rfl, hb⟩; refine ⟨_, rfl, ?_⟩; replace BK194 := qW BK194 hb; replace HB := qH hb; (try clear hb)))
  go_ret
  exact ⟨qE, qB⟩

end Go.Proofs.YtebnnknijbgekaaDoor.Q
namespace Go.Proofs.YtebnnknijbgekaaDoor.Q
open Go.RowKit Go.Proofs.YtebnnknijbgekaaDoorW.PrintWords Go.Proofs.YtebnnknijbgekaaDoorW.PrintLast Go.Proofs.YtebnnknijbgekaaDoorW.PrintMore
attribute [local go_sem] max2_int min2_int max_two min_two max_three min_three max_four min_four   -- for this text's walks alone
set_option linter.unusedVariables false
set_option linter.unusedSimpArgs false

/-! ### ir_Def: function 48 -/
def ir_Def.f (a0_0 : Int) (a0_1 : Int) (a0_2 : Int) (a0_3 : Int) (a0_4 : ByteArray) (l0_5 : List Int) : Option (Int) := (ir_shape.f a0_0).bind fun t215 => (if t215.toList = ([] : List UInt8) then (some (-1)) else (if 0 < (t215.size : Int) then (if (bt t215 0) = 114 then (some a0_1) else (some (-1))) else (none)))
set_option maxHeartbeats 8000000 in
set_option maxRecDepth 100000 in
theorem ir_Def.calls (a0_0 : Int) (a0_1 : Int) (a0_2 : Int) (a0_3 : Int) (a0_4 : ByteArray) (A0_5 : Option Addr) (c0_5 : Nat) (l0_5 : List Int) (r : Int) (w : World) (hL : LaidW w) (hr0_5 : Kd.C (Kd.int .i64) w A0_5 l0_5.length l0_5) (hc0_5 : l0_5.length ≤ c0_5) (h : ir_Def.f a0_0 a0_1 a0_2 a0_3 a0_4 l0_5 = some r) :
  Calls Tryd.prog 48 #[.agg #[.int .i64 a0_0, .int .i64 a0_1, .int .i64 a0_2, .int .i64 a0_3, .string a0_4, .slice A0_5 l0_5.length c0_5]] w fun e w' => e = .returned (.int .i64 r) ∧ Below w.heap.size w w' := by
 have hu31 := Tryd.underlying31
 have HR0_5 := Aside0.mk hr0_5
 have HC0_5 := Aside0.mk hc0_5
 clear hr0_5 hc0_5
 have HB := Aside0.mk (Below.refl w.heap.size w)
 have HLd := Aside0.mk hL
 clear hL
 have H := h; clear h; unfold ir_Def.f at H
 replace H := qb H; obtain ⟨t215, A2, H⟩ := H
 by_cases c3 : t215.toList = ([] : List UInt8)
 ·rw [if_pos c3] at H
  obtain ⟨c3b0, c3b1⟩ := qe c3; clear c3
  obtain rfl := Option.some.inj H
  go_enter Tryd.func48, Tryd.ntmps48
  go_wp2_with (first | ((with_reducible refine gate_dst (N := 1) rfl ?_); refine box_event (by rfl) (N := 1) (by rfl) (cs := #[.int .i64 a0_0, .int .i64 a0_1, .int .i64 a0_2, .int .i64 a0_3, .string a0_4, .slice A0_5 l0_5.length c0_5]) (t := 31) ?hr ?_; (case hr => first | (go_simp; done) | (go_simp; rfl)); intro gb214 hg w4 hbox hb; have BK214 := Aside0.mk (hbox); have GW214 := qG hg; have GE214 := GW214; replace HB := qH hb; clear hb hbox hg; obtain ⟨hcz5_0, hcz5_1, hcz5_2, hcz5_3, hcz5_4, hcz5_5, hfz5_0, hfz5_1, hfz5_2, hfz5_3, hfz5_4, hfz5_5⟩ := bk6 BK214.out) | ((with_reducible refine gate_callee (f := 71) rfl ?_); refine goesL_ (some 6) rfl rfl Tryd.func71 (by kernel_rfl) rfl #[.int .i64 a0_0] rfl qL ?_; (with_reducible refine (ir_shape.calls a0_0 t215 _ A2.out (hL := ?side99)).mono ?_); (case side99 => exact LaidW.below HLd.out qB); rintro e w' ⟨rfl, ⟨nd, rfl⟩⟩; refine ⟨_, rfl, ?_⟩))
  go_ret
  exact ⟨qE, qB⟩
 ·rw [if_neg c3] at H
  obtain ⟨c3b0, c3b1⟩ := qn c3
  by_cases c6 : 0 < (t215.size : Int)
  ·rw [if_pos c6] at H
   have c6b0 := decide_eq_true c6
   have c6b1 : decide (0 < t215.size) = true := decide_eq_true (by omega)
   clear c6
   by_cases c8 : (bt t215 0) = 114
   ·rw [if_pos c8] at H
    obtain ⟨c8b0, c8b1⟩ := qe c8; clear c8
    obtain rfl := Option.some.inj H
    go_enter Tryd.func48, Tryd.ntmps48
    go_wp2_with (first | ((with_reducible refine gate_dst (N := 1) rfl ?_); refine box_event (by rfl) (N := 1) (by rfl) (cs := #[.int .i64 a0_0, .int .i64 a0_1, .int .i64 a0_2, .int .i64 a0_3, .string a0_4, .slice A0_5 l0_5.length c0_5]) (t := 31) ?hr ?_; (case hr => first | (go_simp; done) | (go_simp; rfl)); intro gb214 hg w9 hbox hb; have BK214 := Aside0.mk (hbox); have GW214 := qG hg; have GE214 := GW214; replace HB := qH hb; clear hb hbox hg; obtain ⟨hcz10_0, hcz10_1, hcz10_2, hcz10_3, hcz10_4, hcz10_5, hfz10_0, hfz10_1, hfz10_2, hfz10_3, hfz10_4, hfz10_5⟩ := bk6 BK214.out) | ((with_reducible refine gate_callee (f := 71) rfl ?_); refine goesL_ (some 6) rfl rfl Tryd.func71 (by kernel_rfl) rfl #[.int .i64 a0_0] rfl qL ?_; (with_reducible refine (ir_shape.calls a0_0 t215 _ A2.out (hL := ?side99)).mono ?_); (case side99 => exact LaidW.below HLd.out qB); rintro e w' ⟨rfl, ⟨nd, rfl⟩⟩; refine ⟨_, rfl, ?_⟩; have p7 : 0 ≤ (0 : Int) := (by omega); have q7 : 0 < t215.size := (by have : (0 : Int) < (t215.size : Int) := of_decide_eq_true qA; omega); have hx7 : ∀ h : 0 < t215.size, ((t215[0]'h).toNat : Int) = bt t215 0 := bt_at t215 0; clear p7; have qi7 : (0 < (t215.size : Int)) = True := eq_true (of_decide_eq_true qA); replace q7 := eq_true q7))
    go_ret
    exact ⟨qE, qB⟩
   ·rw [if_neg c8] at H
    obtain ⟨c8b0, c8b1⟩ := qn c8
    obtain rfl := Option.some.inj H
    go_enter Tryd.func48, Tryd.ntmps48
    go_wp2_with (first | ((with_reducible refine gate_dst (N := 1) rfl ?_); refine box_event (by rfl) (N := 1) (by rfl) (cs := #[.int .i64 a0_0, .int .i64 a0_1, .int .i64 a0_2, .int .i64 a0_3, .string a0_4, .slice A0_5 l0_5.length c0_5]) (t := 31) ?hr ?_; (case hr => first | (go_simp; done) | (go_simp; rfl)); intro gb214 hg w11 hbox hb; have BK214 := Aside0.mk (hbox); have GW214 := qG hg; have GE214 := GW214; replace HB := qH hb; clear hb hbox hg; obtain ⟨hcz12_0, hcz12_1, hcz12_2, hcz12_3, hcz12_4, hcz12_5, hfz12_0, hfz12_1, hfz12_2, hfz12_3, hfz12_4, hfz12_5⟩ := bk6 BK214.out) | ((with_reducible refine gate_callee (f := 71) rfl ?_); refine goesL_ (some 6) rfl rfl Tryd.func71 (by kernel_rfl) rfl #[.int .i64 a0_0] rfl qL ?_; (with_reducible refine (ir_shape.calls a0_0 t215 _ A2.out (hL := ?side99)).mono ?_); (case side99 => exact LaidW.below HLd.out qB); rintro e w' ⟨rfl, ⟨nd, rfl⟩⟩; refine ⟨_, rfl, ?_⟩; have p7 : 0 ≤ (0 : Int) := (by omega); have q7 : 0 < t215.size := (by have : (0 : Int) < (t215.size : Int) := of_decide_eq_true qA; omega); have hx7 : ∀ h : 0 < t215.size, ((t215[0]'h).toNat : Int) = bt t215 0 := bt_at t215 0; clear p7; have qi7 : (0 < (t215.size : Int)) = True := eq_true (of_decide_eq_true qA); replace q7 := eq_true q7))
    go_ret
    exact ⟨qE, qB⟩
  ·rw [if_neg c6] at H
   exact absurd H (by simp)

end Go.Proofs.YtebnnknijbgekaaDoor.Q
namespace Go.Proofs.YtebnnknijbgekaaDoor.Q
open Go.RowKit Go.Proofs.YtebnnknijbgekaaDoorW.PrintWords Go.Proofs.YtebnnknijbgekaaDoorW.PrintLast Go.Proofs.YtebnnknijbgekaaDoorW.PrintMore
attribute [local go_sem] max2_int min2_int max_two min_two max_three min_three max_four min_four   -- for this text's walks alone
set_option linter.unusedVariables false
set_option linter.unusedSimpArgs false

/-! ### ir_Uses: function 59 -/
def ir_Uses.j0 : Nat → List Int → ByteArray → Int → Int → Int → Int → ByteArray → List Int → Option (List Int)
 | 0, _, _, _, _, _, _, _, _ => none
 | k + 1, x3, x4, x217000, x217001, x217002, x217003, x217004, x217005 => if 2 < (x4.size : Int) then (if (bt x4 2) = 114 then (if x3.length < 17592186044416 then ((some (x3 ++ [x217003] : List Int)).bind fun y221 => (if x217000 = 11 then (if y221.length + x217005.length < 17592186044416 then (some (y221 ++ x217005)) else (none)) else (some y221))) else (none)) else (if x217000 = 11 then (if x3.length + x217005.length < 17592186044416 then (some (x3 ++ x217005)) else (none)) else (some x3))) else (none)
def ir_Uses.f (k : Nat) (a0_0 : Int) (a0_1 : Int) (a0_2 : Int) (a0_3 : Int) (a0_4 : ByteArray) (l0_5 : List Int) : Option (List Int) := (ir_shape.f a0_0).bind fun t217 => (if t217.toList = ([] : List UInt8) then (some ([] : List Int)) else (if 1 < (t217.size : Int) then (if (bt t217 1) = 114 then (if ([] : List Int).length < 17592186044416 then (ir_Uses.j0 k (([] : List Int) ++ [a0_2]) t217 a0_0 a0_1 a0_2 a0_3 a0_4 l0_5) else (none)) else (ir_Uses.j0 k ([] : List Int) t217 a0_0 a0_1 a0_2 a0_3 a0_4 l0_5)) else (none)))
theorem ir_Uses.mono_l : ∀ k, (∀ y0 y1 y2 y3 y4 y5 y6 y7, LeO (ir_Uses.j0 k y0 y1 y2 y3 y4 y5 y6 y7) (ir_Uses.j0 (k + 1) y0 y1 y2 y3 y4 y5 y6 y7))
 | 0 => fun _ _ _ _ _ _ _ _ r h => by simp [ir_Uses.j0] at h
 | k + 1 => by
  have ih0 := ir_Uses.mono_l k
  ·intro y0 y1 y2 y3 y4 y5 y6 y7
   unfold ir_Uses.j0
   repeat' first | (with_reducible exact ih0 _ _ _ _ _ _ _ _) | (with_reducible exact LeO.refl _) | (with_reducible exact LeO.none _) | (with_reducible refine LeO.ite ?_ ?_) | (with_reducible refine LeO.bind ?_ (fun _ => ?_)) | exact LeO.none _ | refine LeO.ite ?_ ?_ | refine LeO.bind ?_ (fun _ => ?_)
theorem ir_Uses.mono : ∀ a0 a1 a2 a3 a4 a5 k, LeO (ir_Uses.f k a0 a1 a2 a3 a4 a5) (ir_Uses.f (k + 1) a0 a1 a2 a3 a4 a5) := by
 intro a0 a1 a2 a3 a4 a5 k
 have ih0 := ir_Uses.mono_l k
 unfold ir_Uses.f
 repeat' first | (with_reducible exact ih0 _ _ _ _ _ _ _ _) | (with_reducible exact LeO.refl _) | (with_reducible exact LeO.none _) | (with_reducible refine LeO.ite ?_ ?_) | (with_reducible refine LeO.bind ?_ (fun _ => ?_)) | exact LeO.none _ | refine LeO.ite ?_ ?_ | refine LeO.bind ?_ (fun _ => ?_)
set_option maxHeartbeats 8000000 in
set_option maxRecDepth 100000 in
theorem ir_Uses.calls (k : Nat) (a0_0 : Int) (a0_1 : Int) (a0_2 : Int) (a0_3 : Int) (a0_4 : ByteArray) (A0_5 : Option Addr) (c0_5 : Nat) (l0_5 : List Int) (r : List Int) (w : World) (hL : LaidW w) (hr0_5 : Kd.C (Kd.int .i64) w A0_5 l0_5.length l0_5) (hc0_5 : l0_5.length ≤ c0_5) (h : ir_Uses.f k a0_0 a0_1 a0_2 a0_3 a0_4 l0_5 = some r) :
  Calls Tryd.prog 59 #[.agg #[.int .i64 a0_0, .int .i64 a0_1, .int .i64 a0_2, .int .i64 a0_3, .string a0_4, .slice A0_5 l0_5.length c0_5]] w fun e w' => ∃ v0_ : Value, e = .returned (v0_) ∧ Kd.R (Kd.int .i64) 3 w' w.heap.size (fun _ => True) v0_ r ∧ Below w.heap.size w w' := by
 have hu31 := Tryd.underlying31
 have HR0_5 := Aside0.mk hr0_5
 have HC0_5 := Aside0.mk hc0_5
 clear hr0_5 hc0_5
 have HB := Aside0.mk (Below.refl w.heap.size w)
 have HLd := Aside0.mk hL
 clear hL
 have H := h; clear h; unfold ir_Uses.f at H
 replace H := qb H; obtain ⟨t217, A2, H⟩ := H
 by_cases c3 : t217.toList = ([] : List UInt8)
 ·rw [if_pos c3] at H
  obtain ⟨c3b0, c3b1⟩ := qe c3; clear c3
  obtain rfl := Option.some.inj H
  go_enter Tryd.func59, Tryd.ntmps59
  go_wp2_with (first | ((with_reducible refine gate_dst (N := 1) rfl ?_); refine box_event (by rfl) (N := 1) (by rfl) (cs := #[.int .i64 a0_0, .int .i64 a0_1, .int .i64 a0_2, .int .i64 a0_3, .string a0_4, .slice A0_5 l0_5.length c0_5]) (t := 31) ?hr ?_; (case hr => first | (go_simp; done) | (go_simp; rfl)); intro gb216 hg w4 hbox hb; have BK216 := Aside0.mk (hbox); have GW216 := qG hg; have GE216 := GW216; replace HB := qH hb; clear hb hbox hg; obtain ⟨hcz5_0, hcz5_1, hcz5_2, hcz5_3, hcz5_4, hcz5_5, hfz5_0, hfz5_1, hfz5_2, hfz5_3, hfz5_4, hfz5_5⟩ := bk6 BK216.out) | ((with_reducible refine gate_callee (f := 71) rfl ?_); refine goesL_ (some 7) rfl rfl Tryd.func71 (by kernel_rfl) rfl #[.int .i64 a0_0] rfl qL ?_; (with_reducible refine (ir_shape.calls a0_0 t217 _ A2.out (hL := ?side99)).mono ?_); (case side99 => exact LaidW.below HLd.out qB); rintro e w' ⟨rfl, ⟨nd, rfl⟩⟩; refine ⟨_, rfl, ?_⟩))
  go_ret
  exact ⟨_, qE, by first | exact Kd.R_nil _ _ _ _ _ | exact Kd.N_nil _ _ _ _ _ | exact Kd.V_nil _ _ _ _ _ | exact Kd.Q_nil _ _ _ _ _ | exact Kd.S_nil _ _ _ _ _, qB⟩
 ·rw [if_neg c3] at H
  obtain ⟨c3b0, c3b1⟩ := qn c3
  by_cases c6 : 1 < (t217.size : Int)
  ·rw [if_pos c6] at H
   have c6b0 := decide_eq_true c6
   have c6b1 : decide (1 < t217.size) = true := decide_eq_true (by omega)
   clear c6
   have HC8 := Aside0.mk H
   clear H
   go_enter Tryd.func59, Tryd.ntmps59
   go_upto_if 12 with (first | ((with_reducible refine gate_dst (N := 1) rfl ?_); refine box_event (by rfl) (N := 1) (by rfl) (cs := #[.int .i64 a0_0, .int .i64 a0_1, .int .i64 a0_2, .int .i64 a0_3, .string a0_4, .slice A0_5 l0_5.length c0_5]) (t := 31) ?hr ?_; (case hr => first | (go_simp; done) | (go_simp; rfl)); intro gb216 hg w9 hbox hb; have BK216 := Aside0.mk (hbox); have GW216 := qG hg; have GE216 := GW216; replace HB := qH hb; clear hb hbox hg; obtain ⟨hcz10_0, hcz10_1, hcz10_2, hcz10_3, hcz10_4, hcz10_5, hfz10_0, hfz10_1, hfz10_2, hfz10_3, hfz10_4, hfz10_5⟩ := bk6 BK216.out) | ((with_reducible refine gate_callee (f := 71) rfl ?_); refine goesL_ (some 7) rfl rfl Tryd.func71 (by kernel_rfl) rfl #[.int .i64 a0_0] rfl qL ?_; (with_reducible refine (ir_shape.calls a0_0 t217 _ A2.out (hL := ?side99)).mono ?_); (case side99 => exact LaidW.below HLd.out qB); rintro e w' ⟨rfl, ⟨nd, rfl⟩⟩; refine ⟨_, rfl, ?_⟩; have p7 : 0 ≤ (1 : Int) := (by omega); have q7 : 1 < t217.size := (by have : (1 : Int) < (t217.size : Int) := of_decide_eq_true qA; omega); have hx7 : ∀ h : 1 < t217.size, ((t217[1]'h).toNat : Int) = bt t217 1 := bt_at t217 1; clear p7; have qi7 : (1 < (t217.size : Int)) = True := eq_true (of_decide_eq_true qA); replace q7 := eq_true q7))
   (try simp only [Act.put, List.setIfInBounds_toArray, List.set_cons_zero, List.set_cons_succ])
   go_cut [3] (fun v3 wc => ∃ (kq : Nat) (x3_7 : List Int), Aside0 (ir_Uses.j0 kq x3_7 t217 a0_0 a0_1 a0_2 a0_3 a0_4 l0_5 = some r) ∧ Aside0 (kq ≤ k) ∧ Aside0 (Kd.R (Kd.int .i64) 3 wc w.heap.size (fun _ => True) v3 x3_7) ∧ Aside0 (wc.heap[gb216]? = some (.cells #[.int .i64 a0_0, .int .i64 a0_1, .int .i64 a0_2, .int .i64 a0_3, .string a0_4, (.slice A0_5 l0_5.length c0_5)] 31 (0, 0))) ∧ Aside0 (Below w.heap.size w wc))
   case first =>
    have H := HC8.out
    clear HC8
    by_cases c11 : (bt t217 1) = 114
    ·rw [if_pos c11] at H
     obtain ⟨c11b0, c11b1⟩ := qe c11; clear c11
     (first | rw [c11b0] | (simp only [i64_w, i32_w]; rw [c11b0]) | skip)
     by_cases c12 : ([] : List Int).length < 17592186044416
     ·rw [if_pos c12] at H
      have LMc12 := Aside0.mk c12
      clear c12
      obtain ⟨y218, hy218⟩ : ∃ y_ : List Int, y_ = (([] : List Int) ++ [a0_2]) := ⟨_, rfl⟩
      replace H : (ir_Uses.j0 k y218 t217 a0_0 a0_1 a0_2 a0_3 a0_4 l0_5) = some r := by first | (rw [hy218]; with_reducible exact H) | (have H2_ := (Option.bind_some _ _).symm.trans H; rw [hy218]; with_reducible exact H2_) | (have H2_ := (Option.bind_some _ _).symm.trans H; with_reducible exact H2_) | with_reducible exact H | (rw [hy218]; exact H) | exact H
      have Ny218 := Aside0.mk hy218
      clear hy218
      have H' := Aside0.mk H
      clear H
      obtain ⟨hcz13_0, hcz13_1, hcz13_2, hcz13_3, hcz13_4, hcz13_5, hfz13_0, hfz13_1, hfz13_2, hfz13_3, hfz13_4, hfz13_5⟩ := bk6 BK216.out
      go_wp2_with (first | ((with_reducible refine gate_builtin (b := .append) (xs := #[.tmp 13, .tmp 16]) rfl ?_); at_builtin; refine Kd.R_append (Kd.int .i64) (w0 := w) w.heap.size rfl (.tmp 13) (.tmp 16) 29 3 (.int .i64 0) 8 rfl Tryd.underlying29 info3 rfl (by decide) (by omega) (.slice none 0 0) ([] : List Int) a0_2 [.int .i64 a0_2] (fun _ => True) (fun _ => False) rfl rfl ?aP (fun _ hk => hk.elim) ?aF ?aO ?aB ?aS ?aL ?_; (case aP => exact rfl); (case aB => exact qB); (case aF => exact (fun _ _ => trivial)); (case aO => exact ((Kd.R_nil _ _ _ _ (fun _ => True)))); (case aS => exact (below_size qB)); (case aL => have := LMc12.out; omega); intro v219 w14 ho hb hg hat; rw [← Ny218.out] at ho; replace BK216 := Aside0.mk (blk_grown (qK BK216.out) hg (by simp [Value.ownBlock])); replace HB := Aside0.mk (hb); have HO220 := Aside0.mk (ho); clear ho hb hg hat))
      go_meet
      case rel => exact ⟨_, (y218), H', ⟨qO⟩, ⟨qR HO220.out⟩, ⟨qK BK216.out⟩, ⟨qB⟩⟩
     ·rw [if_neg c12] at H
      exact absurd H (by simp)
    ·rw [if_neg c11] at H
     obtain ⟨c11b0, c11b1⟩ := qn c11
     (first | rw [c11b0] | (simp only [i64_w, i32_w]; rw [c11b0]) | skip)
     have H' := Aside0.mk H
     clear H
     go_wp2
     go_meet
     case rel => exact ⟨_, (([] : List Int)), H', ⟨qO⟩, ⟨by first | exact Kd.R_nil _ _ _ _ _ | exact Kd.N_nil _ _ _ _ _ | exact Kd.V_nil _ _ _ _ _ | exact Kd.Q_nil _ _ _ _ _ | exact Kd.S_nil _ _ _ _ _⟩, ⟨qK BK216.out⟩, ⟨qB⟩⟩
   case rest =>
    clear HC8
    try clear c1; try clear p2; try clear c3; try clear c3b0 c3b1; try clear c5; try clear c6; try clear c6b0 c6b1; try clear c7; try clear p7; try clear q7; try clear hx7; try clear qi7; try clear c11; try clear c11b0 c11b1; try clear c12; try clear hcz10_0 hcz10_1 hcz10_2 hcz10_3 hcz10_4 hcz10_5 hfz10_0 hfz10_1 hfz10_2 hfz10_3 hfz10_4 hfz10_5; try clear hcz13_0 hcz13_1 hcz13_2 hcz13_3 hcz13_4 hcz13_5 hfz13_0 hfz13_1 hfz13_2 hfz13_3 hfz13_4 hfz13_5; try clear hcz5_0 hcz5_1 hcz5_2 hcz5_3 hcz5_4 hcz5_5 hfz5_0 hfz5_1 hfz5_2 hfz5_3 hfz5_4 hfz5_5
    obtain ⟨kq, x3_7, HA, HJ7, HO_3, BK216, HB⟩ := hcut
    cases kq with
    | zero => exact absurd HA.out (by simp [ir_Uses.j0])
    | succ kj7 =>
     have H := HA.out
     clear HA
     simp only [ir_Uses.j0] at H
     by_cases c15 : 2 < (t217.size : Int)
     ·rw [if_pos c15] at H
      have c15b0 := decide_eq_true c15
      have c15b1 : decide (2 < t217.size) = true := decide_eq_true (by omega)
      clear c15
      by_cases c17 : (bt t217 2) = 114
      ·rw [if_pos c17] at H
       obtain ⟨c17b0, c17b1⟩ := qe c17; clear c17
       by_cases c18 : x3_7.length < 17592186044416
       ·rw [if_pos c18] at H
        have LMc18 := Aside0.mk c18
        clear c18
        obtain ⟨y221, hy221⟩ : ∃ y_ : List Int, y_ = (x3_7 ++ [a0_3]) := ⟨_, rfl⟩
        replace H : (if a0_0 = 11 then (if y221.length + l0_5.length < 17592186044416 then (some (y221 ++ l0_5)) else (none)) else (some y221)) = some r := by first | (rw [hy221]; with_reducible exact H) | (have H2_ := (Option.bind_some _ _).symm.trans H; rw [hy221]; with_reducible exact H2_) | (have H2_ := (Option.bind_some _ _).symm.trans H; with_reducible exact H2_) | with_reducible exact H | (rw [hy221]; exact H) | exact H
        have Ny221 := Aside0.mk hy221
        clear hy221
        by_cases c19 : a0_0 = 11
        ·rw [if_pos c19] at H
         obtain ⟨c19b0, c19b1⟩ := qe c19; clear c19
         by_cases c20 : y221.length + l0_5.length < 17592186044416
         ·rw [if_pos c20] at H
          have LMc20 := Aside0.mk c20
          clear c20
          obtain ⟨y224, hy224⟩ : ∃ y_ : List Int, y_ = (y221 ++ l0_5) := ⟨_, rfl⟩
          replace H : (some y224) = some r := by first | (rw [hy224]; with_reducible exact H) | (have H2_ := (Option.bind_some _ _).symm.trans H; rw [hy224]; with_reducible exact H2_) | (have H2_ := (Option.bind_some _ _).symm.trans H; with_reducible exact H2_) | with_reducible exact H | (rw [hy224]; exact H) | exact H
          have Ny224 := Aside0.mk hy224
          clear hy224
          obtain rfl := Option.some.inj H
          have p16 : 0 ≤ (2 : Int) := (by omega)
          have q16 : 2 < t217.size := (by have : (2 : Int) < (t217.size : Int) := of_decide_eq_true qA; omega)
          have hx16 : ∀ h : 2 < t217.size, ((t217[2]'h).toNat : Int) = bt t217 2 := bt_at t217 2
          clear p16
          have qi16 : (2 < (t217.size : Int)) = True := eq_true (of_decide_eq_true qA)
          replace q16 := eq_true q16
          obtain ⟨hcz21_0, hcz21_1, hcz21_2, hcz21_3, hcz21_4, hcz21_5, hfz21_0, hfz21_1, hfz21_2, hfz21_3, hfz21_4, hfz21_5⟩ := bk6 BK216.out
          go_wp2_with (first | ((with_reducible refine gate_builtin (b := .append) (xs := #[.tmp 21, .tmp 24]) rfl ?_); at_builtin; refine Kd.R_append (Kd.int .i64) (w0 := w) w.heap.size rfl (.tmp 21) (.tmp 24) 29 3 (.int .i64 0) 8 rfl Tryd.underlying29 info3 rfl (by decide) (by omega) u3 x3_7 a0_3 [.int .i64 a0_3] (fun _ => True) (fun _ => False) rfl rfl ?aP (fun _ hk => hk.elim) ?aF ?aO ?aB ?aS ?aL ?_; (case aP => exact rfl); (case aB => exact qB); (case aF => exact (fun _ _ => trivial)); (case aO => exact (qR HO_3.out)); (case aS => exact (below_size qB)); (case aL => have := LMc18.out; omega); intro v222 w22 ho hb hg hat; rw [← Ny221.out] at ho; replace BK216 := Aside0.mk (blk_grown (qK BK216.out) hg (Kd.R_ne HO_3.out BK216.out (by decide))); replace HB := Aside0.mk (hb); have HO223 := Aside0.mk (ho); clear HO_3; clear ho hb hg hat; obtain ⟨hcz23_0, hcz23_1, hcz23_2, hcz23_3, hcz23_4, hcz23_5, hfz23_0, hfz23_1, hfz23_2, hfz23_3, hfz23_4, hfz23_5⟩ := bk6 BK216.out) | ((with_reducible refine gate_builtin (b := .append) (xs := #[.tmp 29, .tmp 31]) rfl ?_); at_builtin; refine Kd.R_append_rows (Kd.int .i64) (w0 := w) w.heap.size rfl (.tmp 29) (.tmp 31) 29 3 (.int .i64 0) 8 rfl Tryd.underlying29 info3 rfl (by decide) (by omega) v222 y221 l0_5 _ _ _ (fun _ => True) (fun _ => False) rfl rfl ?aO ?aR (fun _ _ h => h) (fun _ h => h.elim) ?aF ?aB ?aS ?aL ?_; (case aR => exact qCB HR0_5.out); (case aB => exact qB); (case aF => exact (fun _ _ => trivial)); (case aO => exact (qR HO223.out)); (case aS => exact (below_size qB)); (case aL => have := LMc20.out; omega); intro v225 w24 ho hb hg hat; rw [← Ny224.out] at ho; replace BK216 := Aside0.mk (blk_grown (qK BK216.out) hg (Kd.R_ne HO223.out BK216.out (by decide))); replace HB := Aside0.mk (hb); have HO226 := Aside0.mk (ho); clear HO223; clear ho hb hg hat))
          go_ret
          exact ⟨_, qE, qR HO226.out, qB⟩
         ·rw [if_neg c20] at H
          exact absurd H (by simp)
        ·rw [if_neg c19] at H
         obtain ⟨c19b0, c19b1⟩ := qn c19
         obtain rfl := Option.some.inj H
         have p16 : 0 ≤ (2 : Int) := (by omega)
         have q16 : 2 < t217.size := (by have : (2 : Int) < (t217.size : Int) := of_decide_eq_true qA; omega)
         have hx16 : ∀ h : 2 < t217.size, ((t217[2]'h).toNat : Int) = bt t217 2 := bt_at t217 2
         clear p16
         have qi16 : (2 < (t217.size : Int)) = True := eq_true (of_decide_eq_true qA)
         replace q16 := eq_true q16
         obtain ⟨hcz25_0, hcz25_1, hcz25_2, hcz25_3, hcz25_4, hcz25_5, hfz25_0, hfz25_1, hfz25_2, hfz25_3, hfz25_4, hfz25_5⟩ := bk6 BK216.out
         go_wp2_with (first | ((with_reducible refine gate_builtin (b := .append) (xs := #[.tmp 21, .tmp 24]) rfl ?_); at_builtin; refine Kd.R_append (Kd.int .i64) (w0 := w) w.heap.size rfl (.tmp 21) (.tmp 24) 29 3 (.int .i64 0) 8 rfl Tryd.underlying29 info3 rfl (by decide) (by omega) u3 x3_7 a0_3 [.int .i64 a0_3] (fun _ => True) (fun _ => False) rfl rfl ?aP (fun _ hk => hk.elim) ?aF ?aO ?aB ?aS ?aL ?_; (case aP => exact rfl); (case aB => exact qB); (case aF => exact (fun _ _ => trivial)); (case aO => exact (qR HO_3.out)); (case aS => exact (below_size qB)); (case aL => have := LMc18.out; omega); intro v222 w26 ho hb hg hat; rw [← Ny221.out] at ho; replace BK216 := Aside0.mk (blk_grown (qK BK216.out) hg (Kd.R_ne HO_3.out BK216.out (by decide))); replace HB := Aside0.mk (hb); have HO223 := Aside0.mk (ho); clear HO_3; clear ho hb hg hat; obtain ⟨hcz27_0, hcz27_1, hcz27_2, hcz27_3, hcz27_4, hcz27_5, hfz27_0, hfz27_1, hfz27_2, hfz27_3, hfz27_4, hfz27_5⟩ := bk6 BK216.out))
         go_ret
         exact ⟨_, qE, qR HO223.out, qB⟩
       ·rw [if_neg c18] at H
        exact absurd H (by simp)
      ·rw [if_neg c17] at H
       obtain ⟨c17b0, c17b1⟩ := qn c17
       by_cases c28 : a0_0 = 11
       ·rw [if_pos c28] at H
        obtain ⟨c28b0, c28b1⟩ := qe c28; clear c28
        by_cases c29 : x3_7.length + l0_5.length < 17592186044416
        ·rw [if_pos c29] at H
         have LMc29 := Aside0.mk c29
         clear c29
         obtain ⟨y227, hy227⟩ : ∃ y_ : List Int, y_ = (x3_7 ++ l0_5) := ⟨_, rfl⟩
         replace H : (some y227) = some r := by first | (rw [hy227]; with_reducible exact H) | (have H2_ := (Option.bind_some _ _).symm.trans H; rw [hy227]; with_reducible exact H2_) | (have H2_ := (Option.bind_some _ _).symm.trans H; with_reducible exact H2_) | with_reducible exact H | (rw [hy227]; exact H) | exact H
         have Ny227 := Aside0.mk hy227
         clear hy227
         obtain rfl := Option.some.inj H
         have p16 : 0 ≤ (2 : Int) := (by omega)
         have q16 : 2 < t217.size := (by have : (2 : Int) < (t217.size : Int) := of_decide_eq_true qA; omega)
         have hx16 : ∀ h : 2 < t217.size, ((t217[2]'h).toNat : Int) = bt t217 2 := bt_at t217 2
         clear p16
         have qi16 : (2 < (t217.size : Int)) = True := eq_true (of_decide_eq_true qA)
         replace q16 := eq_true q16
         obtain ⟨hcz30_0, hcz30_1, hcz30_2, hcz30_3, hcz30_4, hcz30_5, hfz30_0, hfz30_1, hfz30_2, hfz30_3, hfz30_4, hfz30_5⟩ := bk6 BK216.out
         go_wp2_with (first | ((with_reducible refine gate_builtin (b := .append) (xs := #[.tmp 29, .tmp 31]) rfl ?_); at_builtin; refine Kd.R_append_rows (Kd.int .i64) (w0 := w) w.heap.size rfl (.tmp 29) (.tmp 31) 29 3 (.int .i64 0) 8 rfl Tryd.underlying29 info3 rfl (by decide) (by omega) u3 x3_7 l0_5 _ _ _ (fun _ => True) (fun _ => False) rfl rfl ?aO ?aR (fun _ _ h => h) (fun _ h => h.elim) ?aF ?aB ?aS ?aL ?_; (case aR => exact qCB HR0_5.out); (case aB => exact qB); (case aF => exact (fun _ _ => trivial)); (case aO => exact (qR HO_3.out)); (case aS => exact (below_size qB)); (case aL => have := LMc29.out; omega); intro v228 w31 ho hb hg hat; rw [← Ny227.out] at ho; replace BK216 := Aside0.mk (blk_grown (qK BK216.out) hg (Kd.R_ne HO_3.out BK216.out (by decide))); replace HB := Aside0.mk (hb); have HO229 := Aside0.mk (ho); clear HO_3; clear ho hb hg hat))
         go_ret
         exact ⟨_, qE, qR HO229.out, qB⟩
        ·rw [if_neg c29] at H
         exact absurd H (by simp)
       ·rw [if_neg c28] at H
        obtain ⟨c28b0, c28b1⟩ := qn c28
        obtain rfl := Option.some.inj H
        have p16 : 0 ≤ (2 : Int) := (by omega)
        have q16 : 2 < t217.size := (by have : (2 : Int) < (t217.size : Int) := of_decide_eq_true qA; omega)
        have hx16 : ∀ h : 2 < t217.size, ((t217[2]'h).toNat : Int) = bt t217 2 := bt_at t217 2
        clear p16
        have qi16 : (2 < (t217.size : Int)) = True := eq_true (of_decide_eq_true qA)
        replace q16 := eq_true q16
        obtain ⟨hcz32_0, hcz32_1, hcz32_2, hcz32_3, hcz32_4, hcz32_5, hfz32_0, hfz32_1, hfz32_2, hfz32_3, hfz32_4, hfz32_5⟩ := bk6 BK216.out
        go_wp2
        go_ret
        exact ⟨_, qE, qR HO_3.out, qB⟩
     ·rw [if_neg c15] at H
      exact absurd H (by simp)
  ·rw [if_neg c6] at H
   exact absurd H (by simp)

end Go.Proofs.YtebnnknijbgekaaDoor.Q
namespace Go.Proofs.YtebnnknijbgekaaDoor.Q
open Go.RowKit Go.Proofs.YtebnnknijbgekaaDoorW.PrintWords Go.Proofs.YtebnnknijbgekaaDoorW.PrintLast Go.Proofs.YtebnnknijbgekaaDoorW.PrintMore
attribute [local go_sem] max2_int min2_int max_two min_two max_three min_three max_four min_four   -- for this text's walks alone
set_option linter.unusedVariables false
set_option linter.unusedSimpArgs false

/-! ### live_set_with: function 95 -/
def live_set_with.f (a0 : Int) (a1 : Int) : Option (Int) := if 0 ≤ (IntKind.u64.wrap (a1)) then (some (Go.bits .or .u64 a0 (shl .u64 1 (IntKind.u64.wrap (a1))))) else (none)
set_option maxHeartbeats 8000000 in
set_option maxRecDepth 100000 in
theorem live_set_with.calls (a0 : Int) (a1 : Int) (r : Int) (w : World) (h : live_set_with.f a0 a1 = some r) :
  Calls Tryd.prog 95 #[.int .u64 a0, .int .i64 a1] w fun e w' => e = .returned (.int .u64 r) ∧ Drawn0 w w' := by
 have H := h; clear h; unfold live_set_with.f at H
 obtain ⟨ji3, hji3⟩ : ∃ j_ : Int, (IntKind.u64.wrap (a1)) = j_ := ⟨_, rfl⟩
 replace H : (if 0 ≤ (ji3) then (some (Go.bits .or .u64 a0 (shl .u64 1 (ji3)))) else (none)) = some r := by first | (rw [hji3] at H; exact H) | (simp only [hji3] at H ⊢; exact H)
 by_cases c4 : 0 ≤ (ji3)
 ·rw [if_pos c4] at H
  have c4b0 := eq_true c4
  have c4b1 := decide_eq_true c4
  clear c4
  obtain ⟨ji5, hji5⟩ : ∃ j_ : Int, (shl .u64 1 (ji3)) = j_ := ⟨_, rfl⟩
  replace H : (some (Go.bits .or .u64 a0 (ji5))) = some r := by first | (rw [hji5] at H; exact H) | (simp only [hji5] at H ⊢; exact H)
  have hji5_ : (IntKind.u64.wrap (1 * 2 ^ min (ji3).toNat 64)) = ji5 := hji5
  have hji5z : (ji3) ≤ 64 → (IntKind.u64.wrap (1 * 2 ^ (ji3).toNat)) = ji5 := shl_small hji5
  have hji5u : (IntKind.u64.wrap (2 ^ min (ji3).toNat 64)) = ji5 := by have h_ := hji5_; rw [Int.one_mul] at h_; exact h_
  have hji5v : (ji3) ≤ 64 → (IntKind.u64.wrap (2 ^ (ji3).toNat)) = ji5 := fun hle_ => by have h_ := hji5z hle_; rw [Int.one_mul] at h_; exact h_
  obtain rfl := Option.some.inj H
  go_enter Tryd.func95, Tryd.ntmps95
  go_wp2
  go_ret
  exact ⟨by first | rfl | (simp; done) | (simp only [← hji3, ← hji5] <;> (first | rfl | simp)) | (simp [*]; done), qD⟩
 ·rw [if_neg c4] at H
  exact absurd H (by simp)

end Go.Proofs.YtebnnknijbgekaaDoor.Q
namespace Go.Proofs.YtebnnknijbgekaaDoor.Q
open Go.RowKit Go.Proofs.YtebnnknijbgekaaDoorW.PrintWords Go.Proofs.YtebnnknijbgekaaDoorW.PrintLast Go.Proofs.YtebnnknijbgekaaDoorW.PrintMore
attribute [local go_sem] max2_int min2_int max_two min_two max_three min_three max_four min_four   -- for this text's walks alone
set_option linter.unusedVariables false
set_option linter.unusedSimpArgs false

/-! ### live_set_each: function 94 -/
def live_set_each.l0 : Nat → Int → List Int → Int → Int → Option (Int)
 | 0, _, _, _, _ => none
 | k + 1, x0, x9, x10, x11 => if x11 < x10 then (if 0 ≤ x11 then (if x11 < (x9.length : Int) then ((live_set_with.f x0 (rd x9 x11)).bind fun t231 => (live_set_each.l0 k t231 x9 x10 (wrap64 (x11 + 1)))) else (none)) else (none)) else (some x0)
def live_set_each.f (k : Nat) (a0 : Int) (l1 : List Int) (a2 : Bool) : Option (Int) := live_set_each.l0 k a0 l1 (l1.length : Int) 0
theorem live_set_each.mono_l : ∀ k, (∀ y0 y1 y2 y3, LeO (live_set_each.l0 k y0 y1 y2 y3) (live_set_each.l0 (k + 1) y0 y1 y2 y3))
 | 0 => fun _ _ _ _ r h => by simp [live_set_each.l0] at h
 | k + 1 => by
  have ih0 := live_set_each.mono_l k
  ·intro y0 y1 y2 y3
   unfold live_set_each.l0
   repeat' first | (with_reducible exact ih0 _ _ _ _) | (with_reducible exact LeO.refl _) | (with_reducible exact LeO.none _) | (with_reducible refine LeO.ite ?_ ?_) | (with_reducible refine LeO.bind ?_ (fun _ => ?_)) | exact LeO.none _ | refine LeO.ite ?_ ?_ | refine LeO.bind ?_ (fun _ => ?_)
theorem live_set_each.mono : ∀ a0 a1 a2 k, LeO (live_set_each.f k a0 a1 a2) (live_set_each.f (k + 1) a0 a1 a2) := by
 intro a0 a1 a2 k
 have ih0 := live_set_each.mono_l k
 unfold live_set_each.f
 repeat' first | (with_reducible exact ih0 _ _ _ _) | (with_reducible exact LeO.refl _) | (with_reducible exact LeO.none _) | (with_reducible refine LeO.ite ?_ ?_) | (with_reducible refine LeO.bind ?_ (fun _ => ?_)) | exact LeO.none _ | refine LeO.ite ?_ ?_ | refine LeO.bind ?_ (fun _ => ?_)
set_option maxHeartbeats 8000000 in
set_option maxRecDepth 100000 in
theorem live_set_each.calls (k : Nat) (a0 : Int) (A1 : Option Addr) (c1 : Nat) (l1 : List Int) (a2 : Bool) (r : Int) (w : World) (hr1 : Kd.C (Kd.int .i64) w A1 l1.length l1) (hc1 : l1.length ≤ c1) (h : live_set_each.f k a0 l1 a2 = some r) :
  Calls Tryd.prog 94 #[.int .u64 a0, .slice A1 l1.length c1, .func (.func 95) #[] #[]] w fun e w' => e = .returned (.int .u64 r) ∧ Drawn0 w w' := by
 have HR1 := Aside0.mk hr1
 have HC1 := Aside0.mk hc1
 clear hr1 hc1
 have H := h; clear h; unfold live_set_each.f at H
 have H' := Aside0.mk H
 clear H
 go_enter Tryd.func94, Tryd.ntmps94
 go_wp2
 go_loopg [0, 11] k (fun kq v0 v11 w' => ∃ (x0_1 : Int) (x11_1 : Int), v0 = .int .u64 x0_1 ∧ v11 = .int .i64 x11_1 ∧ Aside0 (live_set_each.l0 kq x0_1 l1 (l1.length : Int) x11_1 = some r) ∧ Aside0 (kq ≤ k) ∧ Drawn0 w w')
 case atStart => exact ⟨(a0), (0), qT, qT, H', ⟨Nat.le_refl _⟩, qD⟩
 case round =>
  clear H'
  try clear c1; try clear p2
  obtain ⟨x0_1, x11_1, rfl, rfl, HA, HK1, ⟨m1, rfl⟩⟩ := hrel
  cases gk with
  | zero => exact absurd HA.out (by simp [live_set_each.l0])
  | succ k1 =>
   have H := HA.out
   clear HA
   simp only [live_set_each.l0] at H
   by_cases c4 : x11_1 < (l1.length : Int)
   ·rw [if_pos c4] at H
    have c4b0 := decide_eq_true c4
    clear c4
    by_cases c5 : 0 ≤ x11_1
    ·rw [if_pos c5] at H
     have c5b0 := decide_eq_true c5
     clear c5
     by_cases c6 : x11_1 < (l1.length : Int)
     ·rw [if_pos c6] at H
      have c6b0 := decide_eq_true c6
      clear c6
      replace H := qb H; obtain ⟨t231, A7, H⟩ := H
      have H' := Aside0.mk H
      clear H
      have p230 : 0 ≤ (x11_1 : Int) := of_decide_eq_true qA
      have q230 : x11_1 < (l1.length : Int) := of_decide_eq_true qA
      obtain ⟨ad230, e230, hx230_0⟩ := Kd.at_int HR1.out x11_1 p230 q230
      cases e230
      replace p230 := eq_true p230
      replace q230 := eq_true q230
      go_wp2_with (first | (go_at_call 95; (with_reducible refine (live_set_with.calls x0_1 (rd l1 x11_1) t231 _ A7.out).mono ?_); rintro e w' ⟨rfl, ⟨nd, rfl⟩⟩))
      go_roundg k1
      case measure => have := HK1.out; omega
      case rel => exact ⟨(t231), (wrap64 (x11_1 + 1)), qT, qT, H', ⟨by have := HK1.out; omega⟩, qD⟩
     ·rw [if_neg c6] at H
      exact absurd H (by simp)
    ·rw [if_neg c5] at H
     exact absurd H (by simp)
   ·rw [if_neg c4] at H
    have c4b0 := decide_eq_false c4
    clear c4
    obtain rfl := Option.some.inj H
    go_wp2
    go_ret
    exact ⟨by first | rfl | (simp; done) | (simp [*]; done), qD⟩

end Go.Proofs.YtebnnknijbgekaaDoor.Q
namespace Go.Proofs.YtebnnknijbgekaaDoor.Q
open Go.RowKit Go.Proofs.YtebnnknijbgekaaDoorW.PrintWords Go.Proofs.YtebnnknijbgekaaDoorW.PrintLast Go.Proofs.YtebnnknijbgekaaDoorW.PrintMore
attribute [local go_sem] max2_int min2_int max_two min_two max_three min_three max_four min_four   -- for this text's walks alone
set_option linter.unusedVariables false
set_option linter.unusedSimpArgs false

/-! ### live_set_without: function 93 -/
def live_set_without.f (a0 : Int) (a1 : Int) : Option (Int) := if 0 ≤ (IntKind.u64.wrap (a1)) then (some (Go.bits .andNot .u64 a0 (shl .u64 1 (IntKind.u64.wrap (a1))))) else (none)
set_option maxHeartbeats 8000000 in
set_option maxRecDepth 100000 in
theorem live_set_without.calls (a0 : Int) (a1 : Int) (r : Int) (w : World) (h : live_set_without.f a0 a1 = some r) :
  Calls Tryd.prog 93 #[.int .u64 a0, .int .i64 a1] w fun e w' => e = .returned (.int .u64 r) ∧ Drawn0 w w' := by
 have H := h; clear h; unfold live_set_without.f at H
 obtain ⟨ji3, hji3⟩ : ∃ j_ : Int, (IntKind.u64.wrap (a1)) = j_ := ⟨_, rfl⟩
 replace H : (if 0 ≤ (ji3) then (some (Go.bits .andNot .u64 a0 (shl .u64 1 (ji3)))) else (none)) = some r := by first | (rw [hji3] at H; exact H) | (simp only [hji3] at H ⊢; exact H)
 by_cases c4 : 0 ≤ (ji3)
 ·rw [if_pos c4] at H
  have c4b0 := eq_true c4
  have c4b1 := decide_eq_true c4
  clear c4
  obtain ⟨ji5, hji5⟩ : ∃ j_ : Int, (shl .u64 1 (ji3)) = j_ := ⟨_, rfl⟩
  replace H : (some (Go.bits .andNot .u64 a0 (ji5))) = some r := by first | (rw [hji5] at H; exact H) | (simp only [hji5] at H ⊢; exact H)
  have hji5_ : (IntKind.u64.wrap (1 * 2 ^ min (ji3).toNat 64)) = ji5 := hji5
  have hji5z : (ji3) ≤ 64 → (IntKind.u64.wrap (1 * 2 ^ (ji3).toNat)) = ji5 := shl_small hji5
  have hji5u : (IntKind.u64.wrap (2 ^ min (ji3).toNat 64)) = ji5 := by have h_ := hji5_; rw [Int.one_mul] at h_; exact h_
  have hji5v : (ji3) ≤ 64 → (IntKind.u64.wrap (2 ^ (ji3).toNat)) = ji5 := fun hle_ => by have h_ := hji5z hle_; rw [Int.one_mul] at h_; exact h_
  obtain rfl := Option.some.inj H
  go_enter Tryd.func93, Tryd.ntmps93
  go_wp2
  go_ret
  exact ⟨by first | rfl | (simp; done) | (simp only [← hji3, ← hji5] <;> (first | rfl | simp)) | (simp [*]; done), qD⟩
 ·rw [if_neg c4] at H
  exact absurd H (by simp)

end Go.Proofs.YtebnnknijbgekaaDoor.Q
namespace Go.Proofs.YtebnnknijbgekaaDoor.Q
open Go.RowKit Go.Proofs.YtebnnknijbgekaaDoorW.PrintWords Go.Proofs.YtebnnknijbgekaaDoorW.PrintLast Go.Proofs.YtebnnknijbgekaaDoorW.PrintMore
attribute [local go_sem] max2_int min2_int max_two min_two max_three min_three max_four min_four   -- for this text's walks alone
set_option linter.unusedVariables false
set_option linter.unusedSimpArgs false

/-! ### live_through: function 74 -/
def live_through.f (k : Nat) (a0_0 : Int) (a0_1 : Int) (a0_2 : Int) (a0_3 : Int) (a0_4 : ByteArray) (l0_5 : List Int) (a1 : Int) : Option (Int) := (ir_Def.f a0_0 a0_1 a0_2 a0_3 a0_4 l0_5).bind fun t233 => (if t233 ≥ 0 then ((live_set_without.f a1 t233).bind fun t234 => ((ir_Uses.f k a0_0 a0_1 a0_2 a0_3 a0_4 l0_5).bind fun t235 => ((live_set_each.f k t234 t235 false).bind fun t238 => (some t238)))) else ((ir_Uses.f k a0_0 a0_1 a0_2 a0_3 a0_4 l0_5).bind fun t239 => ((live_set_each.f k a1 t239 false).bind fun t242 => (some t242))))
theorem live_through.mono : ∀ a0 a1 a2 a3 a4 a5 a6 k, LeO (live_through.f k a0 a1 a2 a3 a4 a5 a6) (live_through.f (k + 1) a0 a1 a2 a3 a4 a5 a6) := by
 intro a0 a1 a2 a3 a4 a5 a6 k
 unfold live_through.f
 repeat' first | (with_reducible exact ir_Uses.mono _ _ _ _ _ _ _) | (with_reducible exact live_set_each.mono _ _ _ _) | (with_reducible exact LeO.refl _) | (with_reducible exact LeO.none _) | (with_reducible refine LeO.ite ?_ ?_) | (with_reducible refine LeO.bind ?_ (fun _ => ?_)) | exact LeO.none _ | refine LeO.ite ?_ ?_ | refine LeO.bind ?_ (fun _ => ?_)
set_option maxHeartbeats 8000000 in
set_option maxRecDepth 100000 in
theorem live_through.calls (k : Nat) (a0_0 : Int) (a0_1 : Int) (a0_2 : Int) (a0_3 : Int) (a0_4 : ByteArray) (A0_5 : Option Addr) (c0_5 : Nat) (l0_5 : List Int) (a1 : Int) (r : Int) (w : World) (hL : LaidW w) (hr0_5 : Kd.C (Kd.int .i64) w A0_5 l0_5.length l0_5) (hc0_5 : l0_5.length ≤ c0_5) (h : live_through.f k a0_0 a0_1 a0_2 a0_3 a0_4 l0_5 a1 = some r) :
  Calls Tryd.prog 74 #[.agg #[.int .i64 a0_0, .int .i64 a0_1, .int .i64 a0_2, .int .i64 a0_3, .string a0_4, .slice A0_5 l0_5.length c0_5], .int .u64 a1] w fun e w' => e = .returned (.int .u64 r) ∧ Below w.heap.size w w' := by
 have hu31 := Tryd.underlying31
 have HR0_5 := Aside0.mk hr0_5
 have HC0_5 := Aside0.mk hc0_5
 clear hr0_5 hc0_5
 have HB := Aside0.mk (Below.refl w.heap.size w)
 have HLd := Aside0.mk hL
 clear hL
 have H := h; clear h; unfold live_through.f at H
 replace H := qb H; obtain ⟨t233, A3, H⟩ := H
 by_cases c4 : t233 ≥ 0
 ·rw [if_pos c4] at H
  have c4b0 : decide (0 ≤ t233) = true := decide_eq_true c4
  clear c4
  replace H := qb H; obtain ⟨t234, A5, H⟩ := H
  replace H := qb H; obtain ⟨t235, A6, H⟩ := H
  replace H := qb H; obtain ⟨t238, A7, H⟩ := H
  obtain rfl := Option.some.inj H
  go_enter Tryd.func74, Tryd.ntmps74
  go_wp2_with (first | ((with_reducible refine gate_dst (N := 2) rfl ?_); refine box_event (by rfl) (N := 2) (by rfl) (cs := #[.int .i64 a0_0, .int .i64 a0_1, .int .i64 a0_2, .int .i64 a0_3, .string a0_4, .slice A0_5 l0_5.length c0_5]) (t := 31) ?hr ?_; (case hr => first | (go_simp; done) | (go_simp; rfl)); intro gb232 hg w8 hbox hb; have BK232 := Aside0.mk (hbox); have GW232 := qG hg; have GE232 := GW232; replace HB := qH hb; clear hb hbox hg; obtain ⟨hcz9_0, hcz9_1, hcz9_2, hcz9_3, hcz9_4, hcz9_5, hfz9_0, hfz9_1, hfz9_2, hfz9_3, hfz9_4, hfz9_5⟩ := bk6 BK232.out) | ((with_reducible refine gate_callee (f := 48) rfl ?_); refine goesL_ (some 7) rfl rfl Tryd.func48 (by kernel_rfl) rfl #[.agg #[.int .i64 a0_0, .int .i64 a0_1, .int .i64 a0_2, .int .i64 a0_3, .string a0_4, .slice A0_5 l0_5.length c0_5]] rfl qL ?_; (with_reducible refine (ir_Def.calls a0_0 a0_1 a0_2 a0_3 a0_4 _ _ l0_5 t233 _ ?side1 ?side2 A3.out (hL := ?side99)).mono ?_); (case side1 => exact qCB HR0_5.out); (case side2 => exact HC0_5.out); (case side99 => exact LaidW.below HLd.out qB); rintro e w10 ⟨rfl, hb⟩; refine ⟨_, rfl, ?_⟩; replace BK232 := qW BK232 hb; replace HB := qH hb; (try clear hb)) | ((with_reducible refine gate_callee (f := 93) rfl ?_); refine goesL_ (some 12) rfl rfl Tryd.func93 (by kernel_rfl) rfl #[.int .u64 a1, .int .i64 t233] rfl qL ?_; (with_reducible refine (live_set_without.calls a1 t233 t234 _ A5.out).mono ?_); rintro e w' ⟨rfl, ⟨nd, rfl⟩⟩; refine ⟨_, rfl, ?_⟩; obtain ⟨hcz11_0, hcz11_1, hcz11_2, hcz11_3, hcz11_4, hcz11_5, hfz11_0, hfz11_1, hfz11_2, hfz11_3, hfz11_4, hfz11_5⟩ := bk6 BK232.out) | ((with_reducible refine gate_callee (f := 59) rfl ?_); refine goesL_ (some 15) rfl rfl Tryd.func59 (by kernel_rfl) rfl #[.agg #[.int .i64 a0_0, .int .i64 a0_1, .int .i64 a0_2, .int .i64 a0_3, .string a0_4, .slice A0_5 l0_5.length c0_5]] rfl qL ?_; (with_reducible refine (ir_Uses.calls k a0_0 a0_1 a0_2 a0_3 a0_4 _ _ l0_5 t235 _ ?side1 ?side2 A6.out (hL := ?side99)).mono ?_); (case side1 => repeat (first | exact (Kd.C_below HR0_5.out qB) | (with_reducible refine Kd.C_alloc ?_ _) | (with_reducible refine Kd.C_drewN ?_ _) | (with_reducible refine Kd.C_drew ?_))); (case side2 => exact HC0_5.out); (case side99 => exact LaidW.below HLd.out qB); rintro e w12 ⟨v236, rfl, ho0, hb⟩; refine ⟨_, rfl, ?_⟩; have HO237 := Aside0.mk (Kd.R_lower ho0 (below_size qB)); replace BK232 := qW BK232 hb; replace HB := qH hb; (try clear hb); (try clear ho0); obtain ⟨Ao13, co13, eo13⟩ := Kd.R_slice HO237.out; subst eo13) | ((with_reducible refine gate_callee (f := 94) rfl ?_); refine goesL_ (some 16) rfl rfl Tryd.func94 (by kernel_rfl) rfl #[.int .u64 t234, .slice Ao13 t235.length co13, .func (.func 95) #[] #[]] rfl qL ?_; (with_reducible refine (live_set_each.calls k t234 _ _ t235 false t238 _ ?side1 ?side2 A7.out).mono ?_); (case side1 => repeat (first | exact (Kd.R_reads' HO237.out).2.2 | (with_reducible refine Kd.C_alloc ?_ _) | (with_reducible refine Kd.C_drewN ?_ _) | (with_reducible refine Kd.C_drew ?_))); (case side2 => exact (Kd.R_reads' HO237.out).2.1); rintro e w' ⟨rfl, ⟨nd, rfl⟩⟩; refine ⟨_, rfl, ?_⟩))
  go_ret
  exact ⟨qE, qB⟩
 ·rw [if_neg c4] at H
  have c4b0 : decide (0 ≤ t233) = false := decide_eq_false c4
  clear c4
  replace H := qb H; obtain ⟨t239, A14, H⟩ := H
  replace H := qb H; obtain ⟨t242, A15, H⟩ := H
  obtain rfl := Option.some.inj H
  go_enter Tryd.func74, Tryd.ntmps74
  go_wp2_with (first | ((with_reducible refine gate_dst (N := 2) rfl ?_); refine box_event (by rfl) (N := 2) (by rfl) (cs := #[.int .i64 a0_0, .int .i64 a0_1, .int .i64 a0_2, .int .i64 a0_3, .string a0_4, .slice A0_5 l0_5.length c0_5]) (t := 31) ?hr ?_; (case hr => first | (go_simp; done) | (go_simp; rfl)); intro gb232 hg w16 hbox hb; have BK232 := Aside0.mk (hbox); have GW232 := qG hg; have GE232 := GW232; replace HB := qH hb; clear hb hbox hg; obtain ⟨hcz17_0, hcz17_1, hcz17_2, hcz17_3, hcz17_4, hcz17_5, hfz17_0, hfz17_1, hfz17_2, hfz17_3, hfz17_4, hfz17_5⟩ := bk6 BK232.out) | ((with_reducible refine gate_callee (f := 48) rfl ?_); refine goesL_ (some 7) rfl rfl Tryd.func48 (by kernel_rfl) rfl #[.agg #[.int .i64 a0_0, .int .i64 a0_1, .int .i64 a0_2, .int .i64 a0_3, .string a0_4, .slice A0_5 l0_5.length c0_5]] rfl qL ?_; (with_reducible refine (ir_Def.calls a0_0 a0_1 a0_2 a0_3 a0_4 _ _ l0_5 t233 _ ?side1 ?side2 A3.out (hL := ?side99)).mono ?_); (case side1 => exact qCB HR0_5.out); (case side2 => exact HC0_5.out); (case side99 => exact LaidW.below HLd.out qB); rintro e w18 ⟨rfl, hb⟩; refine ⟨_, rfl, ?_⟩; replace BK232 := qW BK232 hb; replace HB := qH hb; (try clear hb); obtain ⟨hcz19_0, hcz19_1, hcz19_2, hcz19_3, hcz19_4, hcz19_5, hfz19_0, hfz19_1, hfz19_2, hfz19_3, hfz19_4, hfz19_5⟩ := bk6 BK232.out) | ((with_reducible refine gate_callee (f := 59) rfl ?_); refine goesL_ (some 15) rfl rfl Tryd.func59 (by kernel_rfl) rfl #[.agg #[.int .i64 a0_0, .int .i64 a0_1, .int .i64 a0_2, .int .i64 a0_3, .string a0_4, .slice A0_5 l0_5.length c0_5]] rfl qL ?_; (with_reducible refine (ir_Uses.calls k a0_0 a0_1 a0_2 a0_3 a0_4 _ _ l0_5 t239 _ ?side1 ?side2 A14.out (hL := ?side99)).mono ?_); (case side1 => exact qCB HR0_5.out); (case side2 => exact HC0_5.out); (case side99 => exact LaidW.below HLd.out qB); rintro e w20 ⟨v240, rfl, ho0, hb⟩; refine ⟨_, rfl, ?_⟩; have HO241 := Aside0.mk (Kd.R_lower ho0 (below_size qB)); replace BK232 := qW BK232 hb; replace HB := qH hb; (try clear hb); (try clear ho0); obtain ⟨Ao21, co21, eo21⟩ := Kd.R_slice HO241.out; subst eo21) | ((with_reducible refine gate_callee (f := 94) rfl ?_); refine goesL_ (some 16) rfl rfl Tryd.func94 (by kernel_rfl) rfl #[.int .u64 a1, .slice Ao21 t239.length co21, .func (.func 95) #[] #[]] rfl qL ?_; (with_reducible refine (live_set_each.calls k a1 _ _ t239 false t242 _ ?side1 ?side2 A15.out).mono ?_); (case side1 => repeat (first | exact (Kd.R_reads' HO241.out).2.2 | (with_reducible refine Kd.C_alloc ?_ _) | (with_reducible refine Kd.C_drewN ?_ _) | (with_reducible refine Kd.C_drew ?_))); (case side2 => exact (Kd.R_reads' HO241.out).2.1); rintro e w' ⟨rfl, ⟨nd, rfl⟩⟩; refine ⟨_, rfl, ?_⟩))
  go_ret
  exact ⟨qE, qB⟩

end Go.Proofs.YtebnnknijbgekaaDoor.Q
namespace Go.Proofs.YtebnnknijbgekaaDoor.Q
open Go.RowKit Go.Proofs.YtebnnknijbgekaaDoorW.PrintWords Go.Proofs.YtebnnknijbgekaaDoorW.PrintLast Go.Proofs.YtebnnknijbgekaaDoorW.PrintMore
attribute [local go_sem] max2_int min2_int max_two min_two max_three min_three max_four min_four   -- for this text's walks alone
set_option linter.unusedVariables false
set_option linter.unusedSimpArgs false

/-! ### live_ahead: function 51 -/
mutual
def live_ahead.l0 : Nat → List Int → Int → Int → Int → List Int → Int → Int → ByteArray → Int → Int → List (List (SIns)) → Option (Int)
 | 0, _, _, _, _, _, _, _, _, _, _, _ => none
 | k + 1, x1, x2, x3, x9, x16, x17, x18, x244000, x244001, x244002, x244003 => if x18 < x17 then (if 0 ≤ x18 then (if x18 < (x16.length : Int) then (if 0 ≤ (rd x16 x18) then (if (rd x16 x18) < (x1.length : Int) then (live_ahead.l0 k x1 x2 x3 (Go.bits .or .u64 x9 (rd x1 (rd x16 x18))) x16 x17 (wrap64 (x18 + 1)) x244000 x244001 x244002 x244003) else (none)) else (none)) else (none)) else (none)) else (if 0 ≤ x2 then (if x2 < (x244003.length : Int) then (live_ahead.l1 k x2 x3 x9 (wrap64 (((rd_LIns x244003 x2).length : Int) - 1)) x244000 x244001 x244002 x244003) else (none)) else (none))
def live_ahead.l1 : Nat → Int → Int → Int → Int → ByteArray → Int → Int → List (List (SIns)) → Option (Int)
 | 0, _, _, _, _, _, _, _, _ => none
 | k + 1, x2, x3, x9, x12, x244000, x244001, x244002, x244003 => if x12 ≥ x3 then (if 0 ≤ x2 then (if x2 < (x244003.length : Int) then (if 0 ≤ x12 then (if x12 < ((rd_LIns x244003 x2).length : Int) then ((live_through.f k ((rd_TIns (rd_LIns x244003 x2) x12).f0) ((rd_TIns (rd_LIns x244003 x2) x12).f1) ((rd_TIns (rd_LIns x244003 x2) x12).f2) ((rd_TIns (rd_LIns x244003 x2) x12).f3) ((rd_TIns (rd_LIns x244003 x2) x12).f4) ((rd_TIns (rd_LIns x244003 x2) x12).f5) x9).bind fun t252 => (live_ahead.l1 k x2 x3 t252 (wrap64 (x12 - 1)) x244000 x244001 x244002 x244003)) else (none)) else (none)) else (none)) else (none)) else (some x9)
end
def live_ahead.f (k : Nat) (a0_0 : ByteArray) (a0_1 : Int) (a0_2 : Int) (l0_3 : List (List (SIns))) (l1 : List Int) (a2 : Int) (a3 : Int) : Option (Int) := (flow_Succs.f k l0_3 a2).bind fun t244 => (live_ahead.l0 k l1 a2 a3 0 t244 (t244.length : Int) 0 a0_0 a0_1 a0_2 l0_3)
theorem live_ahead.mono_l : ∀ k, (∀ y0 y1 y2 y3 y4 y5 y6 y7 y8 y9 y10, LeO (live_ahead.l0 k y0 y1 y2 y3 y4 y5 y6 y7 y8 y9 y10) (live_ahead.l0 (k + 1) y0 y1 y2 y3 y4 y5 y6 y7 y8 y9 y10)) ∧ (∀ y0 y1 y2 y3 y4 y5 y6 y7, LeO (live_ahead.l1 k y0 y1 y2 y3 y4 y5 y6 y7) (live_ahead.l1 (k + 1) y0 y1 y2 y3 y4 y5 y6 y7))
 | 0 => ⟨fun _ _ _ _ _ _ _ _ _ _ _ r h => by simp [live_ahead.l0] at h, fun _ _ _ _ _ _ _ _ r h => by simp [live_ahead.l1] at h⟩
 | k + 1 => by
  obtain ⟨ih0, ih1⟩ := live_ahead.mono_l k
  refine ⟨?_, ?_⟩ <;> intros <;> (first | unfold live_ahead.l0 | unfold live_ahead.l1) <;> repeat' first | (with_reducible exact ih0 _ _ _ _ _ _ _ _ _ _ _) | (with_reducible exact ih1 _ _ _ _ _ _ _ _) | (with_reducible exact flow_Succs.mono _ _ _) | (with_reducible exact live_through.mono _ _ _ _ _ _ _ _) | (with_reducible exact LeO.refl _) | (with_reducible exact LeO.none _) | (with_reducible refine LeO.ite ?_ ?_) | (with_reducible refine LeO.bind ?_ (fun _ => ?_)) | exact LeO.none _ | refine LeO.ite ?_ ?_ | refine LeO.bind ?_ (fun _ => ?_)
theorem live_ahead.mono : ∀ a0 a1 a2 a3 a4 a5 a6 k, LeO (live_ahead.f k a0 a1 a2 a3 a4 a5 a6) (live_ahead.f (k + 1) a0 a1 a2 a3 a4 a5 a6) := by
 intro a0 a1 a2 a3 a4 a5 a6 k
 obtain ⟨ih0, ih1⟩ := live_ahead.mono_l k
 unfold live_ahead.f
 repeat' first | (with_reducible exact ih0 _ _ _ _ _ _ _ _ _ _ _) | (with_reducible exact ih1 _ _ _ _ _ _ _ _) | (with_reducible exact flow_Succs.mono _ _ _) | (with_reducible exact live_through.mono _ _ _ _ _ _ _ _) | (with_reducible exact LeO.refl _) | (with_reducible exact LeO.none _) | (with_reducible refine LeO.ite ?_ ?_) | (with_reducible refine LeO.bind ?_ (fun _ => ?_)) | exact LeO.none _ | refine LeO.ite ?_ ?_ | refine LeO.bind ?_ (fun _ => ?_)
set_option maxHeartbeats 8000000 in
set_option maxRecDepth 100000 in
theorem live_ahead.calls (k : Nat) (a0_0 : ByteArray) (a0_1 : Int) (a0_2 : Int) (A0_3 : Option Addr) (c0_3 : Nat) (l0_3 : List (List (SIns))) (A1 : Option Addr) (c1 : Nat) (l1 : List Int) (a2 : Int) (a3 : Int) (r : Int) (w : World) (hL : LaidW w) (hr0_3 : Kd.C (Kd.slice 31 kIns) w A0_3 l0_3.length l0_3) (hc0_3 : l0_3.length ≤ c0_3) (hr1 : Kd.C (Kd.int .u64) w A1 l1.length l1) (hc1 : l1.length ≤ c1) (h : live_ahead.f k a0_0 a0_1 a0_2 l0_3 l1 a2 a3 = some r) :
  Calls Tryd.prog 51 #[.agg #[.string a0_0, .int .i64 a0_1, .int .i64 a0_2, .slice A0_3 l0_3.length c0_3], .slice A1 l1.length c1, .int .i64 a2, .int .i64 a3] w fun e w' => e = .returned (.int .u64 r) ∧ Below w.heap.size w w' := by
 have hu34 := Tryd.underlying34
 have hu31 := Tryd.underlying31
 have HR0_3 := Aside0.mk hr0_3
 have HC0_3 := Aside0.mk hc0_3
 clear hr0_3 hc0_3
 have HR1 := Aside0.mk hr1
 have HC1 := Aside0.mk hc1
 clear hr1 hc1
 have HB := Aside0.mk (Below.refl w.heap.size w)
 have HLd := Aside0.mk hL
 clear hL
 have H := h; clear h; unfold live_ahead.f at H
 replace H := qb H; obtain ⟨t244, A5, H⟩ := H
 have H' := Aside0.mk H
 clear H
 go_enter Tryd.func51, Tryd.ntmps51
 go_wp2_with (first | ((with_reducible refine gate_dst (N := 4) rfl ?_); refine box_event (by rfl) (N := 4) (by rfl) (cs := #[.string a0_0, .int .i64 a0_1, .int .i64 a0_2, .slice A0_3 l0_3.length c0_3]) (t := 34) ?hr ?_; (case hr => first | (go_simp; done) | (go_simp; rfl)); intro gb243 hg w6 hbox hb; have BK243 := Aside0.mk (hbox); have GW243 := qG hg; have GE243 := GW243; replace HB := qH hb; clear hb hbox hg; obtain ⟨hcz7_0, hcz7_1, hcz7_2, hcz7_3, hfz7_0, hfz7_1, hfz7_2, hfz7_3⟩ := bk4 BK243.out) | ((with_reducible refine gate_callee (f := 73) rfl ?_); refine goesL_ (some 16) rfl rfl Tryd.func73 (by kernel_rfl) rfl #[.slice A0_3 l0_3.length c0_3, .int .i64 a2] rfl qL ?_; (with_reducible refine (flow_Succs.calls k _ _ l0_3 a2 t244 _ ?side1 ?side2 A5.out).mono ?_); (case side1 => exact qCB HR0_3.out); (case side2 => exact HC0_3.out); rintro e w8 ⟨v245, rfl, ho0, hb⟩; refine ⟨_, rfl, ?_⟩; have HO246 := Aside0.mk (Kd.R_lower ho0 (below_size qB)); replace BK243 := qW BK243 hb; replace HB := qH hb; (try clear hb); (try clear ho0); obtain ⟨Ao9, co9, eo9⟩ := Kd.R_slice HO246.out; subst eo9))
 go_loopg [9, 18] k (fun kq v9 v18 w' => ∃ (x9_1 : Int) (x18_1 : Int), v9 = .int .u64 x9_1 ∧ v18 = .int .i64 x18_1 ∧ Aside0 (live_ahead.l0 kq l1 a2 a3 x9_1 t244 (t244.length : Int) x18_1 a0_0 a0_1 a0_2 l0_3 = some r) ∧ Aside0 (kq ≤ k) ∧ Aside0 (Kd.R (Kd.int .i64) 3 w' w.heap.size (fun _ => True) (.slice Ao9 t244.length co9) t244) ∧ Aside0 (w'.heap[gb243]? = some (.cells #[.string a0_0, .int .i64 a0_1, .int .i64 a0_2, (.slice A0_3 l0_3.length c0_3)] 34 (0, 0))) ∧ Aside0 (Below w.heap.size w w'))
 case atStart => exact ⟨(0), (0), qT, qT, H', ⟨Nat.le_refl _⟩, ⟨qR HO246.out⟩, ⟨qK BK243.out⟩, ⟨qB⟩⟩
 case round =>
  clear H'
  try clear c1; try clear p2; try clear c5; try clear c7; try clear hcz7_0 hcz7_1 hcz7_2 hcz7_3 hfz7_0 hfz7_1 hfz7_2 hfz7_3
  obtain ⟨x9_1, x18_1, rfl, rfl, HA, HK1, HO_16, BK243, HB⟩ := hrel
  cases gk with
  | zero => exact absurd HA.out (by simp [live_ahead.l0])
  | succ k1 =>
   have H := HA.out
   clear HA
   simp only [live_ahead.l0] at H
   by_cases c10 : x18_1 < (t244.length : Int)
   ·rw [if_pos c10] at H
    have c10b0 := decide_eq_true c10
    clear c10
    by_cases c11 : 0 ≤ x18_1
    ·rw [if_pos c11] at H
     have c11b0 := decide_eq_true c11
     clear c11
     by_cases c12 : x18_1 < (t244.length : Int)
     ·rw [if_pos c12] at H
      have c12b0 := decide_eq_true c12
      clear c12
      by_cases c13 : 0 ≤ (rd t244 x18_1)
      ·rw [if_pos c13] at H
       have c13b0 := decide_eq_true c13
       clear c13
       by_cases c14 : (rd t244 x18_1) < (l1.length : Int)
       ·rw [if_pos c14] at H
        have c14b0 := decide_eq_true c14
        clear c14
        have H' := Aside0.mk H
        clear H
        have p247 : 0 ≤ (x18_1 : Int) := of_decide_eq_true qA
        have q247 : x18_1 < (t244.length : Int) := of_decide_eq_true qA
        obtain ⟨ad247, e247, hx247_0⟩ := Kd.at_int (Kd.R_reads' HO_16.out).2.2 x18_1 p247 q247
        cases e247
        replace p247 := eq_true p247
        replace q247 := eq_true q247
        have p248 : 0 ≤ ((rd t244 x18_1) : Int) := of_decide_eq_true qA
        have q248 : (rd t244 x18_1) < (l1.length : Int) := of_decide_eq_true qA
        obtain ⟨ad248, e248, hx248_0⟩ := Kd.at_int HR1.out (rd t244 x18_1) p248 q248
        cases e248
        replace hx248_0 := (HB.out.cell (World.block_lt_of_cell? w _ hx248_0)).trans hx248_0
        replace p248 := eq_true p248
        replace q248 := eq_true q248
        go_wp2
        go_roundg k1
        case measure => have := HK1.out; omega
        case rel => exact ⟨(Go.bits .or .u64 x9_1 (rd l1 (rd t244 x18_1))), (wrap64 (x18_1 + 1)), qT, qT, H', ⟨by have := HK1.out; omega⟩, ⟨qR HO_16.out⟩, ⟨qK BK243.out⟩, ⟨qB⟩⟩
       ·rw [if_neg c14] at H
        exact absurd H (by simp)
      ·rw [if_neg c13] at H
       exact absurd H (by simp)
     ·rw [if_neg c12] at H
      exact absurd H (by simp)
    ·rw [if_neg c11] at H
     exact absurd H (by simp)
   ·rw [if_neg c10] at H
    have c10b0 := decide_eq_false c10
    clear c10
    by_cases c15 : 0 ≤ a2
    ·rw [if_pos c15] at H
     have c15b0 := decide_eq_true c15
     clear c15
     by_cases c16 : a2 < (l0_3.length : Int)
     ·rw [if_pos c16] at H
      have c16b0 := decide_eq_true c16
      clear c16
      have H' := Aside0.mk H
      clear H
      obtain ⟨hcz17_0, hcz17_1, hcz17_2, hcz17_3, hfz17_0, hfz17_1, hfz17_2, hfz17_3⟩ := bk4 BK243.out
      have p249 : 0 ≤ (a2 : Int) := of_decide_eq_true qA
      have q249 : a2 < (l0_3.length : Int) := of_decide_eq_true qA
      obtain ⟨ad249, A249_0, c249_0, e249, hx249_0, hl249_0, hi249_0⟩ := at_LIns HR0_3.out a2 p249 q249
      cases e249
      replace hx249_0 := (HB.out.cell (World.block_lt_of_cell? w _ hx249_0)).trans hx249_0
      have HR249_0 := Aside0.mk hi249_0
      have HC249_0 := Aside0.mk hl249_0
      clear hi249_0 hl249_0
      replace p249 := eq_true p249
      replace q249 := eq_true q249
      go_wp2
      go_loopg [9, 12] k1 (fun kq v9 v12 w' => ∃ (x9_2 : Int) (x12_2 : Int), v9 = .int .u64 x9_2 ∧ v12 = .int .i64 x12_2 ∧ Aside0 (live_ahead.l1 kq a2 a3 x9_2 x12_2 a0_0 a0_1 a0_2 l0_3 = some r) ∧ Aside0 (kq ≤ k1) ∧ Aside0 (w'.heap[gb243]? = some (.cells #[.string a0_0, .int .i64 a0_1, .int .i64 a0_2, (.slice (some ad249) l0_3.length c0_3)] 34 (0, 0))) ∧ Aside0 (Below w.heap.size w w'))
      case atStart => exact ⟨(x9_1), (wrap64 (((rd_LIns l0_3 a2).length : Int) - 1)), qT, qT, H', ⟨Nat.le_refl _⟩, ⟨qK BK243.out⟩, ⟨qB⟩⟩
      case round =>
       clear H'
       try clear c1; try clear c2; try clear p2; try clear q2; try clear hx2; try clear c5; try clear p6; try clear c7; try clear c10; try clear c10b0; try clear c11; try clear c11b0; try clear c12; try clear c12b0; try clear c13; try clear c13b0; try clear c14; try clear c14b0; try clear c15; try clear c15b0; try clear c16; try clear c16b0; try clear hcz17_0 hcz17_1 hcz17_2 hcz17_3 hfz17_0 hfz17_1 hfz17_2 hfz17_3; try clear hcz7_0 hcz7_1 hcz7_2 hcz7_3 hfz7_0 hfz7_1 hfz7_2 hfz7_3; try clear hx247_0; try clear hx248_0; try clear hx249_0; try clear p247; try clear p248; try clear p249; try clear q247; try clear q248; try clear q249
       obtain ⟨x9_2, x12_2, rfl, rfl, HA, HK2, BK243, HB⟩ := hrel
       cases gk with
       | zero => exact absurd HA.out (by simp [live_ahead.l1])
       | succ k2 =>
        have H := HA.out
        clear HA
        simp only [live_ahead.l1] at H
        by_cases c18 : x12_2 ≥ a3
        ·rw [if_pos c18] at H
         have c18b0 : decide (a3 ≤ x12_2) = true := decide_eq_true c18
         clear c18
         by_cases c19 : 0 ≤ a2
         ·rw [if_pos c19] at H
          have c19b0 := decide_eq_true c19
          clear c19
          by_cases c20 : a2 < (l0_3.length : Int)
          ·rw [if_pos c20] at H
           have c20b0 := decide_eq_true c20
           clear c20
           by_cases c21 : 0 ≤ x12_2
           ·rw [if_pos c21] at H
            have c21b0 := decide_eq_true c21
            clear c21
            by_cases c22 : x12_2 < ((rd_LIns l0_3 a2).length : Int)
            ·rw [if_pos c22] at H
             have c22b0 := decide_eq_true c22
             clear c22
             replace H := qb H; obtain ⟨t252, A23, H⟩ := H
             have H' := Aside0.mk H
             clear H
             obtain ⟨hcz24_0, hcz24_1, hcz24_2, hcz24_3, hfz24_0, hfz24_1, hfz24_2, hfz24_3⟩ := bk4 BK243.out
             have p250 : 0 ≤ (a2 : Int) := of_decide_eq_true qA
             have q250 : a2 < (l0_3.length : Int) := of_decide_eq_true qA
             obtain ⟨ad250, A250_0, c250_0, e250, hx250_0, hl250_0, hi250_0⟩ := at_LIns HR0_3.out a2 p250 q250
             obtain rfl : ad249 = ad250 := (by injection e250)
             replace hx250_0 := (HB.out.cell (World.block_lt_of_cell? w _ hx250_0)).trans hx250_0
             have HR250_0 := Aside0.mk hi250_0
             have HC250_0 := Aside0.mk hl250_0
             clear hi250_0 hl250_0
             replace p250 := eq_true p250
             replace q250 := eq_true q250
             have p251 : 0 ≤ (x12_2 : Int) := of_decide_eq_true qA
             have q251 : x12_2 < ((rd_LIns l0_3 a2).length : Int) := of_decide_eq_true qA
             obtain ⟨ad251, A251_5, c251_5, e251, hx251_0, hx251_1, hx251_2, hx251_3, hx251_4, hx251_5, hl251_5, hi251_5⟩ := at_TIns HR250_0.out x12_2 p251 q251
             cases e251
             replace hx251_0 := (HB.out.cell (World.block_lt_of_cell? w _ hx251_0)).trans hx251_0
             replace hx251_1 := (HB.out.cell (World.block_lt_of_cell? w _ hx251_1)).trans hx251_1
             replace hx251_2 := (HB.out.cell (World.block_lt_of_cell? w _ hx251_2)).trans hx251_2
             replace hx251_3 := (HB.out.cell (World.block_lt_of_cell? w _ hx251_3)).trans hx251_3
             replace hx251_4 := (HB.out.cell (World.block_lt_of_cell? w _ hx251_4)).trans hx251_4
             replace hx251_5 := (HB.out.cell (World.block_lt_of_cell? w _ hx251_5)).trans hx251_5
             have HR251_5 := Aside0.mk hi251_5
             have HC251_5 := Aside0.mk hl251_5
             clear hi251_5 hl251_5
             replace p251 := eq_true p251
             replace q251 := eq_true q251
             go_wp2_with (first | ((with_reducible refine gate_callee (f := 74) rfl ?_); refine goesL_ (some 50) rfl rfl Tryd.func74 (by kernel_rfl) rfl #[.agg #[.int .i64 ((rd_TIns (rd_LIns l0_3 a2) x12_2).f0), .int .i64 ((rd_TIns (rd_LIns l0_3 a2) x12_2).f1), .int .i64 ((rd_TIns (rd_LIns l0_3 a2) x12_2).f2), .int .i64 ((rd_TIns (rd_LIns l0_3 a2) x12_2).f3), .string ((rd_TIns (rd_LIns l0_3 a2) x12_2).f4), .slice A251_5 ((rd_TIns (rd_LIns l0_3 a2) x12_2).f5).length c251_5], .int .u64 x9_2] rfl qL ?_; (with_reducible refine (live_through.calls k2 ((rd_TIns (rd_LIns l0_3 a2) x12_2).f0) ((rd_TIns (rd_LIns l0_3 a2) x12_2).f1) ((rd_TIns (rd_LIns l0_3 a2) x12_2).f2) ((rd_TIns (rd_LIns l0_3 a2) x12_2).f3) ((rd_TIns (rd_LIns l0_3 a2) x12_2).f4) _ _ ((rd_TIns (rd_LIns l0_3 a2) x12_2).f5) x9_2 t252 _ ?side1 ?side2 A23.out (hL := ?side99)).mono ?_); (case side1 => exact qCB HR251_5.out); (case side2 => exact HC251_5.out); (case side99 => exact LaidW.below HLd.out qB); rintro e w25 ⟨rfl, hb⟩; refine ⟨_, rfl, ?_⟩; replace BK243 := qW BK243 hb; replace HB := qH hb; (try clear hb)))
             go_roundg k2
             case measure => have := HK1.out; have := HK2.out; omega
             case rel => exact ⟨(t252), (wrap64 (x12_2 - 1)), qT, qT, H', ⟨by have := HK1.out; have := HK2.out; omega⟩, ⟨qK BK243.out⟩, ⟨qB⟩⟩
            ·rw [if_neg c22] at H
             exact absurd H (by simp)
           ·rw [if_neg c21] at H
            exact absurd H (by simp)
          ·rw [if_neg c20] at H
           exact absurd H (by simp)
         ·rw [if_neg c19] at H
          exact absurd H (by simp)
        ·rw [if_neg c18] at H
         have c18b0 : decide (a3 ≤ x12_2) = false := decide_eq_false c18
         clear c18
         obtain rfl := Option.some.inj H
         go_wp2
         go_ret
         exact ⟨qE, qB⟩
     ·rw [if_neg c16] at H
      exact absurd H (by simp)
    ·rw [if_neg c15] at H
     exact absurd H (by simp)

end Go.Proofs.YtebnnknijbgekaaDoor.Q
namespace Go.Proofs.YtebnnknijbgekaaDoor.Q
open Go.RowKit Go.Proofs.YtebnnknijbgekaaDoorW.PrintWords Go.Proofs.YtebnnknijbgekaaDoorW.PrintLast Go.Proofs.YtebnnknijbgekaaDoorW.PrintMore
attribute [local go_sem] max2_int min2_int max_two min_two max_three min_three max_four min_four   -- for this text's walks alone
set_option linter.unusedVariables false
set_option linter.unusedSimpArgs false

/-! ### live_sets: function 50 -/
mutual
def live_sets.l0 : Nat → List Int → Bool → ByteArray → Int → Int → List (List (SIns)) → Option (List Int)
 | 0, _, _, _, _, _, _ => none
 | k + 1, x3, x4, x254000, x254001, x254002, x254003 => if x4 = true then (live_sets.l1 k x3 false (wrap64 ((x254003.length : Int) - 1)) x254000 x254001 x254002 x254003) else (some x3)
def live_sets.l1 : Nat → List Int → Bool → Int → ByteArray → Int → Int → List (List (SIns)) → Option (List Int)
 | 0, _, _, _, _, _, _, _ => none
 | k + 1, x3, x4, x5, x254000, x254001, x254002, x254003 => if x5 ≥ 0 then ((live_ahead.f k x254000 x254001 x254002 x254003 x3 x5 0).bind fun t257 => (if x4 = true then (if 0 ≤ x5 then (if x5 < (x3.length : Int) then (live_sets.l1 k (x3.set (x5 : Int).toNat t257) true (wrap64 (x5 - 1)) x254000 x254001 x254002 x254003) else (none)) else (none)) else (if 0 ≤ x5 then (if x5 < (x3.length : Int) then (live_sets.l1 k (x3.set (x5 : Int).toNat t257) (t257 != (rd x3 x5)) (wrap64 (x5 - 1)) x254000 x254001 x254002 x254003) else (none)) else (none)))) else (live_sets.l0 k x3 x4 x254000 x254001 x254002 x254003)
end
def live_sets.f (k : Nat) (a0_0 : ByteArray) (a0_1 : Int) (a0_2 : Int) (l0_3 : List (List (SIns))) : Option (List Int) := if 0 ≤ (l0_3.length : Int) then (if ((l0_3.length : Int) : Int).toNat ≤ 35184372088832 then (live_sets.l0 k (List.replicate ((l0_3.length : Int) : Int).toNat 0) true a0_0 a0_1 a0_2 l0_3) else (none)) else (none)
theorem live_sets.mono_l : ∀ k, (∀ y0 y1 y2 y3 y4 y5, LeO (live_sets.l0 k y0 y1 y2 y3 y4 y5) (live_sets.l0 (k + 1) y0 y1 y2 y3 y4 y5)) ∧ (∀ y0 y1 y2 y3 y4 y5 y6, LeO (live_sets.l1 k y0 y1 y2 y3 y4 y5 y6) (live_sets.l1 (k + 1) y0 y1 y2 y3 y4 y5 y6))
 | 0 => ⟨fun _ _ _ _ _ _ r h => by simp [live_sets.l0] at h, fun _ _ _ _ _ _ _ r h => by simp [live_sets.l1] at h⟩
 | k + 1 => by
  obtain ⟨ih0, ih1⟩ := live_sets.mono_l k
  refine ⟨?_, ?_⟩ <;> intros <;> (first | unfold live_sets.l0 | unfold live_sets.l1) <;> repeat' first | (with_reducible exact ih0 _ _ _ _ _ _) | (with_reducible exact ih1 _ _ _ _ _ _ _) | (with_reducible exact live_ahead.mono _ _ _ _ _ _ _ _) | (with_reducible exact LeO.refl _) | (with_reducible exact LeO.none _) | (with_reducible refine LeO.ite ?_ ?_) | (with_reducible refine LeO.bind ?_ (fun _ => ?_)) | exact LeO.none _ | refine LeO.ite ?_ ?_ | refine LeO.bind ?_ (fun _ => ?_)
theorem live_sets.mono : ∀ a0 a1 a2 a3 k, LeO (live_sets.f k a0 a1 a2 a3) (live_sets.f (k + 1) a0 a1 a2 a3) := by
 intro a0 a1 a2 a3 k
 obtain ⟨ih0, ih1⟩ := live_sets.mono_l k
 unfold live_sets.f
 repeat' first | (with_reducible exact ih0 _ _ _ _ _ _) | (with_reducible exact ih1 _ _ _ _ _ _ _) | (with_reducible exact live_ahead.mono _ _ _ _ _ _ _ _) | (with_reducible exact LeO.refl _) | (with_reducible exact LeO.none _) | (with_reducible refine LeO.ite ?_ ?_) | (with_reducible refine LeO.bind ?_ (fun _ => ?_)) | exact LeO.none _ | refine LeO.ite ?_ ?_ | refine LeO.bind ?_ (fun _ => ?_)
set_option maxHeartbeats 8000000 in
set_option maxRecDepth 100000 in
theorem live_sets.calls (k : Nat) (a0_0 : ByteArray) (a0_1 : Int) (a0_2 : Int) (A0_3 : Option Addr) (c0_3 : Nat) (l0_3 : List (List (SIns))) (r : List Int) (w : World) (hL : LaidW w) (hr0_3 : Kd.C (Kd.slice 31 kIns) w A0_3 l0_3.length l0_3) (hc0_3 : l0_3.length ≤ c0_3) (h : live_sets.f k a0_0 a0_1 a0_2 l0_3 = some r) :
  Calls Tryd.prog 50 #[.agg #[.string a0_0, .int .i64 a0_1, .int .i64 a0_2, .slice A0_3 l0_3.length c0_3]] w fun e w' => ∃ v0_ : Value, e = .returned (v0_) ∧ Kd.R (Kd.int .u64) 61 w' w.heap.size (fun _ => True) v0_ r ∧ Below w.heap.size w w' := by
 have hu34 := Tryd.underlying34
 have HR0_3 := Aside0.mk hr0_3
 have HC0_3 := Aside0.mk hc0_3
 clear hr0_3 hc0_3
 have HB := Aside0.mk (Below.refl w.heap.size w)
 have HLd := Aside0.mk hL
 clear hL
 have H := h; clear h; unfold live_sets.f at H
 by_cases c2 : 0 ≤ (l0_3.length : Int)
 ·rw [if_pos c2] at H
  have c2b0 := eq_true c2
  have c2b1 := decide_eq_true c2
  clear c2
  by_cases c3 : ((l0_3.length : Int) : Int).toNat ≤ 35184372088832
  ·rw [if_pos c3] at H
   have c3b0 := eq_true c3
   have c3b1 := decide_eq_true c3
   clear c3
   obtain ⟨y254, hy254⟩ : ∃ y_ : List Int, y_ = (List.replicate ((l0_3.length : Int) : Int).toNat 0) := ⟨_, rfl⟩
   replace H : (live_sets.l0 k y254 true a0_0 a0_1 a0_2 l0_3) = some r := by first | (rw [hy254]; with_reducible exact H) | (have H2_ := (Option.bind_some _ _).symm.trans H; rw [hy254]; with_reducible exact H2_) | (have H2_ := (Option.bind_some _ _).symm.trans H; with_reducible exact H2_) | with_reducible exact H | (rw [hy254]; exact H) | exact H
   have Ny254 := Aside0.mk hy254
   clear hy254
   have H' := Aside0.mk H
   clear H
   go_enter Tryd.func50, Tryd.ntmps50
   go_wp2_with (first | ((with_reducible refine gate_dst (N := 1) rfl ?_); refine box_event (by rfl) (N := 1) (by rfl) (cs := #[.string a0_0, .int .i64 a0_1, .int .i64 a0_2, .slice A0_3 l0_3.length c0_3]) (t := 34) ?hr ?_; (case hr => first | (go_simp; done) | (go_simp; rfl)); intro gb253 hg w4 hbox hb; have BK253 := Aside0.mk (hbox); have GW253 := qG hg; have GE253 := GW253; replace HB := qH hb; clear hb hbox hg; obtain ⟨hcz5_0, hcz5_1, hcz5_2, hcz5_3, hfz5_0, hfz5_1, hfz5_2, hfz5_3⟩ := bk4 BK253.out) | ((with_reducible refine gate_dst (N := 10) rfl ?_); refine Kd.R_make (Kd.int .u64) _ 61 rfl (N := 10) rfl 62 _ _ rfl (l0_3.length : Int) rfl rfl Tryd.underlying62 (.int .u64 0) 8 info61 rfl (by decide) (by omega) 0 (ok := fun _ => True) (okp := fun _ => True) rfl (fun _ hk => hk) trivial (of_decide_eq_true qA) (Nat.le_trans (Nat.mul_le_mul_right _ (of_decide_eq_true qA : (l0_3.length : Int).toNat ≤ 35184372088832)) (by omega)) (Below.refl _ _) (Nat.le_refl _) ?_; intro v255 w6 ho7 hb hg_ hnew_; clear hg_ hnew_; (first | rw [← Ny254.out] at ho7 | (simp only [Int.reduceToNat] at ho7; rw [← Ny254.out] at ho7)); have HO256 := Aside0.mk (Kd.R_lower ho7 (below_size qB)); replace BK253 := qW BK253 hb; replace HB := qH hb; clear hb ho7))
   go_loopg [4] k (fun kq v4 w' => ∃ (x3_1 : List Int) (x4_1 : Bool), v4 = .bool x4_1 ∧ Aside0 (live_sets.l0 kq x3_1 x4_1 a0_0 a0_1 a0_2 l0_3 = some r) ∧ Aside0 (kq ≤ k) ∧ Aside0 (Kd.R (Kd.int .u64) 61 w' w.heap.size (fun _ => True) v255 x3_1) ∧ Aside0 (w'.heap[gb253]? = some (.cells #[.string a0_0, .int .i64 a0_1, .int .i64 a0_2, (.slice A0_3 l0_3.length c0_3)] 34 (0, 0))) ∧ Aside0 (Below w.heap.size w w'))
   case atStart => exact ⟨(y254), (true), qT, H', ⟨Nat.le_refl _⟩, ⟨qR HO256.out⟩, ⟨qK BK253.out⟩, ⟨qB⟩⟩
   case round =>
    clear H'
    try clear c2; try clear c2b0 c2b1; try clear p2; try clear c3; try clear c3b0 c3b1; try clear c5; try clear hcz5_0 hcz5_1 hcz5_2 hcz5_3 hfz5_0 hfz5_1 hfz5_2 hfz5_3
    obtain ⟨x3_1, x4_1, rfl, HA, HK1, HO_3, BK253, HB⟩ := hrel
    cases gk with
    | zero => exact absurd HA.out (by simp [live_sets.l0])
    | succ k1 =>
     have H := HA.out
     clear HA
     simp only [live_sets.l0] at H
     by_cases c8 : x4_1 = true
     ·subst c8
      have H1 : (live_sets.l1 k1 x3_1 false (wrap64 ((l0_3.length : Int) - 1)) a0_0 a0_1 a0_2 l0_3) = some r := by rw [if_pos rfl] at H; exact H
      clear H
      have H := H1
      clear H1
      have H' := Aside0.mk H
      clear H
      obtain ⟨hcz9_0, hcz9_1, hcz9_2, hcz9_3, hfz9_0, hfz9_1, hfz9_2, hfz9_3⟩ := bk4 BK253.out
      go_wp2
      go_loopg [4, 5] k1 (fun kq v4 v5 w' => ∃ (x3_2 : List Int) (x4_2 : Bool) (x5_2 : Int), v4 = .bool x4_2 ∧ v5 = .int .i64 x5_2 ∧ Aside0 (live_sets.l1 kq x3_2 x4_2 x5_2 a0_0 a0_1 a0_2 l0_3 = some r) ∧ Aside0 (kq ≤ k1) ∧ Aside0 (Kd.R (Kd.int .u64) 61 w' w.heap.size (fun _ => True) v255 x3_2) ∧ Aside0 (w'.heap[gb253]? = some (.cells #[.string a0_0, .int .i64 a0_1, .int .i64 a0_2, (.slice A0_3 l0_3.length c0_3)] 34 (0, 0))) ∧ Aside0 (Below w.heap.size w w'))
      case atStart => exact ⟨(x3_1), (false), (wrap64 ((l0_3.length : Int) - 1)), qT, qT, H', ⟨Nat.le_refl _⟩, ⟨qR HO_3.out⟩, ⟨qK BK253.out⟩, ⟨qB⟩⟩
      case round =>
       clear H'
       try clear c2; try clear c2b0 c2b1; try clear p2; try clear c3; try clear c3b0 c3b1; try clear c5; try clear p6; try clear c8; try clear hcz5_0 hcz5_1 hcz5_2 hcz5_3 hfz5_0 hfz5_1 hfz5_2 hfz5_3; try clear hcz9_0 hcz9_1 hcz9_2 hcz9_3 hfz9_0 hfz9_1 hfz9_2 hfz9_3
       obtain ⟨x3_2, x4_2, x5_2, rfl, rfl, HA, HK2, HO_3, BK253, HB⟩ := hrel
       cases gk with
       | zero => exact absurd HA.out (by simp [live_sets.l1])
       | succ k2 =>
        have H := HA.out
        clear HA
        simp only [live_sets.l1] at H
        by_cases c10 : x5_2 ≥ 0
        ·rw [if_pos c10] at H
         have c10b0 : decide (0 ≤ x5_2) = true := decide_eq_true c10
         clear c10
         replace H := qb H; obtain ⟨t257, A11, H⟩ := H
         by_cases c12 : x4_2 = true
         ·subst c12
          have H1 : (if 0 ≤ x5_2 then (if x5_2 < (x3_2.length : Int) then (live_sets.l1 k2 (x3_2.set (x5_2 : Int).toNat t257) true (wrap64 (x5_2 - 1)) a0_0 a0_1 a0_2 l0_3) else (none)) else (none)) = some r := by rw [if_pos rfl] at H; exact H
          clear H
          have H := H1
          clear H1
          by_cases c13 : 0 ≤ x5_2
          ·rw [if_pos c13] at H
           have c13b0 := decide_eq_true c13
           clear c13
           by_cases c14 : x5_2 < (x3_2.length : Int)
           ·rw [if_pos c14] at H
            have c14b0 := decide_eq_true c14
            clear c14
            obtain ⟨y258, hy258⟩ : ∃ y_ : List Int, y_ = (x3_2.set (x5_2 : Int).toNat t257) := ⟨_, rfl⟩
            replace H : (live_sets.l1 k2 y258 true (wrap64 (x5_2 - 1)) a0_0 a0_1 a0_2 l0_3) = some r := by first | (rw [hy258]; with_reducible exact H) | (have H2_ := (Option.bind_some _ _).symm.trans H; rw [hy258]; with_reducible exact H2_) | (have H2_ := (Option.bind_some _ _).symm.trans H; with_reducible exact H2_) | with_reducible exact H | (rw [hy258]; exact H) | exact H
            have Ny258 := Aside0.mk hy258
            clear hy258
            have H' := Aside0.mk H
            clear H
            obtain ⟨hcz16_0, hcz16_1, hcz16_2, hcz16_3, hfz16_0, hfz16_1, hfz16_2, hfz16_3⟩ := bk4 BK253.out
            obtain ⟨Ao17, co17, eo17⟩ := Kd.R_slice HO_3.out
            subst eo17
            go_wp2_with (first | ((with_reducible refine gate_callee (f := 51) rfl ?_); refine goesL_ (some 23) rfl rfl Tryd.func51 (by kernel_rfl) rfl #[.agg #[.string a0_0, .int .i64 a0_1, .int .i64 a0_2, .slice A0_3 l0_3.length c0_3], .slice Ao17 x3_2.length co17, .int .i64 x5_2, .int .i64 0] rfl qL ?_; (with_reducible refine (live_ahead.calls k2 a0_0 a0_1 a0_2 _ _ l0_3 _ _ x3_2 x5_2 0 t257 _ ?side1 ?side2 ?side3 ?side4 A11.out (hL := ?side99)).mono ?_); (case side1 => exact qCB HR0_3.out); (case side2 => exact HC0_3.out); (case side3 => repeat (first | exact (Kd.R_reads' HO_3.out).2.2 | (with_reducible refine Kd.C_alloc ?_ _) | (with_reducible refine Kd.C_drewN ?_ _) | (with_reducible refine Kd.C_drew ?_))); (case side4 => exact (Kd.R_reads' HO_3.out).2.1); (case side99 => exact LaidW.below HLd.out qB); rintro e w18 ⟨rfl, hb⟩; refine ⟨_, rfl, ?_⟩; replace HO_3 := Aside0.mk (Kd.R_below (qR HO_3.out) hb); replace BK253 := qW BK253 hb; replace HB := qH hb; (try clear hb); have p15 : 0 ≤ (x5_2 : Int) := of_decide_eq_true qA; have q15 : (x5_2 : Int) < ((x3_2.length : Int) : Int) := of_decide_eq_true qA; obtain ⟨go15, co15, eo15, gb15, gl15, cl15, HG15⟩ := Kd.R_form HO_3.out (by omega); (first | cases eo15 | (injection eo15 with ea_ en_ ec_; (first | subst ea_ | (injection ea_ with ea_; subst ea_)); subst ec_; clear en_)); have GB15 := Aside0.mk gb15; have GG15 := Aside0.mk HG15; clear gb15 gl15 HG15; obtain ⟨hx15_0, hf15_0⟩ := Kd.R_celln 0 HO_3.out (x5_2 : Int) p15 q15; replace p15 := eq_true p15; replace q15 := eq_true q15; obtain ⟨hy19_, hz19_⟩ := Kd.R_celln 0 HO_3.out (x5_2 : Int) (of_decide_eq_true qA) (of_decide_eq_true qA); have HP19 := Kd.R_putg HO_3.out (x5_2 : Int) t257) | ((with_reducible refine gate_store (t := 61) (p := 36) rfl ?_); refine store_event (t := 61) (p := 36) (v := ?vo_w20) (w1 := (w18.setCell ⟨go15, (x5_2 : Int).toNat, none⟩ (.int .u64 t257))) (by rfl) (by rfl) (by rfl) ?hr ?_; (case hr => first | (go_simp; done) | (go_simp; rfl)); intro w20 hw; have hg : w18.grownBy w20 (some go15) := (by rw [hw]; exact HP19.2); have hp_ : Kd.R (Kd.int .u64) 61 w20 w.heap.size (fun _ => True) (.slice (some ⟨go15, 0, none⟩) x3_2.length co17) y258 := (by rw [hw, Ny258.out]; exact HP19.1); clear HP19; replace BK253 := Aside0.mk (blk_grown (qK BK253.out) hg (Kd.R_ne HO_3.out BK253.out (by decide))); replace HO_3 := Aside0.mk (hp_); replace HB := Aside0.mk ((by rw [hw]; exact below_set (HB.out) GB15.out : Below w.heap.size w w20)); clear hg hw hp_))
            go_roundg k2
            case measure => have := HK1.out; have := HK2.out; omega
            case rel => exact ⟨(y258), (true), (wrap64 (x5_2 - 1)), qT, qT, H', ⟨by have := HK1.out; have := HK2.out; omega⟩, ⟨qR HO_3.out⟩, ⟨qK BK253.out⟩, ⟨qB⟩⟩
           ·rw [if_neg c14] at H
            exact absurd H (by simp)
          ·rw [if_neg c13] at H
           exact absurd H (by simp)
         ·replace c12 := Bool.eq_false_iff.mpr c12
          subst c12
          have H1 : (if 0 ≤ x5_2 then (if x5_2 < (x3_2.length : Int) then (live_sets.l1 k2 (x3_2.set (x5_2 : Int).toNat t257) (t257 != (rd x3_2 x5_2)) (wrap64 (x5_2 - 1)) a0_0 a0_1 a0_2 l0_3) else (none)) else (none)) = some r := by rw [if_neg (show ¬ (false = true) by decide)] at H; exact H
          clear H
          have H := H1
          clear H1
          by_cases c21 : 0 ≤ x5_2
          ·rw [if_pos c21] at H
           have c21b0 := decide_eq_true c21
           clear c21
           by_cases c22 : x5_2 < (x3_2.length : Int)
           ·rw [if_pos c22] at H
            have c22b0 := decide_eq_true c22
            clear c22
            obtain ⟨y260, hy260⟩ : ∃ y_ : List Int, y_ = (x3_2.set (x5_2 : Int).toNat t257) := ⟨_, rfl⟩
            replace H : (live_sets.l1 k2 y260 (t257 != (rd x3_2 x5_2)) (wrap64 (x5_2 - 1)) a0_0 a0_1 a0_2 l0_3) = some r := by first | (rw [hy260]; with_reducible exact H) | (have H2_ := (Option.bind_some _ _).symm.trans H; rw [hy260]; with_reducible exact H2_) | (have H2_ := (Option.bind_some _ _).symm.trans H; with_reducible exact H2_) | with_reducible exact H | (rw [hy260]; exact H) | exact H
            have Ny260 := Aside0.mk hy260
            clear hy260
            have H' := Aside0.mk H
            clear H
            obtain ⟨hcz24_0, hcz24_1, hcz24_2, hcz24_3, hfz24_0, hfz24_1, hfz24_2, hfz24_3⟩ := bk4 BK253.out
            obtain ⟨Ao25, co25, eo25⟩ := Kd.R_slice HO_3.out
            subst eo25
            go_wp2_with (first | ((with_reducible refine gate_callee (f := 51) rfl ?_); refine goesL_ (some 23) rfl rfl Tryd.func51 (by kernel_rfl) rfl #[.agg #[.string a0_0, .int .i64 a0_1, .int .i64 a0_2, .slice A0_3 l0_3.length c0_3], .slice Ao25 x3_2.length co25, .int .i64 x5_2, .int .i64 0] rfl qL ?_; (with_reducible refine (live_ahead.calls k2 a0_0 a0_1 a0_2 _ _ l0_3 _ _ x3_2 x5_2 0 t257 _ ?side1 ?side2 ?side3 ?side4 A11.out (hL := ?side99)).mono ?_); (case side1 => exact qCB HR0_3.out); (case side2 => exact HC0_3.out); (case side3 => repeat (first | exact (Kd.R_reads' HO_3.out).2.2 | (with_reducible refine Kd.C_alloc ?_ _) | (with_reducible refine Kd.C_drewN ?_ _) | (with_reducible refine Kd.C_drew ?_))); (case side4 => exact (Kd.R_reads' HO_3.out).2.1); (case side99 => exact LaidW.below HLd.out qB); rintro e w26 ⟨rfl, hb⟩; refine ⟨_, rfl, ?_⟩; replace HO_3 := Aside0.mk (Kd.R_below (qR HO_3.out) hb); replace BK253 := qW BK253 hb; replace HB := qH hb; (try clear hb); have p259 : 0 ≤ (x5_2 : Int) := of_decide_eq_true qA; have q259 : x5_2 < (x3_2.length : Int) := of_decide_eq_true qA; obtain ⟨ad259, e259, hx259_0⟩ := Kd.at_int (Kd.R_reads' HO_3.out).2.2 x5_2 p259 q259; cases e259; replace p259 := eq_true p259; replace q259 := eq_true q259; have p23 : 0 ≤ (x5_2 : Int) := of_decide_eq_true qA; have q23 : (x5_2 : Int) < ((x3_2.length : Int) : Int) := of_decide_eq_true qA; obtain ⟨go23, co23, eo23, gb23, gl23, cl23, HG23⟩ := Kd.R_form HO_3.out (by omega); (first | cases eo23 | (injection eo23 with ea_ en_ ec_; (first | subst ea_ | (injection ea_ with ea_; subst ea_)); subst ec_; clear en_)); have GB23 := Aside0.mk gb23; have GG23 := Aside0.mk HG23; clear gb23 gl23 HG23; (first | simp only [add_plain] at hx259_0 | skip); obtain ⟨hx23_0, hf23_0⟩ := Kd.R_celln 0 HO_3.out (x5_2 : Int) p23 q23; replace p23 := eq_true p23; replace q23 := eq_true q23; obtain ⟨hy27_, hz27_⟩ := Kd.R_celln 0 HO_3.out (x5_2 : Int) (of_decide_eq_true qA) (of_decide_eq_true qA); have HP27 := Kd.R_putg HO_3.out (x5_2 : Int) t257) | ((with_reducible refine gate_store (t := 61) (p := 36) rfl ?_); refine store_event (t := 61) (p := 36) (v := ?vo_w28) (w1 := (w26.setCell ⟨go23, (x5_2 : Int).toNat, none⟩ (.int .u64 t257))) (by rfl) (by rfl) (by rfl) ?hr ?_; (case hr => first | (go_simp; done) | (go_simp; rfl)); intro w28 hw; have hg : w26.grownBy w28 (some go23) := (by rw [hw]; exact HP27.2); have hp_ : Kd.R (Kd.int .u64) 61 w28 w.heap.size (fun _ => True) (.slice (some ⟨go23, 0, none⟩) x3_2.length co25) y260 := (by rw [hw, Ny260.out]; exact HP27.1); clear HP27; replace BK253 := Aside0.mk (blk_grown (qK BK253.out) hg (Kd.R_ne HO_3.out BK253.out (by decide))); replace HO_3 := Aside0.mk (hp_); replace HB := Aside0.mk ((by rw [hw]; exact below_set (HB.out) GB23.out : Below w.heap.size w w28)); clear hg hw hp_))
            go_roundg k2
            case measure => have := HK1.out; have := HK2.out; omega
            case rel => exact ⟨(y260), ((t257 != (rd x3_2 x5_2))), (wrap64 (x5_2 - 1)), qT, qT, H', ⟨by have := HK1.out; have := HK2.out; omega⟩, ⟨qR HO_3.out⟩, ⟨qK BK253.out⟩, ⟨qB⟩⟩
           ·rw [if_neg c22] at H
            exact absurd H (by simp)
          ·rw [if_neg c21] at H
           exact absurd H (by simp)
        ·rw [if_neg c10] at H
         have c10b0 : decide (0 ≤ x5_2) = false := decide_eq_false c10
         clear c10
         have H' := Aside0.mk H
         clear H
         go_wp2
         go_roundg k2
         case measure => have := HK1.out; have := HK2.out; omega
         case rel => exact ⟨(x3_2), (x4_2), qT, H', ⟨by have := HK1.out; have := HK2.out; omega⟩, ⟨qR HO_3.out⟩, ⟨qK BK253.out⟩, ⟨qB⟩⟩
     ·replace c8 := Bool.eq_false_iff.mpr c8
      subst c8
      have H1 : (some x3_1) = some r := by rw [if_neg (show ¬ (false = true) by decide)] at H; exact H
      clear H
      have H := H1
      clear H1
      obtain rfl := Option.some.inj H
      go_wp2
      go_ret
      exact ⟨_, qE, qR HO_3.out, qB⟩
  ·rw [if_neg c3] at H
   exact absurd H (by simp)
 ·rw [if_neg c2] at H
  exact absurd H (by simp)

end Go.Proofs.YtebnnknijbgekaaDoor.Q
namespace Go.Proofs.YtebnnknijbgekaaDoor.Q
open Go.RowKit Go.Proofs.YtebnnknijbgekaaDoorW.PrintWords Go.Proofs.YtebnnknijbgekaaDoorW.PrintLast Go.Proofs.YtebnnknijbgekaaDoorW.PrintMore
attribute [local go_sem] max2_int min2_int max_two min_two max_three min_three max_four min_four   -- for this text's walks alone
set_option linter.unusedVariables false
set_option linter.unusedSimpArgs false

/-! ### live_Check: function 20 -/
def live_Check.f (k : Nat) (a0_0 : ByteArray) (a0_1 : Int) (a0_2 : Int) (l0_3 : List (List (SIns))) : Option (Int) := (ir_Check.f k a0_0 a0_1 a0_2 l0_3).bind fun t262 => (if t262 = 0 then ((live_sets.f k a0_0 a0_1 a0_2 l0_3).bind fun t263 => (if 0 < (t263.length : Int) then (if 0 ≤ (IntKind.u64.wrap (a0_1)) then (if (shr .u64 (rd t263 0) (IntKind.u64.wrap (a0_1))) = 0 then (some 0) else (some 110)) else (none)) else (none))) else (some t262))
theorem live_Check.mono : ∀ a0 a1 a2 a3 k, LeO (live_Check.f k a0 a1 a2 a3) (live_Check.f (k + 1) a0 a1 a2 a3) := by
 intro a0 a1 a2 a3 k
 unfold live_Check.f
 repeat' first | (with_reducible exact ir_Check.mono _ _ _ _ _) | (with_reducible exact live_sets.mono _ _ _ _ _) | (with_reducible exact LeO.refl _) | (with_reducible exact LeO.none _) | (with_reducible refine LeO.ite ?_ ?_) | (with_reducible refine LeO.bind ?_ (fun _ => ?_)) | exact LeO.none _ | refine LeO.ite ?_ ?_ | refine LeO.bind ?_ (fun _ => ?_)
def live_Check.T4 : Bool × List (List Nat × List Nat) := (true, [([], []), ([0], [0]), ([1], [1]), ([2], [2]), ([], []), ([4], [4]), ([5], [5]), ([3, 6], [3, 6]), ([7], [7])])
def live_Check.B4 : List Nat := [0, 1, 3, 7, 0, 16, 48, 127, 255]
theorem live_Check.tab4 : rtab .any (opsOf Tryd.f20 4) = live_Check.T4 := by kernel_rfl
theorem live_Check.bits4 : waitsOk live_Check.T4.2 live_Check.B4 = true := by kernel_rfl
theorem live_Check.one_value {P : Program} {ops : Array Oper} {Q : Exit → Act → World → Prop} {oi : Oper} {N : Option Tmp} {a : Act} {w : World} {K : Act → World → Prop} (v : Value) (hw : Region.wanted oi (yielded ops a.tmps) = true) (hN : oi.dst = N) (hrun : (execOp a.eval oi).run P w = .ok (.value v) w) (h : K (a.put N v) w) :
 if Region.wanted oi (yielded ops a.tmps) = true then Oper.wp P oi a w K Q else K (a.put N undef) w := by
 rw [if_pos hw]
 unfold Oper.wp
 rw [hrun, Oper.upon_value, hN]
 exact h
set_option maxHeartbeats 8000000 in
set_option maxRecDepth 100000 in
theorem live_Check.calls (k : Nat) (a0_0 : ByteArray) (a0_1 : Int) (a0_2 : Int) (A0_3 : Option Addr) (c0_3 : Nat) (l0_3 : List (List (SIns))) (r : Int) (w : World) (hL : LaidW w) (hr0_3 : Kd.C (Kd.slice 31 kIns) w A0_3 l0_3.length l0_3) (hc0_3 : l0_3.length ≤ c0_3) (h : live_Check.f k a0_0 a0_1 a0_2 l0_3 = some r) :
  Calls Tryd.prog 20 #[.agg #[.string a0_0, .int .i64 a0_1, .int .i64 a0_2, .slice A0_3 l0_3.length c0_3]] w fun e w' => e = .returned (.int .i64 r) ∧ Below w.heap.size w w' := by
 have hu34 := Tryd.underlying34
 have HR0_3 := Aside0.mk hr0_3
 have HC0_3 := Aside0.mk hc0_3
 clear hr0_3 hc0_3
 have HB := Aside0.mk (Below.refl w.heap.size w)
 have HLd := Aside0.mk hL
 clear hL
 have H := h; clear h; unfold live_Check.f at H
 replace H := qb H; obtain ⟨t262, A2, H⟩ := H
 by_cases c3 : t262 = 0
 ·rw [if_pos c3] at H
  obtain ⟨c3b0, c3b1⟩ := qe c3; clear c3
  replace H := qb H; obtain ⟨t263, A4, H⟩ := H
  by_cases c5 : 0 < (t263.length : Int)
  ·rw [if_pos c5] at H
   have c5b0 := decide_eq_true c5
   have c5b1 : decide (0 < t263.length) = true := decide_eq_true (by omega)
   clear c5
   obtain ⟨ji6, hji6⟩ : ∃ j_ : Int, (IntKind.u64.wrap (a0_1)) = j_ := ⟨_, rfl⟩
   replace H : (if 0 ≤ (ji6) then (if (shr .u64 (rd t263 0) (ji6)) = 0 then (some 0) else (some 110)) else (none)) = some r := by first | (rw [hji6] at H; exact H) | (simp only [hji6] at H ⊢; exact H)
   (try rw [hji6] at A2)
   (try rw [hji6] at A4)
   by_cases c7 : 0 ≤ (ji6)
   ·rw [if_pos c7] at H
    have c7b0 := eq_true c7
    have c7b1 := decide_eq_true c7
    clear c7
    obtain ⟨ji8, hji8⟩ : ∃ j_ : Int, (shr .u64 (rd t263 0) (ji6)) = j_ := ⟨_, rfl⟩
    replace H : (if (ji8) = 0 then (some 0) else (some 110)) = some r := by first | (rw [hji8] at H; exact H) | (simp only [hji8] at H ⊢; exact H)
    (try rw [hji8] at A2)
    (try rw [hji8] at A4)
    have hji8_ : ((rd t263 0) / 2 ^ min (ji6).toNat 64) = ji8 := hji8
    have hji8z : (ji6) ≤ 64 → ((rd t263 0) / 2 ^ (ji6).toNat) = ji8 := shr_small hji8
    by_cases c9 : (ji8) = 0
    ·rw [if_pos c9] at H
     obtain ⟨c9b0, c9b1⟩ := qe c9; clear c9
     obtain rfl := Option.some.inj H
     go_enter Tryd.func20, Tryd.ntmps20
     try go_wp2_with (first | ((with_reducible refine gate_dst (N := 1) rfl ?_); refine box_event (by rfl) (N := 1) (by rfl) (cs := #[.string a0_0, .int .i64 a0_1, .int .i64 a0_2, .slice A0_3 l0_3.length c0_3]) (t := 34) ?hr ?_; (case hr => first | (go_simp; done) | (go_simp; rfl)); intro gb261 hg w10 hbox hb; have BK261 := Aside0.mk (hbox); have GW261 := qG hg; have GE261 := GW261; replace HB := qH hb; clear hb hbox hg; obtain ⟨hcz11_0, hcz11_1, hcz11_2, hcz11_3, hfz11_0, hfz11_1, hfz11_2, hfz11_3⟩ := bk4 BK261.out) | ((with_reducible refine gate_callee (f := 49) rfl ?_); refine goesL_ (some 5) rfl rfl Tryd.func49 (by kernel_rfl) rfl #[.agg #[.string a0_0, .int .i64 a0_1, .int .i64 a0_2, .slice A0_3 l0_3.length c0_3]] rfl qL ?_; (with_reducible refine (ir_Check.calls k a0_0 a0_1 a0_2 _ _ l0_3 t262 _ ?side1 ?side2 A2.out (hL := ?side99)).mono ?_); (case side1 => exact qCB HR0_3.out); (case side2 => exact HC0_3.out); (case side99 => exact LaidW.below HLd.out qB); rintro e w12 ⟨rfl, hb⟩; refine ⟨_, rfl, ?_⟩; replace BK261 := qW BK261 hb; replace HB := qH hb; (try clear hb)))
     have n0_ := Aside0.mk (blk_drew BK261.out)
     have n1_ := Aside0.mk (below_drew1 HB.out)
     clear BK261
     clear HB
     have BK261 := n0_
     have HB := n1_
     clear n0_ n1_
     refine start_ (n := 9) (S := fun w' => w'.cell? ⟨gb261, 0, none⟩ = some (.string a0_0) ∧ w'.cell? ⟨gb261, 1, none⟩ = some (.int .i64 a0_1) ∧ w'.cell? ⟨gb261, 2, none⟩ = some (.int .i64 a0_2) ∧ w'.cell? ⟨gb261, 3, none⟩ = some (.slice A0_3 l0_3.length c0_3)) (ds := []) #[false, false, false, false, false, false, false, false, false] (by kernel_rfl) rfl rfl ⟨(blk_cell BK261.out 0).trans rfl, (blk_cell BK261.out 1).trans rfl, (blk_cell BK261.out 2).trans rfl, (blk_cell BK261.out 3).trans rfl⟩ (fun hHeld => ?_); refine with_tabW live_Check.tab4 live_Check.bits4 (fun HT_ HW_ => ?_)
     generalize w12.drew = w13 at BK261 HB hHeld ⊢
     refine pure_ (i := 4) (N := some 13) (v := ?_) (a' := ?_) #[false, false, false, false, true, false, false, false, false] rfl rfl (any_of HT_.out (by kernel_rfl)) (fun _ _ _ h => h) (Or.inl ⟨by rfl, ?_⟩) ?_ ?_
     rotate_left
     ·intro w'
      go_simp
      with_reducible rfl
     rotate_left
     ·simp only [Act.put, List.setIfInBounds_toArray, List.set_cons_zero, List.set_cons_succ, i64_w, i32_w]
      rfl
     refine take_ (i := 0) (N := some 9) (v := ?_) (a' := ?_) #[true, false, false, false, true, false, false, false, false] rfl rfl (take_ofW HT_.out HW_.out (by kernel_rfl)) (fun _ _ _ h => h) (Or.inl ⟨by rfl, ?_⟩) hHeld ?_ ?_
     rotate_left
     ·rintro w' ⟨s0, s1, s2, s3⟩
      go_simp
      with_reducible rfl
     rotate_left
     ·simp only [Act.put, List.setIfInBounds_toArray, List.set_cons_zero, List.set_cons_succ, i64_w, i32_w]
      rfl
     refine take_ (i := 5) (N := some 14) (v := ?_) (a' := ?_) #[true, false, false, false, true, true, false, false, false] rfl rfl (take_ofW HT_.out HW_.out (by kernel_rfl)) (fun _ _ _ h => h) (Or.inl ⟨by rfl, ?_⟩) hHeld ?_ ?_
     rotate_left
     ·rintro w' ⟨s0, s1, s2, s3⟩
      go_simp
      with_reducible rfl
     rotate_left
     ·simp only [Act.put, List.setIfInBounds_toArray, List.set_cons_zero, List.set_cons_succ, i64_w, i32_w]
      rfl
     refine pure_ (i := 6) (N := some 15) (v := ?_) (a' := ?_) #[true, false, false, false, true, true, true, false, false] rfl rfl (any_of HT_.out (by kernel_rfl)) (fun _ _ _ h => h) (Or.inl ⟨by rfl, ?_⟩) ?_ ?_
     rotate_left
     ·intro w'
      go_simp
      with_reducible rfl
     rotate_left
     ·simp only [Act.put, List.setIfInBounds_toArray, List.set_cons_zero, List.set_cons_succ, i64_w, i32_w]
      rfl
     refine one_ (i := 1) (N := some 10) #[true, true, false, false, true, true, true, false, false] rfl rfl (one_of HT_.out (by kernel_rfl)) (by decide) (fun K hK => ?_)
     refine goes_ Tryd.func50 (by kernel_rfl) rfl #[.agg #[.string a0_0, .int .i64 a0_1, .int .i64 a0_2, .slice A0_3 l0_3.length c0_3]] (by rfl) rfl rfl qL ?_
     with_reducible refine (live_sets.calls k a0_0 a0_1 a0_2 _ _ l0_3 t263 _ ?side1 ?side2 A4.out (hL := ?side99)).mono ?_
     (case side1 => exact qCB HR0_3.out)
     (case side2 => exact HC0_3.out)
     (case side99 => exact LaidW.below HLd.out qB)
     rintro e w14 ⟨v264, rfl, ho0, hb⟩
     refine ⟨_, rfl, ?_⟩
     have n0_ := Aside0.mk (Kd.R_lower ho0 (below_size qB))
     have n1_ := qW BK261 hb
     have n2_ := qH hb
     clear BK261
     clear HB
     have HO265 := n0_
     have BK261 := n1_
     have HB := n2_
     clear n0_ n1_ n2_
     (try clear hb)
     (try clear hb2)
     (try clear hk)
     (try clear hi)
     (try clear ho0)
     obtain ⟨Ao15, co15, eo15⟩ := Kd.R_slice HO265.out
     (first | subst eo15 | (injection eo15 with f1_ f2_ f3_; have f4_ := f1_.symm; have f5_ := f3_.symm; clear f1_ f2_ f3_; subst f4_; subst f5_))
     have p266 : 0 ≤ (0 : Int) := (by omega)
     have q266 : 0 < (t263.length : Int) := of_decide_eq_true qA
     obtain ⟨ad266, e266, hx266_0⟩ := Kd.at_int (Kd.R_reads' HO265.out).2.2 0 p266 q266
     cases e266
     have qi266 : (0 < t263.length) = True := eq_true (by omega)
     (try rw [show ((0 : Int)).toNat = 0 from rfl] at hx266_0)
     (try rw [Addr.add_zero'] at hx266_0)
     replace p266 := eq_true p266
     replace q266 := eq_true q266
     refine hK.out _ _ ⟨(blk_cell BK261.out 0).trans rfl, (blk_cell BK261.out 1).trans rfl, (blk_cell BK261.out 2).trans rfl, (blk_cell BK261.out 3).trans rfl⟩ (fun hHeld => ?_)
     clear hK K
     refine norm_ (a' := ?_) ?_ ?_
     rotate_left
     ·show Act.put _ (some 10) _ = _
      simp only [Act.put, List.setIfInBounds_toArray, List.set_cons_zero, List.set_cons_succ, i64_w, i32_w]
      rfl
     refine pure_ (i := 2) (N := some 11) (v := ?_) (a' := ?_) #[true, true, true, false, true, true, true, false, false] rfl rfl (any_of HT_.out (by kernel_rfl)) (fun _ _ _ h => h) (Or.inl ⟨by rfl, ?_⟩) ?_ ?_
     rotate_left
     ·intro w'
      go_simp
      with_reducible rfl
     rotate_left
     ·simp only [Act.put, List.setIfInBounds_toArray, List.set_cons_zero, List.set_cons_succ, i64_w, i32_w]
      rfl
     refine one_ (i := 3) (N := some 12) #[true, true, true, true, true, true, true, false, false] rfl rfl (one_of HT_.out (by kernel_rfl)) (by decide) (fun K hK => ?_)
     refine live_Check.one_value (.int .u64 (rd t263 0)) rfl rfl (by first | (go_simp; done) | (go_simp; with_reducible rfl)) ?_
     refine hK.out _ _ ⟨(blk_cell BK261.out 0).trans rfl, (blk_cell BK261.out 1).trans rfl, (blk_cell BK261.out 2).trans rfl, (blk_cell BK261.out 3).trans rfl⟩ (fun hHeld => ?_)
     clear hK K
     refine norm_ (a' := ?_) ?_ ?_
     rotate_left
     ·show Act.put _ (some 12) _ = _
      simp only [Act.put, List.setIfInBounds_toArray, List.set_cons_zero, List.set_cons_succ, i64_w, i32_w]
      rfl
     refine pure_ (i := 7) (N := some 16) (v := ?_) (a' := ?_) #[true, true, true, true, true, true, true, true, false] rfl rfl (any_of HT_.out (by kernel_rfl)) (fun _ _ _ h => h) (Or.inl ⟨by rfl, ?_⟩) ?_ ?_
     rotate_left
     ·intro w'
      go_simp
      with_reducible rfl
     rotate_left
     ·simp only [Act.put, List.setIfInBounds_toArray, List.set_cons_zero, List.set_cons_succ, i64_w, i32_w]
      rfl
     refine pure_ (i := 8) (N := some 17) (v := ?_) (a' := ?_) #[true, true, true, true, true, true, true, true, true] rfl rfl (any_of HT_.out (by kernel_rfl)) (fun _ _ _ h => h) (Or.inl ⟨by rfl, ?_⟩) ?_ ?_
     rotate_left
     ·intro w'
      go_simp
      with_reducible rfl
     rotate_left
     ·simp only [Act.put, List.setIfInBounds_toArray, List.set_cons_zero, List.set_cons_succ, i64_w, i32_w]
      rfl
     refine done_ (done_of HT_.out (by kernel_rfl)) ?_
     try go_wp2
     go_ret
     exact ⟨by first | rfl | (simp [errW_none, errW_some] <;> rfl) | (simp only [← hji6, ← hji8]; first | rfl | (simp [errW_none, errW_some] <;> rfl)) | (simp [*, errW_none, errW_some] <;> rfl), qB⟩
    ·rw [if_neg c9] at H
     obtain ⟨c9b0, c9b1⟩ := qn c9
     obtain rfl := Option.some.inj H
     go_enter Tryd.func20, Tryd.ntmps20
     try go_wp2_with (first | ((with_reducible refine gate_dst (N := 1) rfl ?_); refine box_event (by rfl) (N := 1) (by rfl) (cs := #[.string a0_0, .int .i64 a0_1, .int .i64 a0_2, .slice A0_3 l0_3.length c0_3]) (t := 34) ?hr ?_; (case hr => first | (go_simp; done) | (go_simp; rfl)); intro gb261 hg w16 hbox hb; have BK261 := Aside0.mk (hbox); have GW261 := qG hg; have GE261 := GW261; replace HB := qH hb; clear hb hbox hg; obtain ⟨hcz17_0, hcz17_1, hcz17_2, hcz17_3, hfz17_0, hfz17_1, hfz17_2, hfz17_3⟩ := bk4 BK261.out) | ((with_reducible refine gate_callee (f := 49) rfl ?_); refine goesL_ (some 5) rfl rfl Tryd.func49 (by kernel_rfl) rfl #[.agg #[.string a0_0, .int .i64 a0_1, .int .i64 a0_2, .slice A0_3 l0_3.length c0_3]] rfl qL ?_; (with_reducible refine (ir_Check.calls k a0_0 a0_1 a0_2 _ _ l0_3 t262 _ ?side1 ?side2 A2.out (hL := ?side99)).mono ?_); (case side1 => exact qCB HR0_3.out); (case side2 => exact HC0_3.out); (case side99 => exact LaidW.below HLd.out qB); rintro e w18 ⟨rfl, hb⟩; refine ⟨_, rfl, ?_⟩; replace BK261 := qW BK261 hb; replace HB := qH hb; (try clear hb)))
     have n0_ := Aside0.mk (blk_drew BK261.out)
     have n1_ := Aside0.mk (below_drew1 HB.out)
     clear BK261
     clear HB
     have BK261 := n0_
     have HB := n1_
     clear n0_ n1_
     refine start_ (n := 9) (S := fun w' => w'.cell? ⟨gb261, 0, none⟩ = some (.string a0_0) ∧ w'.cell? ⟨gb261, 1, none⟩ = some (.int .i64 a0_1) ∧ w'.cell? ⟨gb261, 2, none⟩ = some (.int .i64 a0_2) ∧ w'.cell? ⟨gb261, 3, none⟩ = some (.slice A0_3 l0_3.length c0_3)) (ds := []) #[false, false, false, false, false, false, false, false, false] (by kernel_rfl) rfl rfl ⟨(blk_cell BK261.out 0).trans rfl, (blk_cell BK261.out 1).trans rfl, (blk_cell BK261.out 2).trans rfl, (blk_cell BK261.out 3).trans rfl⟩ (fun hHeld => ?_); refine with_tabW live_Check.tab4 live_Check.bits4 (fun HT_ HW_ => ?_)
     generalize w18.drew = w19 at BK261 HB hHeld ⊢
     refine pure_ (i := 4) (N := some 13) (v := ?_) (a' := ?_) #[false, false, false, false, true, false, false, false, false] rfl rfl (any_of HT_.out (by kernel_rfl)) (fun _ _ _ h => h) (Or.inl ⟨by rfl, ?_⟩) ?_ ?_
     rotate_left
     ·intro w'
      go_simp
      with_reducible rfl
     rotate_left
     ·simp only [Act.put, List.setIfInBounds_toArray, List.set_cons_zero, List.set_cons_succ, i64_w, i32_w]
      rfl
     refine take_ (i := 0) (N := some 9) (v := ?_) (a' := ?_) #[true, false, false, false, true, false, false, false, false] rfl rfl (take_ofW HT_.out HW_.out (by kernel_rfl)) (fun _ _ _ h => h) (Or.inl ⟨by rfl, ?_⟩) hHeld ?_ ?_
     rotate_left
     ·rintro w' ⟨s0, s1, s2, s3⟩
      go_simp
      with_reducible rfl
     rotate_left
     ·simp only [Act.put, List.setIfInBounds_toArray, List.set_cons_zero, List.set_cons_succ, i64_w, i32_w]
      rfl
     refine take_ (i := 5) (N := some 14) (v := ?_) (a' := ?_) #[true, false, false, false, true, true, false, false, false] rfl rfl (take_ofW HT_.out HW_.out (by kernel_rfl)) (fun _ _ _ h => h) (Or.inl ⟨by rfl, ?_⟩) hHeld ?_ ?_
     rotate_left
     ·rintro w' ⟨s0, s1, s2, s3⟩
      go_simp
      with_reducible rfl
     rotate_left
     ·simp only [Act.put, List.setIfInBounds_toArray, List.set_cons_zero, List.set_cons_succ, i64_w, i32_w]
      rfl
     refine pure_ (i := 6) (N := some 15) (v := ?_) (a' := ?_) #[true, false, false, false, true, true, true, false, false] rfl rfl (any_of HT_.out (by kernel_rfl)) (fun _ _ _ h => h) (Or.inl ⟨by rfl, ?_⟩) ?_ ?_
     rotate_left
     ·intro w'
      go_simp
      with_reducible rfl
     rotate_left
     ·simp only [Act.put, List.setIfInBounds_toArray, List.set_cons_zero, List.set_cons_succ, i64_w, i32_w]
      rfl
     refine one_ (i := 1) (N := some 10) #[true, true, false, false, true, true, true, false, false] rfl rfl (one_of HT_.out (by kernel_rfl)) (by decide) (fun K hK => ?_)
     refine goes_ Tryd.func50 (by kernel_rfl) rfl #[.agg #[.string a0_0, .int .i64 a0_1, .int .i64 a0_2, .slice A0_3 l0_3.length c0_3]] (by rfl) rfl rfl qL ?_
     with_reducible refine (live_sets.calls k a0_0 a0_1 a0_2 _ _ l0_3 t263 _ ?side1 ?side2 A4.out (hL := ?side99)).mono ?_
     (case side1 => exact qCB HR0_3.out)
     (case side2 => exact HC0_3.out)
     (case side99 => exact LaidW.below HLd.out qB)
     rintro e w20 ⟨v264, rfl, ho0, hb⟩
     refine ⟨_, rfl, ?_⟩
     have n0_ := Aside0.mk (Kd.R_lower ho0 (below_size qB))
     have n1_ := qW BK261 hb
     have n2_ := qH hb
     clear BK261
     clear HB
     have HO265 := n0_
     have BK261 := n1_
     have HB := n2_
     clear n0_ n1_ n2_
     (try clear hb)
     (try clear hb2)
     (try clear hk)
     (try clear hi)
     (try clear ho0)
     obtain ⟨Ao21, co21, eo21⟩ := Kd.R_slice HO265.out
     (first | subst eo21 | (injection eo21 with f1_ f2_ f3_; have f4_ := f1_.symm; have f5_ := f3_.symm; clear f1_ f2_ f3_; subst f4_; subst f5_))
     have p266 : 0 ≤ (0 : Int) := (by omega)
     have q266 : 0 < (t263.length : Int) := of_decide_eq_true qA
     obtain ⟨ad266, e266, hx266_0⟩ := Kd.at_int (Kd.R_reads' HO265.out).2.2 0 p266 q266
     cases e266
     have qi266 : (0 < t263.length) = True := eq_true (by omega)
     (try rw [show ((0 : Int)).toNat = 0 from rfl] at hx266_0)
     (try rw [Addr.add_zero'] at hx266_0)
     replace p266 := eq_true p266
     replace q266 := eq_true q266
     refine hK.out _ _ ⟨(blk_cell BK261.out 0).trans rfl, (blk_cell BK261.out 1).trans rfl, (blk_cell BK261.out 2).trans rfl, (blk_cell BK261.out 3).trans rfl⟩ (fun hHeld => ?_)
     clear hK K
     refine norm_ (a' := ?_) ?_ ?_
     rotate_left
     ·show Act.put _ (some 10) _ = _
      simp only [Act.put, List.setIfInBounds_toArray, List.set_cons_zero, List.set_cons_succ, i64_w, i32_w]
      rfl
     refine pure_ (i := 2) (N := some 11) (v := ?_) (a' := ?_) #[true, true, true, false, true, true, true, false, false] rfl rfl (any_of HT_.out (by kernel_rfl)) (fun _ _ _ h => h) (Or.inl ⟨by rfl, ?_⟩) ?_ ?_
     rotate_left
     ·intro w'
      go_simp
      with_reducible rfl
     rotate_left
     ·simp only [Act.put, List.setIfInBounds_toArray, List.set_cons_zero, List.set_cons_succ, i64_w, i32_w]
      rfl
     refine one_ (i := 3) (N := some 12) #[true, true, true, true, true, true, true, false, false] rfl rfl (one_of HT_.out (by kernel_rfl)) (by decide) (fun K hK => ?_)
     refine live_Check.one_value (.int .u64 (rd t263 0)) rfl rfl (by first | (go_simp; done) | (go_simp; with_reducible rfl)) ?_
     refine hK.out _ _ ⟨(blk_cell BK261.out 0).trans rfl, (blk_cell BK261.out 1).trans rfl, (blk_cell BK261.out 2).trans rfl, (blk_cell BK261.out 3).trans rfl⟩ (fun hHeld => ?_)
     clear hK K
     refine norm_ (a' := ?_) ?_ ?_
     rotate_left
     ·show Act.put _ (some 12) _ = _
      simp only [Act.put, List.setIfInBounds_toArray, List.set_cons_zero, List.set_cons_succ, i64_w, i32_w]
      rfl
     refine pure_ (i := 7) (N := some 16) (v := ?_) (a' := ?_) #[true, true, true, true, true, true, true, true, false] rfl rfl (any_of HT_.out (by kernel_rfl)) (fun _ _ _ h => h) (Or.inl ⟨by rfl, ?_⟩) ?_ ?_
     rotate_left
     ·intro w'
      go_simp
      with_reducible rfl
     rotate_left
     ·simp only [Act.put, List.setIfInBounds_toArray, List.set_cons_zero, List.set_cons_succ, i64_w, i32_w]
      rfl
     refine pure_ (i := 8) (N := some 17) (v := ?_) (a' := ?_) #[true, true, true, true, true, true, true, true, true] rfl rfl (any_of HT_.out (by kernel_rfl)) (fun _ _ _ h => h) (Or.inl ⟨by rfl, ?_⟩) ?_ ?_
     rotate_left
     ·intro w'
      go_simp
      with_reducible rfl
     rotate_left
     ·simp only [Act.put, List.setIfInBounds_toArray, List.set_cons_zero, List.set_cons_succ, i64_w, i32_w]
      rfl
     refine done_ (done_of HT_.out (by kernel_rfl)) ?_
     try go_wp2
     go_ret
     exact ⟨by first | rfl | (simp [errW_none, errW_some] <;> rfl) | (simp only [← hji6, ← hji8]; first | rfl | (simp [errW_none, errW_some] <;> rfl)) | (simp [*, errW_none, errW_some] <;> rfl), qB⟩
   ·rw [if_neg c7] at H
    exact absurd H (by simp)
  ·rw [if_neg c5] at H
   exact absurd H (by simp)
 ·rw [if_neg c3] at H
  obtain ⟨c3b0, c3b1⟩ := qn c3
  obtain rfl := Option.some.inj H
  go_enter Tryd.func20, Tryd.ntmps20
  go_wp2_with (first | ((with_reducible refine gate_dst (N := 1) rfl ?_); refine box_event (by rfl) (N := 1) (by rfl) (cs := #[.string a0_0, .int .i64 a0_1, .int .i64 a0_2, .slice A0_3 l0_3.length c0_3]) (t := 34) ?hr ?_; (case hr => first | (go_simp; done) | (go_simp; rfl)); intro gb261 hg w22 hbox hb; have BK261 := Aside0.mk (hbox); have GW261 := qG hg; have GE261 := GW261; replace HB := qH hb; clear hb hbox hg; obtain ⟨hcz23_0, hcz23_1, hcz23_2, hcz23_3, hfz23_0, hfz23_1, hfz23_2, hfz23_3⟩ := bk4 BK261.out) | ((with_reducible refine gate_callee (f := 49) rfl ?_); refine goesL_ (some 5) rfl rfl Tryd.func49 (by kernel_rfl) rfl #[.agg #[.string a0_0, .int .i64 a0_1, .int .i64 a0_2, .slice A0_3 l0_3.length c0_3]] rfl qL ?_; (with_reducible refine (ir_Check.calls k a0_0 a0_1 a0_2 _ _ l0_3 t262 _ ?side1 ?side2 A2.out (hL := ?side99)).mono ?_); (case side1 => exact qCB HR0_3.out); (case side2 => exact HC0_3.out); (case side99 => exact LaidW.below HLd.out qB); rintro e w24 ⟨rfl, hb⟩; refine ⟨_, rfl, ?_⟩; replace BK261 := qW BK261 hb; replace HB := qH hb; (try clear hb)))
  go_ret
  exact ⟨qE, qB⟩

end Go.Proofs.YtebnnknijbgekaaDoor.Q
namespace Go.Proofs.YtebnnknijbgekaaDoor.Q
open Go.RowKit Go.Proofs.YtebnnknijbgekaaDoorW.PrintWords Go.Proofs.YtebnnknijbgekaaDoorW.PrintLast Go.Proofs.YtebnnknijbgekaaDoorW.PrintMore
attribute [local go_sem] max2_int min2_int max_two min_two max_three min_three max_four min_four   -- for this text's walks alone
set_option linter.unusedVariables false
set_option linter.unusedSimpArgs false

/-! ### span_Places: function 32 -/
mutual
def span_Places.l0 : Nat → List (List Int) → Int → List Int → Int → Int → ByteArray → Int → Int → List (List (SIns)) → Option ((List (List Int)))
 | 0, _, _, _, _, _, _, _, _, _ => none
 | k + 1, x3, x4, x16, x17, x18, x495000, x495001, x495002, x495003 => if x18 < x17 then (if 0 ≤ x18 then (if x18 < (x16.length : Int) then (if 0 ≤ (rd x16 x18) then (if (rd x16 x18) < (x495003.length : Int) then (span_Places.l1 k x3 x4 (rd x16 x18) x16 x17 x18 ((rd_LIns x495003 (rd x16 x18)).length : Int) 0 x495000 x495001 x495002 x495003) else (none)) else (none)) else (none)) else (none)) else (some x3)
def span_Places.l1 : Nat → List (List Int) → Int → Int → List Int → Int → Int → Int → Int → ByteArray → Int → Int → List (List (SIns)) → Option ((List (List Int)))
 | 0, _, _, _, _, _, _, _, _, _, _, _, _ => none
 | k + 1, x3, x4, x6, x16, x17, x18, x27, x28, x495000, x495001, x495002, x495003 => if x28 < x27 then (if 0 ≤ x6 then (if x6 < (x3.length : Int) then (if (rd_LInt x3 x6).length < 17592186044416 then (span_Places.l1 k (x3.set (x6 : Int).toNat ((rd_LInt x3 x6) ++ [wrap64 (x4 + 1)])) (wrap64 (x4 + 1)) x6 x16 x17 x18 x27 (wrap64 (x28 + 1)) x495000 x495001 x495002 x495003) else (none)) else (none)) else (none)) else (span_Places.l0 k x3 x4 x16 x17 (wrap64 (x18 + 1)) x495000 x495001 x495002 x495003)
end
def span_Places.f (k : Nat) (a0_0 : ByteArray) (a0_1 : Int) (a0_2 : Int) (l0_3 : List (List (SIns))) : Option ((List (List Int))) := (live_Check.f k a0_0 a0_1 a0_2 l0_3).bind fun t495 => (if t495 = 0 then (if 0 ≤ (l0_3.length : Int) then (if ((l0_3.length : Int) : Int).toNat ≤ 11728124029610 then ((flow_Order.f k l0_3).bind fun t499 => (span_Places.l0 k (List.replicate ((l0_3.length : Int) : Int).toNat []) 0 t499 (t499.length : Int) 0 a0_0 a0_1 a0_2 l0_3)) else (none)) else (none)) else (some ([] : List (List Int))))
theorem span_Places.mono_l : ∀ k, (∀ y0 y1 y2 y3 y4 y5 y6 y7 y8, LeO (span_Places.l0 k y0 y1 y2 y3 y4 y5 y6 y7 y8) (span_Places.l0 (k + 1) y0 y1 y2 y3 y4 y5 y6 y7 y8)) ∧ (∀ y0 y1 y2 y3 y4 y5 y6 y7 y8 y9 y10 y11, LeO (span_Places.l1 k y0 y1 y2 y3 y4 y5 y6 y7 y8 y9 y10 y11) (span_Places.l1 (k + 1) y0 y1 y2 y3 y4 y5 y6 y7 y8 y9 y10 y11))
 | 0 => ⟨fun _ _ _ _ _ _ _ _ _ r h => by simp [span_Places.l0] at h, fun _ _ _ _ _ _ _ _ _ _ _ _ r h => by simp [span_Places.l1] at h⟩
 | k + 1 => by
  obtain ⟨ih0, ih1⟩ := span_Places.mono_l k
  refine ⟨?_, ?_⟩ <;> intros <;> (first | unfold span_Places.l0 | unfold span_Places.l1) <;> repeat' first | (with_reducible exact ih0 _ _ _ _ _ _ _ _ _) | (with_reducible exact ih1 _ _ _ _ _ _ _ _ _ _ _ _) | (with_reducible exact flow_Order.mono _ _) | (with_reducible exact live_Check.mono _ _ _ _ _) | (with_reducible exact LeO.refl _) | (with_reducible exact LeO.none _) | (with_reducible refine LeO.ite ?_ ?_) | (with_reducible refine LeO.bind ?_ (fun _ => ?_)) | exact LeO.none _ | refine LeO.ite ?_ ?_ | refine LeO.bind ?_ (fun _ => ?_)
theorem span_Places.mono : ∀ a0 a1 a2 a3 k, LeO (span_Places.f k a0 a1 a2 a3) (span_Places.f (k + 1) a0 a1 a2 a3) := by
 intro a0 a1 a2 a3 k
 obtain ⟨ih0, ih1⟩ := span_Places.mono_l k
 unfold span_Places.f
 repeat' first | (with_reducible exact ih0 _ _ _ _ _ _ _ _ _) | (with_reducible exact ih1 _ _ _ _ _ _ _ _ _ _ _ _) | (with_reducible exact flow_Order.mono _ _) | (with_reducible exact live_Check.mono _ _ _ _ _) | (with_reducible exact LeO.refl _) | (with_reducible exact LeO.none _) | (with_reducible refine LeO.ite ?_ ?_) | (with_reducible refine LeO.bind ?_ (fun _ => ?_)) | exact LeO.none _ | refine LeO.ite ?_ ?_ | refine LeO.bind ?_ (fun _ => ?_)
set_option maxHeartbeats 8000000 in
set_option maxRecDepth 100000 in
theorem span_Places.calls (k : Nat) (a0_0 : ByteArray) (a0_1 : Int) (a0_2 : Int) (A0_3 : Option Addr) (c0_3 : Nat) (l0_3 : List (List (SIns))) (r : List (List Int)) (w : World) (hL : LaidW w) (hr0_3 : Kd.C (Kd.slice 31 kIns) w A0_3 l0_3.length l0_3) (hc0_3 : l0_3.length ≤ c0_3) (h : span_Places.f k a0_0 a0_1 a0_2 l0_3 = some r) :
  Calls Tryd.prog 32 #[.agg #[.string a0_0, .int .i64 a0_1, .int .i64 a0_2, .slice A0_3 l0_3.length c0_3]] w fun e w' => ∃ v0_ : Value, e = .returned (v0_) ∧ Kd.S (Kd.slice 3 (Kd.int .i64)) 29 w' w.heap.size (fun _ => True) v0_ r ∧ Below w.heap.size w w' := by
 have hu34 := Tryd.underlying34
 have HR0_3 := Aside0.mk hr0_3
 have HC0_3 := Aside0.mk hc0_3
 clear hr0_3 hc0_3
 have HB := Aside0.mk (Below.refl w.heap.size w)
 have HLd := Aside0.mk hL
 clear hL
 have H := h; clear h; unfold span_Places.f at H
 replace H := qb H; obtain ⟨t495, A2, H⟩ := H
 by_cases c3 : t495 = 0
 ·rw [if_pos c3] at H
  obtain ⟨c3b0, c3b1⟩ := qe c3; clear c3
  by_cases c4 : 0 ≤ (l0_3.length : Int)
  ·rw [if_pos c4] at H
   have c4b0 := eq_true c4
   have c4b1 := decide_eq_true c4
   clear c4
   by_cases c5 : ((l0_3.length : Int) : Int).toNat ≤ 11728124029610
   ·rw [if_pos c5] at H
    have c5b0 := eq_true c5
    have c5b1 := decide_eq_true c5
    clear c5
    obtain ⟨y496, hy496⟩ : ∃ y_ : List (List Int), y_ = (List.replicate ((l0_3.length : Int) : Int).toNat []) := ⟨_, rfl⟩
    replace H : ((flow_Order.f k l0_3).bind fun t499 => (span_Places.l0 k y496 0 t499 (t499.length : Int) 0 a0_0 a0_1 a0_2 l0_3)) = some r := by first | (rw [hy496]; with_reducible exact H) | (have H2_ := (Option.bind_some _ _).symm.trans H; rw [hy496]; with_reducible exact H2_) | (have H2_ := (Option.bind_some _ _).symm.trans H; with_reducible exact H2_) | with_reducible exact H | (rw [hy496]; exact H) | exact H
    have Ny496 := Aside0.mk hy496
    clear hy496
    replace H := qb H; obtain ⟨t499, A6, H⟩ := H
    have H' := Aside0.mk H
    clear H
    go_enter Tryd.func32, Tryd.ntmps32
    go_wp2_with (first | ((with_reducible refine gate_dst (N := 1) rfl ?_); refine box_event (by rfl) (N := 1) (by rfl) (cs := #[.string a0_0, .int .i64 a0_1, .int .i64 a0_2, .slice A0_3 l0_3.length c0_3]) (t := 34) ?hr ?_; (case hr => first | (go_simp; done) | (go_simp; rfl)); intro gb494 hg w7 hbox hb; have BK494 := Aside0.mk (hbox); have GW494 := qG hg; have GE494 := GW494; replace HB := qH hb; clear hb hbox hg; obtain ⟨hcz8_0, hcz8_1, hcz8_2, hcz8_3, hfz8_0, hfz8_1, hfz8_2, hfz8_3⟩ := bk4 BK494.out) | ((with_reducible refine gate_callee (f := 20) rfl ?_); refine goesL_ (some 8) rfl rfl Tryd.func20 (by kernel_rfl) rfl #[.agg #[.string a0_0, .int .i64 a0_1, .int .i64 a0_2, .slice A0_3 l0_3.length c0_3]] rfl qL ?_; (with_reducible refine (live_Check.calls k a0_0 a0_1 a0_2 _ _ l0_3 t495 _ ?side1 ?side2 A2.out (hL := ?side99)).mono ?_); (case side1 => exact qCB HR0_3.out); (case side2 => exact HC0_3.out); (case side99 => exact LaidW.below HLd.out qB); rintro e w9 ⟨rfl, hb⟩; refine ⟨_, rfl, ?_⟩; replace BK494 := qW BK494 hb; replace HB := qH hb; (try clear hb); obtain ⟨hcz10_0, hcz10_1, hcz10_2, hcz10_3, hfz10_0, hfz10_1, hfz10_2, hfz10_3⟩ := bk4 BK494.out) | ((with_reducible refine gate_dst (N := 13) rfl ?_); refine Kd.S_make (Kd.slice 3 (Kd.int .i64)) _ 29 rfl (N := 13) rfl 44 _ _ rfl (l0_3.length : Int) rfl rfl Tryd.underlying44 (.slice none 0 0) 24 info29 rfl (by decide) (by omega) [] (ok := fun _ => True) (okp := fun _ => True) ⟨_, rfl, Kd.R_nil _ _ _ _ _⟩ (fun _ hk => hk) trivial (of_decide_eq_true qA) (Nat.le_trans (Nat.mul_le_mul_right _ (of_decide_eq_true qA : (l0_3.length : Int).toNat ≤ 11728124029610)) (by omega)) (Below.refl _ _) (Nat.le_refl _) ?_; intro v497 w11 ho12 hb hg_ hnew_; clear hg_ hnew_; (first | rw [← Ny496.out] at ho12 | (simp only [Int.reduceToNat] at ho12; rw [← Ny496.out] at ho12)); have HO498 := Aside0.mk (Kd.S_lower ho12 (below_size qB)); replace BK494 := qW BK494 hb; replace HB := qH hb; clear hb ho12; obtain ⟨hcz13_0, hcz13_1, hcz13_2, hcz13_3, hfz13_0, hfz13_1, hfz13_2, hfz13_3⟩ := bk4 BK494.out) | ((with_reducible refine gate_callee (f := 54) rfl ?_); refine goesL_ (some 16) rfl rfl Tryd.func54 (by kernel_rfl) rfl #[.slice A0_3 l0_3.length c0_3] rfl qL ?_; (with_reducible refine (flow_Order.calls k _ _ l0_3 t499 _ ?side1 ?side2 A6.out).mono ?_); (case side1 => exact qCB HR0_3.out); (case side2 => exact HC0_3.out); rintro e w14 ⟨v500, rfl, ho0, hb⟩; refine ⟨_, rfl, ?_⟩; replace HO498 := Aside0.mk (Kd.S_elder' (qS HO498.out) (Kd.R_base ho0) hb); have HO501 := Aside0.mk (Kd.R_lower ho0 (below_size qB)); replace BK494 := qW BK494 hb; replace HB := qH hb; (try clear hb); (try clear ho0); obtain ⟨Ao15, co15, eo15⟩ := Kd.R_slice HO501.out; subst eo15))
    go_loopg [4, 18] k (fun kq v4 v18 w' => ∃ (x3_1 : List (List Int)) (x4_1 : Int) (x18_1 : Int), v4 = .int .i64 x4_1 ∧ v18 = .int .i64 x18_1 ∧ Aside0 (span_Places.l0 kq x3_1 x4_1 t499 (t499.length : Int) x18_1 a0_0 a0_1 a0_2 l0_3 = some r) ∧ Aside0 (kq ≤ k) ∧ Aside0 (Kd.S (Kd.slice 3 (Kd.int .i64)) 29 w' w.heap.size (fun k_ => some k_ ≠ ((.slice Ao15 t499.length co15) : Value).ownBlock) v497 x3_1) ∧ Aside0 (Kd.R (Kd.int .i64) 3 w' w.heap.size (fun _ => True) (.slice Ao15 t499.length co15) t499) ∧ Aside0 (w'.heap[gb494]? = some (.cells #[.string a0_0, .int .i64 a0_1, .int .i64 a0_2, (.slice A0_3 l0_3.length c0_3)] 34 (0, 0))) ∧ Aside0 (Below w.heap.size w w'))
    case atStart => exact ⟨(y496), (0), (0), qT, qT, H', ⟨Nat.le_refl _⟩, ⟨by (with_reducible repeat (first | apply Kd.S_alloc | apply Kd.S_drewN | apply Kd.S_drew)); exact Kd.S_mono HO498.out (fun _ hk => hk.2)⟩, ⟨qR HO501.out⟩, ⟨qK BK494.out⟩, ⟨qB⟩⟩
    case round =>
     clear H'
     try clear c2; try clear p2; try clear c3; try clear c3b0 c3b1; try clear c4; try clear c4b0 c4b1; try clear c5; try clear c5b0 c5b1; try clear hcz10_0 hcz10_1 hcz10_2 hcz10_3 hfz10_0 hfz10_1 hfz10_2 hfz10_3; try clear hcz13_0 hcz13_1 hcz13_2 hcz13_3 hfz13_0 hfz13_1 hfz13_2 hfz13_3; try clear hcz8_0 hcz8_1 hcz8_2 hcz8_3 hfz8_0 hfz8_1 hfz8_2 hfz8_3
     obtain ⟨x3_1, x4_1, x18_1, rfl, rfl, HA, HK1, HO_3, HO_16, BK494, HB⟩ := hrel
     cases gk with
     | zero => exact absurd HA.out (by simp [span_Places.l0])
     | succ k1 =>
      have H := HA.out
      clear HA
      simp only [span_Places.l0] at H
      by_cases c16 : x18_1 < (t499.length : Int)
      ·rw [if_pos c16] at H
       have c16b0 := decide_eq_true c16
       clear c16
       by_cases c17 : 0 ≤ x18_1
       ·rw [if_pos c17] at H
        have c17b0 := decide_eq_true c17
        clear c17
        by_cases c18 : x18_1 < (t499.length : Int)
        ·rw [if_pos c18] at H
         have c18b0 := decide_eq_true c18
         clear c18
         by_cases c19 : 0 ≤ (rd t499 x18_1)
         ·rw [if_pos c19] at H
          have c19b0 := decide_eq_true c19
          clear c19
          by_cases c20 : (rd t499 x18_1) < (l0_3.length : Int)
          ·rw [if_pos c20] at H
           have c20b0 := decide_eq_true c20
           clear c20
           have H' := Aside0.mk H
           clear H
           have p502 : 0 ≤ (x18_1 : Int) := of_decide_eq_true qA
           have q502 : x18_1 < (t499.length : Int) := of_decide_eq_true qA
           obtain ⟨ad502, e502, hx502_0⟩ := Kd.at_int (Kd.R_reads' HO_16.out).2.2 x18_1 p502 q502
           cases e502
           replace p502 := eq_true p502
           replace q502 := eq_true q502
           obtain ⟨hcz21_0, hcz21_1, hcz21_2, hcz21_3, hfz21_0, hfz21_1, hfz21_2, hfz21_3⟩ := bk4 BK494.out
           have p503 : 0 ≤ ((rd t499 x18_1) : Int) := of_decide_eq_true qA
           have q503 : (rd t499 x18_1) < (l0_3.length : Int) := of_decide_eq_true qA
           obtain ⟨ad503, A503_0, c503_0, e503, hx503_0, hl503_0, hi503_0⟩ := at_LIns HR0_3.out (rd t499 x18_1) p503 q503
           cases e503
           replace hx503_0 := (HB.out.cell (World.block_lt_of_cell? w _ hx503_0)).trans hx503_0
           have HR503_0 := Aside0.mk hi503_0
           have HC503_0 := Aside0.mk hl503_0
           clear hi503_0 hl503_0
           replace p503 := eq_true p503
           replace q503 := eq_true q503
           go_wp2
           go_loopg [4, 28] k1 (fun kq v4 v28 w' => ∃ (x3_2 : List (List Int)) (x4_2 : Int) (x28_2 : Int), v4 = .int .i64 x4_2 ∧ v28 = .int .i64 x28_2 ∧ Aside0 (span_Places.l1 kq x3_2 x4_2 (rd t499 x18_1) t499 (t499.length : Int) x18_1 ((rd_LIns l0_3 (rd t499 x18_1)).length : Int) x28_2 a0_0 a0_1 a0_2 l0_3 = some r) ∧ Aside0 (kq ≤ k1) ∧ Aside0 (Kd.S (Kd.slice 3 (Kd.int .i64)) 29 w' w.heap.size (fun k_ => some k_ ≠ ((.slice (some ad502) t499.length co15) : Value).ownBlock) v497 x3_2) ∧ Aside0 (Kd.R (Kd.int .i64) 3 w' w.heap.size (fun _ => True) (.slice (some ad502) t499.length co15) t499) ∧ Aside0 (w'.heap[gb494]? = some (.cells #[.string a0_0, .int .i64 a0_1, .int .i64 a0_2, (.slice (some ad503) l0_3.length c0_3)] 34 (0, 0))) ∧ Aside0 (Below w.heap.size w w'))
           case atStart => exact ⟨(x3_1), (x4_1), (0), qT, qT, H', ⟨Nat.le_refl _⟩, ⟨qS HO_3.out⟩, ⟨qR HO_16.out⟩, ⟨qK BK494.out⟩, ⟨qB⟩⟩
           case round =>
            clear H'
            try clear c1; try clear c2; try clear p2; try clear c3; try clear c3b0 c3b1; try clear c4; try clear c4b0 c4b1; try clear c5; try clear c5b0 c5b1; try clear p5; try clear q5; try clear hx5; try clear c16; try clear c16b0; try clear c17; try clear c17b0; try clear c18; try clear c18b0; try clear c19; try clear c19b0; try clear c20; try clear c20b0; try clear hcz10_0 hcz10_1 hcz10_2 hcz10_3 hfz10_0 hfz10_1 hfz10_2 hfz10_3; try clear hcz13_0 hcz13_1 hcz13_2 hcz13_3 hfz13_0 hfz13_1 hfz13_2 hfz13_3; try clear hcz21_0 hcz21_1 hcz21_2 hcz21_3 hfz21_0 hfz21_1 hfz21_2 hfz21_3; try clear hcz8_0 hcz8_1 hcz8_2 hcz8_3 hfz8_0 hfz8_1 hfz8_2 hfz8_3; try clear hx502_0; try clear hx503_0; try clear p502; try clear p503; try clear q502; try clear q503
            obtain ⟨x3_2, x4_2, x28_2, rfl, rfl, HA, HK2, HO_3, HO_16, BK494, HB⟩ := hrel
            cases gk with
            | zero => exact absurd HA.out (by simp [span_Places.l1])
            | succ k2 =>
             have H := HA.out
             clear HA
             simp only [span_Places.l1] at H
             by_cases c22 : x28_2 < ((rd_LIns l0_3 (rd t499 x18_1)).length : Int)
             ·rw [if_pos c22] at H
              have c22b0 := decide_eq_true c22
              clear c22
              by_cases c23 : 0 ≤ (rd t499 x18_1)
              ·rw [if_pos c23] at H
               have c23b0 := decide_eq_true c23
               clear c23
               by_cases c24 : (rd t499 x18_1) < (x3_2.length : Int)
               ·rw [if_pos c24] at H
                have c24b0 := decide_eq_true c24
                clear c24
                by_cases c25 : (rd_LInt x3_2 (rd t499 x18_1)).length < 17592186044416
                ·rw [if_pos c25] at H
                 have LMc25 := Aside0.mk c25
                 clear c25
                 obtain ⟨y505, hy505⟩ : ∃ y_ : List Int, y_ = ((rd_LInt x3_2 (rd t499 x18_1)) ++ [wrap64 (x4_2 + 1)]) := ⟨_, rfl⟩
                 replace H : (span_Places.l1 k2 (x3_2.set ((rd t499 x18_1) : Int).toNat y505) (wrap64 (x4_2 + 1)) (rd t499 x18_1) t499 (t499.length : Int) x18_1 ((rd_LIns l0_3 (rd t499 x18_1)).length : Int) (wrap64 (x28_2 + 1)) a0_0 a0_1 a0_2 l0_3) = some r := by first | (rw [hy505]; with_reducible exact H) | (have H2_ := (Option.bind_some _ _).symm.trans H; rw [hy505]; with_reducible exact H2_) | (have H2_ := (Option.bind_some _ _).symm.trans H; with_reducible exact H2_) | with_reducible exact H | (rw [hy505]; exact H) | exact H
                 have Ny505 := Aside0.mk hy505
                 clear hy505
                 obtain ⟨y508, hy508⟩ : ∃ y_ : List (List Int), y_ = (x3_2.set ((rd t499 x18_1) : Int).toNat y505) := ⟨_, rfl⟩
                 replace H : (span_Places.l1 k2 y508 (wrap64 (x4_2 + 1)) (rd t499 x18_1) t499 (t499.length : Int) x18_1 ((rd_LIns l0_3 (rd t499 x18_1)).length : Int) (wrap64 (x28_2 + 1)) a0_0 a0_1 a0_2 l0_3) = some r := by first | (rw [hy508]; with_reducible exact H) | (have H2_ := (Option.bind_some _ _).symm.trans H; rw [hy508]; with_reducible exact H2_) | (have H2_ := (Option.bind_some _ _).symm.trans H; with_reducible exact H2_) | with_reducible exact H | (rw [hy508]; exact H) | exact H
                 have Ny508 := Aside0.mk hy508
                 clear hy508
                 have H' := Aside0.mk H
                 clear H
                 obtain ⟨Ao27, co27, eo27⟩ := Kd.S_slice HO_3.out
                 subst eo27
                 have p504 : 0 ≤ ((rd t499 x18_1) : Int) := of_decide_eq_true qA
                 have q504 : (rd t499 x18_1) < (x3_2.length : Int) := of_decide_eq_true qA
                 obtain ⟨ad504, A504_0, c504_0, e504, hx504_0, hl504_0, hi504_0⟩ := at_LInt (Kd.S_reads' HO_3.out).2.2 (rd t499 x18_1) p504 q504
                 cases e504
                 obtain ⟨ce504, hce504, hMe504, hcc504⟩ := Kd.S_get HO_3.out [] (rd t499 x18_1) p504 (by first | exact q504 | exact of_decide_eq_true qA | (have e_ := (Kd.S_reads' HO_3.out).1; omega))
                 obtain ⟨ve504_0, rfl, ge504_0⟩ := hMe504
                 have hv504_0 := hcc504 0 _ rfl
                 rw [Nat.add_zero, show ((Kd.slice 3 (Kd.int .i64))).sz = 1 from rfl, Nat.mul_one] at hv504_0
                 replace hv504_0 := Option.some.inj (hv504_0.symm.trans hx504_0)
                 rw [hv504_0] at ge504_0
                 have HL504_0 := Aside0.mk (show Kd.R (Kd.int .i64) 3 _ _ _ _ (rd_LInt x3_2 (rd t499 x18_1)) from ge504_0)
                 clear hv504_0 ge504_0
                 have HX504_0 := Aside0.mk hx504_0
                 clear hcc504 hce504
                 have HR504_0 := Aside0.mk hi504_0
                 have HC504_0 := Aside0.mk hl504_0
                 clear hi504_0 hl504_0
                 replace p504 := eq_true p504
                 replace q504 := eq_true q504
                 obtain ⟨go28, co28, eo28, gb28, gl28, cl28, HG28⟩ := Kd.S_form HO_3.out (by have h_ : ((rd t499 x18_1) : Int) < ((x3_2.length : Int) : Int) := of_decide_eq_true qA; have h2_ : 0 ≤ ((rd t499 x18_1) : Int) := (of_decide_eq_true qA); omega)
                 (first | cases eo28 | (injection eo28 with ea_ en_ ec_; (first | subst ea_ | (injection ea_ with ea_; subst ea_)); subst ec_; clear en_))
                 have GB28 := Aside0.mk gb28
                 have GG28 := Aside0.mk HG28
                 clear gb28 gl28 HG28
                 (first | simp only [add_plain] at hx504_0 | skip)
                 obtain ⟨oki28, ce28, hcl28, hM28, hcc28, _, _, hH28⟩ := Kd.S_elem HO_3.out [] ((rd t499 x18_1) : Int) (of_decide_eq_true qA) (by have h_ : ((rd t499 x18_1) : Int) < ((x3_2.length : Int) : Int) := of_decide_eq_true qA; first | exact h_ | (have e_ := (Kd.S_reads' HO_3.out).1; omega) | simpa using h_)
                 obtain ⟨ve28_0, rfl, ge28_0⟩ := hM28
                 have hv28 := hcc28 0 _ rfl
                 have hX28 := HX504_0.out
                 (try simp only [add_plain] at hX28)
                 (try simp only [Nat.add_zero] at hv28)
                 (try rw [show ((Kd.slice 3 (Kd.int .i64))).sz = 1 from rfl, Nat.mul_one] at hv28)
                 replace hv28 := Option.some.inj (hv28.symm.trans hX28)
                 subst hv28
                 clear hX28 hcc28 hcl28
                 have UU28 := Aside0.mk (show Kd.R (Kd.int .i64) 3 _ w.heap.size oki28 (.slice A504_0 (rd_LInt x3_2 (rd t499 x18_1)).length c504_0) (rd_LInt x3_2 (rd t499 x18_1)) from ge28_0)
                 have HH28 := Aside0.mk hH28
                 have HN28 := Aside0.mk (Kd.S_reads' HO_3.out).1
                 clear hH28 ge28_0
                 go_wp2_with (first | ((with_reducible refine gate_builtin (b := .append) (xs := #[.tmp 37, .tmp 39]) rfl ?_); at_builtin; refine Kd.R_append (Kd.int .i64) (w0 := w) w.heap.size rfl (.tmp 37) (.tmp 39) 29 3 (.int .i64 0) 8 rfl Tryd.underlying29 info3 rfl (by decide) (by omega) (.slice A504_0 (rd_LInt x3_2 (rd t499 x18_1)).length c504_0) (rd_LInt x3_2 (rd t499 x18_1)) (wrap64 (x4_2 + 1)) [.int .i64 (wrap64 (x4_2 + 1))] (fun k_ => oki28 k_ ∨ ((fun k_ => some k_ ≠ (.slice (some ad502) t499.length co15 : Value).ownBlock)) k_ ∧ wr.heap.size ≤ k_) (fun _ => False) rfl rfl ?aP (fun _ hk => hk.elim) ?aF ?aO ?aB ?aS ?aL ?_; (case aP => exact rfl); (case aB => exact qB); (case aF => exact (fun k_ hk => .inr ⟨Kd.fresh' (Kd.R_lt (qR HO_16.out)) k_ hk, hk⟩)); (case aO => exact (by (with_reducible repeat (first | apply Kd.R_alloc | apply Kd.R_drewN | apply Kd.R_drew)); exact Kd.R_mono UU28.out (fun _ hk => .inl hk))); (case aS => exact (below_size qB)); (case aL => have := LMc25.out; omega); intro v506 w29 ho hb hg hat; rw [← Ny505.out] at ho; replace HO_16 := Aside0.mk (Kd.R_grown2 (qR HO_16.out) rfl hg (fun k_ e_ => (HL504_0.out.1 k_ e_).1)); replace BK494 := Aside0.mk (blk_grown (qK BK494.out) hg (Kd.R_ne HL504_0.out BK494.out (by decide))); replace HB := Aside0.mk (hb); replace HH28 := Aside0.mk (Kd.H_grown (Kd.H_widen (by repeat (first | exact HH28.out | refine Kd.H_alloc ?_ _ | refine Kd.H_drewN ?_ _ | refine Kd.H_drew ?_))) hg (fun k_ e_ => .inl (UU28.out.1 k_ e_))); have HO507 := Aside0.mk (ho); clear HO_3 UU28 HL504_0; clear ho hb hg hat; have p26 : 0 ≤ ((rd t499 x18_1) : Int) := of_decide_eq_true qA; have q26 : ((rd t499 x18_1) : Int) < ((x3_2.length : Int) : Int) := of_decide_eq_true qA; replace p26 := eq_true p26; replace q26 := eq_true q26; obtain ⟨Ao32, co32, eo32⟩ := Kd.R_slice HO507.out; subst eo32; obtain ⟨_, _, hraw30, _, _, hcc30, _⟩ := Kd.H_raw HH28.out (of_decide_eq_true qA) (by have h_ : ((rd t499 x18_1) : Int) < ((x3_2.length : Int) : Int) := of_decide_eq_true qA; first | exact h_ | (have e_ := (HN28.out); omega) | simpa using h_); obtain ⟨_, hfr30⟩ := Kd.H_at HH28.out (of_decide_eq_true qA) (by have h_ : ((rd t499 x18_1) : Int) < ((x3_2.length : Int) : Int) := of_decide_eq_true qA; first | exact h_ | (have e_ := (HN28.out); omega) | simpa using h_); have hx30_0 := hcc30 0 _ rfl; have hf30_0 := hfr30 0; (try simp only [Nat.add_zero] at hx30_0 hf30_0); (try rw [show ((Kd.slice 3 (Kd.int .i64))).sz = 1 from rfl, Nat.mul_one] at hx30_0); (try rw [show ((Kd.slice 3 (Kd.int .i64))).sz = 1 from rfl, Nat.mul_one] at hf30_0); have HP30 := Kd.S_seg0 HH28.out (of_decide_eq_true qA) (by have h_ : ((rd t499 x18_1) : Int) < ((x3_2.length : Int) : Int) := of_decide_eq_true qA; first | exact h_ | (have e_ := (HN28.out); omega) | simpa using h_) (seg := [.slice Ao32 y505.length co32]) (j := 0) (show 1 ≤ 1 from by decide) (x' := y505) (Kd.M_row HO507.out) (fun _ hk => hk); (try simp only [show ((Kd.slice 3 (Kd.int .i64))).sz = 1 from rfl, Nat.mul_one, Nat.add_zero] at HP30); clear hcc30 hfr30) | ((with_reducible refine gate_store (t := 29) (p := 41) rfl ?_); refine store_event (t := 29) (p := 41) (v := ?vo_w31) (w1 := (w29.setCell ⟨go28, ((rd t499 x18_1) : Int).toNat, none⟩ (.slice Ao32 y505.length co32))) (by rfl) (by rfl) (by rfl) ?hr ?_; (case hr => first | (go_simp; done) | (go_simp; rfl)); intro w31 hw; have hg : w29.grownBy w31 (some go28) := (by rw [hw]; exact HP30.2); have hp_ : Kd.S (Kd.slice 3 (Kd.int .i64)) 29 w31 w.heap.size (fun k_ => some k_ ≠ (.slice (some ad502) t499.length co15 : Value).ownBlock) (.slice (some ⟨go28, 0, none⟩) x3_2.length co27) y508 := (by rw [hw, Ny508.out]; exact HP30.1); clear HP30; replace HO_16 := Aside0.mk (Kd.R_over' (v := (.slice (some ⟨go28, 0, none⟩) x3_2.length co27)) (qR HO_16.out) (Kd.R_typed hraw30) (by decide) hg); replace BK494 := Aside0.mk (blk_grown (qK BK494.out) hg (Kd.R_ne hraw30 BK494.out (by decide))); replace HB := Aside0.mk ((by rw [hw]; exact below_set HB.out GB28.out : Below w.heap.size w w31)); have HO_3 := Aside0.mk (hp_); clear HO507 HH28; clear hg hw hp_ hraw30))
                 go_roundg k2
                 case measure => have := HK1.out; have := HK2.out; omega
                 case rel => exact ⟨(y508), (wrap64 (x4_2 + 1)), (wrap64 (x28_2 + 1)), qT, qT, H', ⟨by have := HK1.out; have := HK2.out; omega⟩, ⟨qS HO_3.out⟩, ⟨qR HO_16.out⟩, ⟨qK BK494.out⟩, ⟨qB⟩⟩
                ·rw [if_neg c25] at H
                 exact absurd H (by simp)
               ·rw [if_neg c24] at H
                exact absurd H (by simp)
              ·rw [if_neg c23] at H
               exact absurd H (by simp)
             ·rw [if_neg c22] at H
              have c22b0 := decide_eq_false c22
              clear c22
              have H' := Aside0.mk H
              clear H
              go_wp2
              go_roundg k2
              case measure => have := HK1.out; have := HK2.out; omega
              case rel => exact ⟨(x3_2), (x4_2), (wrap64 (x18_1 + 1)), qT, qT, H', ⟨by have := HK1.out; have := HK2.out; omega⟩, ⟨qS HO_3.out⟩, ⟨qR HO_16.out⟩, ⟨qK BK494.out⟩, ⟨qB⟩⟩
          ·rw [if_neg c20] at H
           exact absurd H (by simp)
         ·rw [if_neg c19] at H
          exact absurd H (by simp)
        ·rw [if_neg c18] at H
         exact absurd H (by simp)
       ·rw [if_neg c17] at H
        exact absurd H (by simp)
      ·rw [if_neg c16] at H
       have c16b0 := decide_eq_false c16
       clear c16
       obtain rfl := Option.some.inj H
       go_wp2
       go_ret
       exact ⟨_, qE, by (with_reducible repeat (first | apply Kd.S_alloc | apply Kd.S_drewN | apply Kd.S_drew)); exact Kd.S_mono HO_3.out (fun _ hk => trivial), qB⟩
   ·rw [if_neg c5] at H
    exact absurd H (by simp)
  ·rw [if_neg c4] at H
   exact absurd H (by simp)
 ·rw [if_neg c3] at H
  obtain ⟨c3b0, c3b1⟩ := qn c3
  obtain rfl := Option.some.inj H
  go_enter Tryd.func32, Tryd.ntmps32
  go_wp2_with (first | ((with_reducible refine gate_dst (N := 1) rfl ?_); refine box_event (by rfl) (N := 1) (by rfl) (cs := #[.string a0_0, .int .i64 a0_1, .int .i64 a0_2, .slice A0_3 l0_3.length c0_3]) (t := 34) ?hr ?_; (case hr => first | (go_simp; done) | (go_simp; rfl)); intro gb494 hg w33 hbox hb; have BK494 := Aside0.mk (hbox); have GW494 := qG hg; have GE494 := GW494; replace HB := qH hb; clear hb hbox hg; obtain ⟨hcz34_0, hcz34_1, hcz34_2, hcz34_3, hfz34_0, hfz34_1, hfz34_2, hfz34_3⟩ := bk4 BK494.out) | ((with_reducible refine gate_callee (f := 20) rfl ?_); refine goesL_ (some 8) rfl rfl Tryd.func20 (by kernel_rfl) rfl #[.agg #[.string a0_0, .int .i64 a0_1, .int .i64 a0_2, .slice A0_3 l0_3.length c0_3]] rfl qL ?_; (with_reducible refine (live_Check.calls k a0_0 a0_1 a0_2 _ _ l0_3 t495 _ ?side1 ?side2 A2.out (hL := ?side99)).mono ?_); (case side1 => exact qCB HR0_3.out); (case side2 => exact HC0_3.out); (case side99 => exact LaidW.below HLd.out qB); rintro e w35 ⟨rfl, hb⟩; refine ⟨_, rfl, ?_⟩; replace BK494 := qW BK494 hb; replace HB := qH hb; (try clear hb)))
  go_ret
  exact ⟨_, qE, by first | exact Kd.S_nil _ _ _ _ _ | exact Kd.N_nil _ _ _ _ _ | exact Kd.V_nil _ _ _ _ _ | exact Kd.Q_nil _ _ _ _ _ | exact Kd.R_nil _ _ _ _ _, qB⟩

end Go.Proofs.YtebnnknijbgekaaDoor.Q
