/- MachSpoilt: parts of the proofs, put together. -/
import Derived.Test.YthidcafbhjahdaaDoorMMachSpoilt1
import Derived.Test.YthidcafbhjahdaaDoorMMachSpoilt2
import Derived.Test.YthidcafbhjahdaaDoorMMachSpoilt3
namespace Go.Proofs.YthidcafbhjahdaaDoor.Q
open Go.RowKit Go.Proofs.YthidcafbhjahdaaDoorW.PrintWords Go.Proofs.YthidcafbhjahdaaDoorW.PrintLast Go.Proofs.YthidcafbhjahdaaDoorW.PrintMore
attribute [local go_sem] max2_int min2_int max_two min_two max_three min_three max_four min_four
set_option linter.unusedVariables false
set_option linter.unusedSimpArgs false

def cubbyref07_Targets.f (a0_0 : Int) (a0_1 : Int) (a0_2 : Int) (a0_3 : Int) (a0_4 : ByteArray) (l0_5 : List Int) : Option (List Int) := (some (([] : List Int) : List Int)).bind fun y164 => (if a0_0 = 12 then (if y164.length < 17592186044416 then (some (y164 ++ [a0_2])) else (none)) else (if a0_0 = 13 then ((some (([a0_3, a0_1] : List Int) : List Int)).bind fun y170 => (if y164.length + y170.length < 17592186044416 then (some (y164 ++ y170)) else (none))) else (some y164)))
set_option maxHeartbeats 8000000 in
set_option maxRecDepth 100000 in
theorem cubbyref07_Targets.calls (a0_0 : Int) (a0_1 : Int) (a0_2 : Int) (a0_3 : Int) (a0_4 : ByteArray) (A0_5 : Option Addr) (c0_5 : Nat) (l0_5 : List Int) (r : List Int) (w : World) (hr0_5 : Kd.C (Kd.int .i64) w A0_5 l0_5.length l0_5) (hc0_5 : l0_5.length ≤ c0_5) (h : cubbyref07_Targets.f a0_0 a0_1 a0_2 a0_3 a0_4 l0_5 = some r) :
 Calls Tryd.prog 31 #[.agg #[.int .i64 a0_0, .int .i64 a0_1, .int .i64 a0_2, .int .i64 a0_3, .string a0_4, .slice A0_5 l0_5.length c0_5]] w fun e w' => ∃ v0_ : Value, e = .returned (v0_) ∧ Kd.R (Kd.int .i64) 3 w' w.heap.size (fun _ => True) v0_ r ∧ Below w.heap.size w w' := by
 have hu31 := Tryd.underlying31
 have HR0_5 := zA hr0_5
 have HC0_5 := zA hc0_5
 clear hr0_5 hc0_5
 have HB := zA (Below.refl w.heap.size w)
 have H := h; clear h; unfold cubbyref07_Targets.f at H
 obtain ⟨y164, hy164⟩ : ∃ y_ : List Int, y_ = (([] : List Int)) := ⟨_, rfl⟩
 replace H : (if a0_0 = 12 then (if y164.length < 17592186044416 then (some (y164 ++ [a0_2])) else (none)) else (if a0_0 = 13 then ((some (([a0_3, a0_1] : List Int) : List Int)).bind fun y170 => (if y164.length + y170.length < 17592186044416 then (some (y164 ++ y170)) else (none))) else (some y164))) = some r := by (try rw [hy164]); first | with_reducible exact H | exact (zJ _ _).symm.trans H | exact H
 have Ny164 := zA hy164
 clear hy164
 by_cases c2 : a0_0 = 12
 ·rw [zC c2] at H
  obtain ⟨c2b0, c2b1⟩ := qe c2; clear c2
  by_cases c3 : y164.length < 17592186044416
  ·rw [zC c3] at H
   have LMc3 := zA c3
   clear c3
   obtain ⟨y167, hy167⟩ : ∃ y_ : List Int, y_ = (y164 ++ [a0_2]) := ⟨_, rfl⟩
   replace H : (some y167) = some r := by (try rw [hy167]); first | with_reducible exact H | exact (zJ _ _).symm.trans H | exact H
   have Ny167 := zA hy167
   clear hy167
   obtain rfl := zI H
   go_enter Tryd.func31, Tryd.ntmps31
   go_wp2_with (first | ((with_reducible refine gate_dst (N := 1) rfl ?_); refine box_event (by rfl) (N := 1) (by rfl) (cs := #[.int .i64 a0_0, .int .i64 a0_1, .int .i64 a0_2, .int .i64 a0_3, .string a0_4, .slice A0_5 l0_5.length c0_5]) (t := 31) ?hr ?_; (case hr => go_simp <;> rfl); intro gb163 hg w4 hbox hb; have BK163 := zA (hbox); have GW163 := qG hg; have GE163 := GW163; replace HB := qH hb; clear hb hbox hg) | ((with_reducible refine gate_dst (N := 4) rfl ?_); refine Kd.R_lit (Kd.int .i64) _ 3 (by rfl) (N := 4) (by rfl) (xs := ([] : List Int)) (inner := []) (ok := fun _ => True) (okp := fun _ => True) ?hr ?hp (fun _ hk => hk) trivial (Below.refl _ _) (Nat.le_refl _) (by simp) ?_; (case hr => go_simp <;> rfl); (case hp => exact (Reps.none _ _)); intro v165 w5 ho6 hb hg_ hnew_; clear hg_ hnew_; (first | rw [← Ny164.out] at ho6 | (simp only [Int.reduceToNat] at ho6; rw [← Ny164.out] at ho6)); have HO166 := zA (Kd.R_lower ho6 (below_size qB)); replace BK163 := qW BK163 hb; replace HB := qH hb; clear hb ho6; have z7_0 := bk6 BK163.out) | ((with_reducible refine gate_builtin (b := .append) (xs := #[.tmp 8, .tmp 11]) rfl ?_); at_builtin; refine Kd.R_append (Kd.int .i64) (w0 := w) w.heap.size rfl (.tmp 8) (.tmp 11) 29 3 (.int .i64 0) 8 rfl Tryd.underlying29 info3 rfl (by decide) (by omega) v165 y164 a0_2 [.int .i64 a0_2] (fun _ => True) (fun _ => False) rfl rfl ?aP (fun _ hk => hk.elim) ?aF ?aO ?aB ?aS ?aL ?_; (case aP => exact rfl); (case aB => exact qB); (case aF => exact (fun _ _ => trivial)); (case aO => exact (qR HO166.out)); (case aS => exact (below_size qB)); (case aL => have := LMc3.out; omega); intro v168 w8 ho hb hg hat; rw [← Ny167.out] at ho; replace BK163 := zA (blk_grown (qK BK163.out) hg (Kd.R_ne HO166.out BK163.out (by decide))); replace HB := zA (hb); have HO169 := zA (ho); clear HO166; clear ho hb hg hat))
   go_ret
   exact ⟨_, qE, qR HO169.out, qB⟩
  ·rw [zD c3] at H
   exact absurd H (by simp)
 ·rw [zD c2] at H
  obtain ⟨c2b0, c2b1⟩ := qn c2
  by_cases c9 : a0_0 = 13
  ·rw [zC c9] at H
   obtain ⟨c9b0, c9b1⟩ := qe c9; clear c9
   obtain ⟨y170, hy170⟩ : ∃ y_ : List Int, y_ = (([a0_3, a0_1] : List Int)) := ⟨_, rfl⟩
   replace H : (if y164.length + y170.length < 17592186044416 then (some (y164 ++ y170)) else (none)) = some r := by (try rw [hy170]); first | with_reducible exact H | exact (zJ _ _).symm.trans H | exact H
   have Ny170 := zA hy170
   clear hy170
   by_cases c10 : y164.length + y170.length < 17592186044416
   ·rw [zC c10] at H
    have LMc10 := zA c10
    clear c10
    obtain ⟨y173, hy173⟩ : ∃ y_ : List Int, y_ = (y164 ++ y170) := ⟨_, rfl⟩
    replace H : (some y173) = some r := by (try rw [hy173]); first | with_reducible exact H | exact (zJ _ _).symm.trans H | exact H
    have Ny173 := zA hy173
    clear hy173
    obtain rfl := zI H
    go_enter Tryd.func31, Tryd.ntmps31
    go_wp2_with (first | ((with_reducible refine gate_dst (N := 1) rfl ?_); refine box_event (by rfl) (N := 1) (by rfl) (cs := #[.int .i64 a0_0, .int .i64 a0_1, .int .i64 a0_2, .int .i64 a0_3, .string a0_4, .slice A0_5 l0_5.length c0_5]) (t := 31) ?hr ?_; (case hr => go_simp <;> rfl); intro gb163 hg w11 hbox hb; have BK163 := zA (hbox); have GW163 := qG hg; have GE163 := GW163; replace HB := qH hb; clear hb hbox hg) | ((with_reducible refine gate_dst (N := 4) rfl ?_); refine Kd.R_lit (Kd.int .i64) _ 3 (by rfl) (N := 4) (by rfl) (xs := ([] : List Int)) (inner := []) (ok := fun _ => True) (okp := fun _ => True) ?hr ?hp (fun _ hk => hk) trivial (Below.refl _ _) (Nat.le_refl _) (by simp) ?_; (case hr => go_simp <;> rfl); (case hp => exact (Reps.none _ _)); intro v165 w12 ho13 hb hg_ hnew_; clear hg_ hnew_; (first | rw [← Ny164.out] at ho13 | (simp only [Int.reduceToNat] at ho13; rw [← Ny164.out] at ho13)); have HO166 := zA (Kd.R_lower ho13 (below_size qB)); replace BK163 := qW BK163 hb; replace HB := qH hb; clear hb ho13; have z14_0 := bk6 BK163.out) | ((with_reducible refine gate_dst (N := 21) rfl ?_); refine Kd.R_lit (Kd.int .i64) _ 3 (by rfl) (N := 21) (by rfl) (xs := ([a0_3, a0_1] : List Int)) (inner := [.int .i64 a0_3, .int .i64 a0_1]) (ok := fun _ => True) (okp := fun _ => True) ?hr ?hp (fun _ hk => hk) trivial (Below.refl _ _) (Nat.le_refl _) (by simp) ?_; (case hr => go_simp <;> rfl); (case hp => exact (Reps.one (show Kd.M (Kd.int .i64) _ _ _ a0_3 [.int .i64 a0_3] from rfl) (Reps.one (show Kd.M (Kd.int .i64) _ _ _ a0_1 [.int .i64 a0_1] from rfl) (Reps.none _ _)))); intro v171 w15 ho16 hb hg_ hnew_; clear hg_ hnew_; (first | rw [← Ny170.out] at ho16 | (simp only [Int.reduceToNat] at ho16; rw [← Ny170.out] at ho16)); have HO172 := zA (Kd.R_lower (Kd.R_new' ho16 (Kd.R_lt (qR HO166.out))) (below_size qB)); replace HO166 := zA (Kd.R_elder' (qR HO166.out) (Kd.R_base ho16) hb); replace BK163 := qW BK163 hb; replace HB := qH hb; clear hb ho16; obtain ⟨Ao18, co18, eo18⟩ := Kd.R_slice HO172.out; subst eo18) | ((with_reducible refine gate_builtin (b := .append) (xs := #[.tmp 16, .tmp 21]) rfl ?_); at_builtin; refine Kd.R_append_rows (Kd.int .i64) (w0 := w) w.heap.size rfl (.tmp 16) (.tmp 21) 29 3 (.int .i64 0) 8 rfl Tryd.underlying29 info3 rfl (by decide) (by omega) v165 y164 y170 _ _ _ (fun k_ => some k_ ≠ (.slice Ao18 y170.length co18 : Value).ownBlock) (fun _ => False) rfl rfl ?aO ?aR (fun _ _ h => h) (fun _ h => h.elim) ?aF ?aB ?aS ?aL ?_; (case aR => repeat (first | exact (Kd.R_reads' HO172.out).2.2 | (with_reducible refine Kd.C_alloc ?_ _) | (with_reducible refine Kd.C_drewN ?_ _) | (with_reducible refine Kd.C_drew ?_))); (case aB => exact qB); (case aF => exact (fun k_ hk => Kd.fresh' (Kd.R_lt (qR HO172.out)) k_ hk)); (case aO => exact (by (with_reducible repeat (first | apply Kd.R_alloc | apply Kd.R_drewN | apply Kd.R_drew)); exact Kd.R_mono HO166.out (fun _ hk => hk.2))); (case aS => exact (below_size qB)); (case aL => have := LMc10.out; omega); intro v174 w17 ho hb hg hat; rw [← Ny173.out] at ho; replace BK163 := zA (blk_grown (qK BK163.out) hg (Kd.R_ne HO166.out BK163.out (by decide))); replace HO172 := zA (Kd.R_after (ok := (fun _ => True)) (qR HO172.out) hg hat); replace HB := zA (hb); have HO175 := zA (ho); clear HO166; clear ho hb hg hat))
    go_ret
    exact ⟨_, qE, by (with_reducible repeat (first | apply Kd.R_alloc | apply Kd.R_drewN | apply Kd.R_drew)); exact Kd.R_mono HO175.out (fun _ hk => trivial), qB⟩
   ·rw [zD c10] at H
    exact absurd H (by simp)
  ·rw [zD c9] at H
   obtain ⟨c9b0, c9b1⟩ := qn c9
   obtain rfl := zI H
   go_enter Tryd.func31, Tryd.ntmps31
   go_wp2_with (first | ((with_reducible refine gate_dst (N := 1) rfl ?_); refine box_event (by rfl) (N := 1) (by rfl) (cs := #[.int .i64 a0_0, .int .i64 a0_1, .int .i64 a0_2, .int .i64 a0_3, .string a0_4, .slice A0_5 l0_5.length c0_5]) (t := 31) ?hr ?_; (case hr => go_simp <;> rfl); intro gb163 hg w19 hbox hb; have BK163 := zA (hbox); have GW163 := qG hg; have GE163 := GW163; replace HB := qH hb; clear hb hbox hg) | ((with_reducible refine gate_dst (N := 4) rfl ?_); refine Kd.R_lit (Kd.int .i64) _ 3 (by rfl) (N := 4) (by rfl) (xs := ([] : List Int)) (inner := []) (ok := fun _ => True) (okp := fun _ => True) ?hr ?hp (fun _ hk => hk) trivial (Below.refl _ _) (Nat.le_refl _) (by simp) ?_; (case hr => go_simp <;> rfl); (case hp => exact (Reps.none _ _)); intro v165 w20 ho21 hb hg_ hnew_; clear hg_ hnew_; (first | rw [← Ny164.out] at ho21 | (simp only [Int.reduceToNat] at ho21; rw [← Ny164.out] at ho21)); have HO166 := zA (Kd.R_lower ho21 (below_size qB)); replace BK163 := qW BK163 hb; replace HB := qH hb; clear hb ho21; have z22_0 := bk6 BK163.out))
   go_ret
   exact ⟨_, qE, qR HO166.out, qB⟩

mutual
def cubbyref07_Uses.j0 : Nat → List Int → Int → Bool → Int → Int → Int → Int → ByteArray → List Int → Option (List Int)
 | 0, _, _, _, _, _, _, _, _, _ => none
 | k + 1, x3, x6, x7, x148000, x148001, x148002, x148003, x148004, x148005 => if x7 = true then (if x3.length < 17592186044416 then (some (x3 ++ [x148002])) else (none)) else (if x6 = 3 then (cubbyref07_Uses.j1 k x3 x6 (x6 == 3) x148000 x148001 x148002 x148003 x148004 x148005) else (if x6 = 4 then (cubbyref07_Uses.j1 k x3 x6 (x6 == 4) x148000 x148001 x148002 x148003 x148004 x148005) else (if x6 = 5 then (cubbyref07_Uses.j1 k x3 x6 (x6 == 5) x148000 x148001 x148002 x148003 x148004 x148005) else (if x6 = 6 then (cubbyref07_Uses.j1 k x3 x6 (x6 == 6) x148000 x148001 x148002 x148003 x148004 x148005) else (if x6 = 7 then (cubbyref07_Uses.j1 k x3 x6 (x6 == 7) x148000 x148001 x148002 x148003 x148004 x148005) else (cubbyref07_Uses.j1 k x3 x6 (x6 == 9) x148000 x148001 x148002 x148003 x148004 x148005))))))
def cubbyref07_Uses.j1 : Nat → List Int → Int → Bool → Int → Int → Int → Int → ByteArray → List Int → Option (List Int)
 | 0, _, _, _, _, _, _, _, _, _ => none
 | k + 1, x3, x6, x18, x148000, x148001, x148002, x148003, x148004, x148005 => if x18 = true then ((some (([x148002, x148003] : List Int) : List Int)).bind fun y154 => (if x3.length + y154.length < 17592186044416 then (some (x3 ++ y154)) else (none))) else (if x6 = 11 then (if x3.length + x148005.length < 17592186044416 then (some (x3 ++ x148005)) else (none)) else (some x3))
end
def cubbyref07_Uses.f (k : Nat) (a0_0 : Int) (a0_1 : Int) (a0_2 : Int) (a0_3 : Int) (a0_4 : ByteArray) (l0_5 : List Int) : Option (List Int) := (some (([] : List Int) : List Int)).bind fun y148 => (if a0_0 = 2 then (cubbyref07_Uses.j0 k y148 a0_0 (a0_0 == 2) a0_0 a0_1 a0_2 a0_3 a0_4 l0_5) else (if a0_0 = 8 then (cubbyref07_Uses.j0 k y148 a0_0 (a0_0 == 8) a0_0 a0_1 a0_2 a0_3 a0_4 l0_5) else (if a0_0 = 10 then (cubbyref07_Uses.j0 k y148 a0_0 (a0_0 == 10) a0_0 a0_1 a0_2 a0_3 a0_4 l0_5) else (if a0_0 = 14 then (cubbyref07_Uses.j0 k y148 a0_0 (a0_0 == 14) a0_0 a0_1 a0_2 a0_3 a0_4 l0_5) else (cubbyref07_Uses.j0 k y148 a0_0 (a0_0 == 13) a0_0 a0_1 a0_2 a0_3 a0_4 l0_5)))))
set_option maxHeartbeats 8000000 in
set_option maxRecDepth 100000 in
theorem cubbyref07_Uses.calls (k : Nat) (a0_0 : Int) (a0_1 : Int) (a0_2 : Int) (a0_3 : Int) (a0_4 : ByteArray) (A0_5 : Option Addr) (c0_5 : Nat) (l0_5 : List Int) (r : List Int) (w : World) (hr0_5 : Kd.C (Kd.int .i64) w A0_5 l0_5.length l0_5) (hc0_5 : l0_5.length ≤ c0_5) (h : cubbyref07_Uses.f k a0_0 a0_1 a0_2 a0_3 a0_4 l0_5 = some r) :
 Calls Tryd.prog 30 #[.agg #[.int .i64 a0_0, .int .i64 a0_1, .int .i64 a0_2, .int .i64 a0_3, .string a0_4, .slice A0_5 l0_5.length c0_5]] w fun e w' => ∃ v0_ : Value, e = .returned (v0_) ∧ Kd.R (Kd.int .i64) 3 w' w.heap.size (fun _ => True) v0_ r ∧ Below w.heap.size w w' := by
 have hu31 := Tryd.underlying31
 have HR0_5 := zA hr0_5
 have HC0_5 := zA hc0_5
 clear hr0_5 hc0_5
 have HB := zA (Below.refl w.heap.size w)
 have H := h; clear h; unfold cubbyref07_Uses.f at H
 obtain ⟨y148, hy148⟩ : ∃ y_ : List Int, y_ = (([] : List Int)) := ⟨_, rfl⟩
 replace H : (if a0_0 = 2 then (cubbyref07_Uses.j0 k y148 a0_0 (a0_0 == 2) a0_0 a0_1 a0_2 a0_3 a0_4 l0_5) else (if a0_0 = 8 then (cubbyref07_Uses.j0 k y148 a0_0 (a0_0 == 8) a0_0 a0_1 a0_2 a0_3 a0_4 l0_5) else (if a0_0 = 10 then (cubbyref07_Uses.j0 k y148 a0_0 (a0_0 == 10) a0_0 a0_1 a0_2 a0_3 a0_4 l0_5) else (if a0_0 = 14 then (cubbyref07_Uses.j0 k y148 a0_0 (a0_0 == 14) a0_0 a0_1 a0_2 a0_3 a0_4 l0_5) else (cubbyref07_Uses.j0 k y148 a0_0 (a0_0 == 13) a0_0 a0_1 a0_2 a0_3 a0_4 l0_5))))) = some r := by (try rw [hy148]); first | with_reducible exact H | exact (zJ _ _).symm.trans H | exact H
 have Ny148 := zA hy148
 clear hy148
 have HC2 := zA H
 clear H
 go_enter Tryd.func30, Tryd.ntmps30
 go_upto_if 7 with (first | ((with_reducible refine gate_dst (N := 1) rfl ?_); refine box_event (by rfl) (N := 1) (by rfl) (cs := #[.int .i64 a0_0, .int .i64 a0_1, .int .i64 a0_2, .int .i64 a0_3, .string a0_4, .slice A0_5 l0_5.length c0_5]) (t := 31) ?hr ?_; (case hr => go_simp <;> rfl); intro gb147 hg w3 hbox hb; have BK147 := zA (hbox); have GW147 := qG hg; have GE147 := GW147; replace HB := qH hb; clear hb hbox hg) | ((with_reducible refine gate_dst (N := 4) rfl ?_); refine Kd.R_lit (Kd.int .i64) _ 3 (by rfl) (N := 4) (by rfl) (xs := ([] : List Int)) (inner := []) (ok := fun _ => True) (okp := fun _ => True) ?hr ?hp (fun _ hk => hk) trivial (Below.refl _ _) (Nat.le_refl _) (by simp) ?_; (case hr => go_simp <;> rfl); (case hp => exact (Reps.none _ _)); intro v149 w4 ho5 hb hg_ hnew_; clear hg_ hnew_; (first | rw [← Ny148.out] at ho5 | (simp only [Int.reduceToNat] at ho5; rw [← Ny148.out] at ho5)); have HO150 := zA (Kd.R_lower ho5 (below_size qB)); replace BK147 := qW BK147 hb; replace HB := qH hb; clear hb ho5; have z6_0 := bk6 BK147.out))
 (try simp only [Act.put, List.setIfInBounds_toArray, List.set_cons_zero, List.set_cons_succ])
 go_cut [7] (fun v7 wc => ∃ (kq : Nat) (x7_1 : Bool), v7 = .bool x7_1 ∧ Aside0 (cubbyref07_Uses.j0 kq y148 a0_0 x7_1 a0_0 a0_1 a0_2 a0_3 a0_4 l0_5 = some r) ∧ Aside0 (kq ≤ k) ∧ Aside0 (Kd.R (Kd.int .i64) 3 wc w.heap.size (fun _ => True) v149 y148) ∧ Aside0 (wc.heap[gb147]? = some (.cells #[.int .i64 a0_0, .int .i64 a0_1, .int .i64 a0_2, .int .i64 a0_3, .string a0_4, (.slice A0_5 l0_5.length c0_5)] 31 (0, 0))) ∧ Aside0 (Below w.heap.size w wc))
 case first =>
  have H := HC2.out
  clear HC2
  by_cases c7 : a0_0 = 2
  ·rw [zC c7] at H
   obtain ⟨c7b0, c7b1⟩ := qe c7; clear c7
   (first | rw [c7b0] | (simp only [i64_w, i32_w]; rw [c7b0]) | skip)
   have H' := zA H
   clear H
   go_wp2
   go_meet
   case rel => exact ⟨_, ((a0_0 == 2)), qT, H', ⟨qO⟩, ⟨qR HO150.out⟩, ⟨qK BK147.out⟩, ⟨qB⟩⟩
  ·rw [zD c7] at H
   obtain ⟨c7b0, c7b1⟩ := qn c7
   (first | rw [c7b0] | (simp only [i64_w, i32_w]; rw [c7b0]) | skip)
   by_cases c8 : a0_0 = 8
   ·rw [zC c8] at H
    obtain ⟨c8b0, c8b1⟩ := qe c8; clear c8
    have H' := zA H
    clear H
    go_wp2
    go_meet
    case rel => exact ⟨_, ((a0_0 == 8)), qT, H', ⟨qO⟩, ⟨qR HO150.out⟩, ⟨qK BK147.out⟩, ⟨qB⟩⟩
   ·rw [zD c8] at H
    obtain ⟨c8b0, c8b1⟩ := qn c8
    by_cases c9 : a0_0 = 10
    ·rw [zC c9] at H
     obtain ⟨c9b0, c9b1⟩ := qe c9; clear c9
     have H' := zA H
     clear H
     go_wp2
     go_meet
     case rel => exact ⟨_, ((a0_0 == 10)), qT, H', ⟨qO⟩, ⟨qR HO150.out⟩, ⟨qK BK147.out⟩, ⟨qB⟩⟩
    ·rw [zD c9] at H
     obtain ⟨c9b0, c9b1⟩ := qn c9
     by_cases c10 : a0_0 = 14
     ·rw [zC c10] at H
      obtain ⟨c10b0, c10b1⟩ := qe c10; clear c10
      have H' := zA H
      clear H
      go_wp2
      go_meet
      case rel => exact ⟨_, ((a0_0 == 14)), qT, H', ⟨qO⟩, ⟨qR HO150.out⟩, ⟨qK BK147.out⟩, ⟨qB⟩⟩
     ·rw [zD c10] at H
      obtain ⟨c10b0, c10b1⟩ := qn c10
      have H' := zA H
      clear H
      go_wp2
      go_meet
      case rel => exact ⟨_, ((a0_0 == 13)), qT, H', ⟨qO⟩, ⟨qR HO150.out⟩, ⟨qK BK147.out⟩, ⟨qB⟩⟩
 case rest =>
  clear HC2
  obtain ⟨kq, x7_1, rfl, HA, HJ1, HO_3, BK147, HB⟩ := hcut
  cases kq with
  | zero => exact absurd HA.out (by simp [cubbyref07_Uses.j0])
  | succ kj1 =>
   have H := HA.out
   clear HA
   simp only [cubbyref07_Uses.j0] at H
   by_cases c11 : x7_1 = true
   ·subst c11
    have H1 : (if y148.length < 17592186044416 then (some (y148 ++ [a0_2])) else (none)) = some r := by rw [zC rfl] at H; exact H
    clear H
    have H := H1
    clear H1
    by_cases c12 : y148.length < 17592186044416
    ·rw [zC c12] at H
     have LMc12 := zA c12
     clear c12
     obtain ⟨y151, hy151⟩ : ∃ y_ : List Int, y_ = (y148 ++ [a0_2]) := ⟨_, rfl⟩
     replace H : (some y151) = some r := by (try rw [hy151]); first | with_reducible exact H | exact (zJ _ _).symm.trans H | exact H
     have Ny151 := zA hy151
     clear hy151
     obtain rfl := zI H
     have z13_0 := bk6 BK147.out
     go_wp2_with (first | ((with_reducible refine gate_builtin (b := .append) (xs := #[.tmp 13, .tmp 16]) rfl ?_); at_builtin; refine Kd.R_append (Kd.int .i64) (w0 := w) w.heap.size rfl (.tmp 13) (.tmp 16) 29 3 (.int .i64 0) 8 rfl Tryd.underlying29 info3 rfl (by decide) (by omega) v149 y148 a0_2 [.int .i64 a0_2] (fun _ => True) (fun _ => False) rfl rfl ?aP (fun _ hk => hk.elim) ?aF ?aO ?aB ?aS ?aL ?_; (case aP => exact rfl); (case aB => exact qB); (case aF => exact (fun _ _ => trivial)); (case aO => exact (qR HO_3.out)); (case aS => exact (below_size qB)); (case aL => have := LMc12.out; omega); intro v152 w14 ho hb hg hat; rw [← Ny151.out] at ho; replace BK147 := zA (blk_grown (qK BK147.out) hg (Kd.R_ne HO_3.out BK147.out (by decide))); replace HB := zA (hb); have HO153 := zA (ho); clear HO_3; clear ho hb hg hat))
     go_ret
     exact ⟨_, qE, qR HO153.out, qB⟩
    ·rw [zD c12] at H
     exact absurd H (by simp)
   ·replace c11 := Bool.eq_false_iff.mpr c11
    subst c11
    have H1 : (if a0_0 = 3 then (cubbyref07_Uses.j1 kj1 y148 a0_0 (a0_0 == 3) a0_0 a0_1 a0_2 a0_3 a0_4 l0_5) else (if a0_0 = 4 then (cubbyref07_Uses.j1 kj1 y148 a0_0 (a0_0 == 4) a0_0 a0_1 a0_2 a0_3 a0_4 l0_5) else (if a0_0 = 5 then (cubbyref07_Uses.j1 kj1 y148 a0_0 (a0_0 == 5) a0_0 a0_1 a0_2 a0_3 a0_4 l0_5) else (if a0_0 = 6 then (cubbyref07_Uses.j1 kj1 y148 a0_0 (a0_0 == 6) a0_0 a0_1 a0_2 a0_3 a0_4 l0_5) else (if a0_0 = 7 then (cubbyref07_Uses.j1 kj1 y148 a0_0 (a0_0 == 7) a0_0 a0_1 a0_2 a0_3 a0_4 l0_5) else (cubbyref07_Uses.j1 kj1 y148 a0_0 (a0_0 == 9) a0_0 a0_1 a0_2 a0_3 a0_4 l0_5)))))) = some r := by rw [zD (show ¬ (false = true) by decide)] at H; exact H
    clear H
    have H := H1
    clear H1
    have HC15 := zA H
    clear H
    go_upto_if 18 with (fail)
    go_cut [18] (fun v18 wc => ∃ (kq : Nat) (x18_14 : Bool), v18 = .bool x18_14 ∧ Aside0 (cubbyref07_Uses.j1 kq y148 a0_0 x18_14 a0_0 a0_1 a0_2 a0_3 a0_4 l0_5 = some r) ∧ Aside0 (kq ≤ kj1) ∧ Aside0 (Kd.R (Kd.int .i64) 3 wc w.heap.size (fun _ => True) v149 y148) ∧ Aside0 (wc.heap[gb147]? = some (.cells #[.int .i64 a0_0, .int .i64 a0_1, .int .i64 a0_2, .int .i64 a0_3, .string a0_4, (.slice A0_5 l0_5.length c0_5)] 31 (0, 0))) ∧ Aside0 (Below w.heap.size w wc))
    case first =>
     have H := HC15.out
     clear HC15
     by_cases c16 : a0_0 = 3
     ·rw [zC c16] at H
      obtain ⟨c16b0, c16b1⟩ := qe c16; clear c16
      (first | rw [c16b0] | (simp only [i64_w, i32_w]; rw [c16b0]) | skip)
      have H' := zA H
      clear H
      go_wp2
      go_meet
      case rel => exact ⟨_, ((a0_0 == 3)), qT, H', ⟨by have := HJ1.out; first | omega | exact Nat.le_refl _⟩, ⟨qR HO_3.out⟩, ⟨qK BK147.out⟩, ⟨qB⟩⟩
     ·rw [zD c16] at H
      obtain ⟨c16b0, c16b1⟩ := qn c16
      (first | rw [c16b0] | (simp only [i64_w, i32_w]; rw [c16b0]) | skip)
      by_cases c17 : a0_0 = 4
      ·rw [zC c17] at H
       obtain ⟨c17b0, c17b1⟩ := qe c17; clear c17
       have H' := zA H
       clear H
       go_wp2
       go_meet
       case rel => exact ⟨_, ((a0_0 == 4)), qT, H', ⟨by have := HJ1.out; first | omega | exact Nat.le_refl _⟩, ⟨qR HO_3.out⟩, ⟨qK BK147.out⟩, ⟨qB⟩⟩
      ·rw [zD c17] at H
       obtain ⟨c17b0, c17b1⟩ := qn c17
       by_cases c18 : a0_0 = 5
       ·rw [zC c18] at H
        obtain ⟨c18b0, c18b1⟩ := qe c18; clear c18
        have H' := zA H
        clear H
        go_wp2
        go_meet
        case rel => exact ⟨_, ((a0_0 == 5)), qT, H', ⟨by have := HJ1.out; first | omega | exact Nat.le_refl _⟩, ⟨qR HO_3.out⟩, ⟨qK BK147.out⟩, ⟨qB⟩⟩
       ·rw [zD c18] at H
        obtain ⟨c18b0, c18b1⟩ := qn c18
        by_cases c19 : a0_0 = 6
        ·rw [zC c19] at H
         obtain ⟨c19b0, c19b1⟩ := qe c19; clear c19
         have H' := zA H
         clear H
         go_wp2
         go_meet
         case rel => exact ⟨_, ((a0_0 == 6)), qT, H', ⟨by have := HJ1.out; first | omega | exact Nat.le_refl _⟩, ⟨qR HO_3.out⟩, ⟨qK BK147.out⟩, ⟨qB⟩⟩
        ·rw [zD c19] at H
         obtain ⟨c19b0, c19b1⟩ := qn c19
         by_cases c20 : a0_0 = 7
         ·rw [zC c20] at H
          obtain ⟨c20b0, c20b1⟩ := qe c20; clear c20
          have H' := zA H
          clear H
          go_wp2
          go_meet
          case rel => exact ⟨_, ((a0_0 == 7)), qT, H', ⟨by have := HJ1.out; first | omega | exact Nat.le_refl _⟩, ⟨qR HO_3.out⟩, ⟨qK BK147.out⟩, ⟨qB⟩⟩
         ·rw [zD c20] at H
          obtain ⟨c20b0, c20b1⟩ := qn c20
          have H' := zA H
          clear H
          go_wp2
          go_meet
          case rel => exact ⟨_, ((a0_0 == 9)), qT, H', ⟨by have := HJ1.out; first | omega | exact Nat.le_refl _⟩, ⟨qR HO_3.out⟩, ⟨qK BK147.out⟩, ⟨qB⟩⟩
    case rest =>
     clear HC15
     obtain ⟨kq, x18_14, rfl, HA, HJ14, HO_3, BK147, HB⟩ := hcut
     cases kq with
     | zero => exact absurd HA.out (by simp [cubbyref07_Uses.j1])
     | succ kj14 =>
      have H := HA.out
      clear HA
      simp only [cubbyref07_Uses.j1] at H
      by_cases c21 : x18_14 = true
      ·subst c21
       have H1 : ((some (([a0_2, a0_3] : List Int) : List Int)).bind fun y154 => (if y148.length + y154.length < 17592186044416 then (some (y148 ++ y154)) else (none))) = some r := by rw [zC rfl] at H; exact H
       clear H
       have H := H1
       clear H1
       obtain ⟨y154, hy154⟩ : ∃ y_ : List Int, y_ = (([a0_2, a0_3] : List Int)) := ⟨_, rfl⟩
       replace H : (if y148.length + y154.length < 17592186044416 then (some (y148 ++ y154)) else (none)) = some r := by (try rw [hy154]); first | with_reducible exact H | exact (zJ _ _).symm.trans H | exact H
       have Ny154 := zA hy154
       clear hy154
       by_cases c22 : y148.length + y154.length < 17592186044416
       ·rw [zC c22] at H
        have LMc22 := zA c22
        clear c22
        obtain ⟨y157, hy157⟩ : ∃ y_ : List Int, y_ = (y148 ++ y154) := ⟨_, rfl⟩
        replace H : (some y157) = some r := by (try rw [hy157]); first | with_reducible exact H | exact (zJ _ _).symm.trans H | exact H
        have Ny157 := zA hy157
        clear hy157
        obtain rfl := zI H
        have z23_0 := bk6 BK147.out
        go_wp2_with (first | ((with_reducible refine gate_dst (N := 30) rfl ?_); refine Kd.R_lit (Kd.int .i64) _ 3 (by rfl) (N := 30) (by rfl) (xs := ([a0_2, a0_3] : List Int)) (inner := [.int .i64 a0_2, .int .i64 a0_3]) (ok := fun _ => True) (okp := fun _ => True) ?hr ?hp (fun _ hk => hk) trivial (Below.refl _ _) (Nat.le_refl _) (by simp) ?_; (case hr => go_simp <;> rfl); (case hp => exact (Reps.one (show Kd.M (Kd.int .i64) _ _ _ a0_2 [.int .i64 a0_2] from rfl) (Reps.one (show Kd.M (Kd.int .i64) _ _ _ a0_3 [.int .i64 a0_3] from rfl) (Reps.none _ _)))); intro v155 w24 ho25 hb hg_ hnew_; clear hg_ hnew_; (first | rw [← Ny154.out] at ho25 | (simp only [Int.reduceToNat] at ho25; rw [← Ny154.out] at ho25)); have HO156 := zA (Kd.R_lower (Kd.R_new' ho25 (Kd.R_lt (qR HO_3.out))) (below_size qB)); replace HO_3 := zA (Kd.R_elder' (qR HO_3.out) (Kd.R_base ho25) hb); replace BK147 := qW BK147 hb; replace HB := qH hb; clear hb ho25; obtain ⟨Ao27, co27, eo27⟩ := Kd.R_slice HO156.out; subst eo27) | ((with_reducible refine gate_builtin (b := .append) (xs := #[.tmp 25, .tmp 30]) rfl ?_); at_builtin; refine Kd.R_append_rows (Kd.int .i64) (w0 := w) w.heap.size rfl (.tmp 25) (.tmp 30) 29 3 (.int .i64 0) 8 rfl Tryd.underlying29 info3 rfl (by decide) (by omega) v149 y148 y154 _ _ _ (fun k_ => some k_ ≠ (.slice Ao27 y154.length co27 : Value).ownBlock) (fun _ => False) rfl rfl ?aO ?aR (fun _ _ h => h) (fun _ h => h.elim) ?aF ?aB ?aS ?aL ?_; (case aR => repeat (first | exact (Kd.R_reads' HO156.out).2.2 | (with_reducible refine Kd.C_alloc ?_ _) | (with_reducible refine Kd.C_drewN ?_ _) | (with_reducible refine Kd.C_drew ?_))); (case aB => exact qB); (case aF => exact (fun k_ hk => Kd.fresh' (Kd.R_lt (qR HO156.out)) k_ hk)); (case aO => exact (by (with_reducible repeat (first | apply Kd.R_alloc | apply Kd.R_drewN | apply Kd.R_drew)); exact Kd.R_mono HO_3.out (fun _ hk => hk.2))); (case aS => exact (below_size qB)); (case aL => have := LMc22.out; omega); intro v158 w26 ho hb hg hat; rw [← Ny157.out] at ho; replace BK147 := zA (blk_grown (qK BK147.out) hg (Kd.R_ne HO_3.out BK147.out (by decide))); replace HO156 := zA (Kd.R_after (ok := (fun _ => True)) (qR HO156.out) hg hat); replace HB := zA (hb); have HO159 := zA (ho); clear HO_3; clear ho hb hg hat))
        go_ret
        exact ⟨_, qE, by (with_reducible repeat (first | apply Kd.R_alloc | apply Kd.R_drewN | apply Kd.R_drew)); exact Kd.R_mono HO159.out (fun _ hk => trivial), qB⟩
       ·rw [zD c22] at H
        exact absurd H (by simp)
      ·replace c21 := Bool.eq_false_iff.mpr c21
       subst c21
       have H1 : (if a0_0 = 11 then (if y148.length + l0_5.length < 17592186044416 then (some (y148 ++ l0_5)) else (none)) else (some y148)) = some r := by rw [zD (show ¬ (false = true) by decide)] at H; exact H
       clear H
       have H := H1
       clear H1
       by_cases c28 : a0_0 = 11
       ·rw [zC c28] at H
        obtain ⟨c28b0, c28b1⟩ := qe c28; clear c28
        by_cases c29 : y148.length + l0_5.length < 17592186044416
        ·rw [zC c29] at H
         have LMc29 := zA c29
         clear c29
         obtain ⟨y160, hy160⟩ : ∃ y_ : List Int, y_ = (y148 ++ l0_5) := ⟨_, rfl⟩
         replace H : (some y160) = some r := by (try rw [hy160]); first | with_reducible exact H | exact (zJ _ _).symm.trans H | exact H
         have Ny160 := zA hy160
         clear hy160
         obtain rfl := zI H
         have z30_0 := bk6 BK147.out
         go_wp2_with (first | ((with_reducible refine gate_builtin (b := .append) (xs := #[.tmp 34, .tmp 36]) rfl ?_); at_builtin; refine Kd.R_append_rows (Kd.int .i64) (w0 := w) w.heap.size rfl (.tmp 34) (.tmp 36) 29 3 (.int .i64 0) 8 rfl Tryd.underlying29 info3 rfl (by decide) (by omega) v149 y148 l0_5 _ _ _ (fun _ => True) (fun _ => False) rfl rfl ?aO ?aR (fun _ _ h => h) (fun _ h => h.elim) ?aF ?aB ?aS ?aL ?_; (case aR => exact qCB HR0_5.out); (case aB => exact qB); (case aF => exact (fun _ _ => trivial)); (case aO => exact (qR HO_3.out)); (case aS => exact (below_size qB)); (case aL => have := LMc29.out; omega); intro v161 w31 ho hb hg hat; rw [← Ny160.out] at ho; replace BK147 := zA (blk_grown (qK BK147.out) hg (Kd.R_ne HO_3.out BK147.out (by decide))); replace HB := zA (hb); have HO162 := zA (ho); clear HO_3; clear ho hb hg hat))
         go_ret
         exact ⟨_, qE, qR HO162.out, qB⟩
        ·rw [zD c29] at H
         exact absurd H (by simp)
       ·rw [zD c28] at H
        obtain ⟨c28b0, c28b1⟩ := qn c28
        obtain rfl := zI H
        go_wp2
        go_ret
        exact ⟨_, qE, qR HO_3.out, qB⟩

mutual
def cubbyref07_bare.j0 : Nat → Bool → Int → Int → Int → Int → ByteArray → List Int → Option (Bool)
 | 0, _, _, _, _, _, _, _ => none
 | k + 1, x16, x144000, x144001, x144002, x144003, x144004, x144005 => if x16 = true then (some false) else (if x144000 = 1 then (cubbyref07_bare.j1 k x144000 (x144000 == 1) x144000 x144001 x144002 x144003 x144004 x144005) else (if x144000 = 2 then (cubbyref07_bare.j1 k x144000 (x144000 == 2) x144000 x144001 x144002 x144003 x144004 x144005) else (cubbyref07_bare.j1 k x144000 (x144000 == 8) x144000 x144001 x144002 x144003 x144004 x144005)))
def cubbyref07_bare.j1 : Nat → Int → Bool → Int → Int → Int → Int → ByteArray → List Int → Option (Bool)
 | 0, _, _, _, _, _, _, _, _ => none
 | k + 1, x18, x19, x144000, x144001, x144002, x144003, x144004, x144005 => if x19 = true then (some (x144003 == 0)) else (if x18 = 3 then (cubbyref07_bare.j2 k x18 (x18 == 3) x144000 x144001 x144002 x144003 x144004 x144005) else (if x18 = 4 then (cubbyref07_bare.j2 k x18 (x18 == 4) x144000 x144001 x144002 x144003 x144004 x144005) else (if x18 = 5 then (cubbyref07_bare.j2 k x18 (x18 == 5) x144000 x144001 x144002 x144003 x144004 x144005) else (if x18 = 6 then (cubbyref07_bare.j2 k x18 (x18 == 6) x144000 x144001 x144002 x144003 x144004 x144005) else (if x18 = 7 then (cubbyref07_bare.j2 k x18 (x18 == 7) x144000 x144001 x144002 x144003 x144004 x144005) else (cubbyref07_bare.j2 k x18 (x18 == 13) x144000 x144001 x144002 x144003 x144004 x144005))))))
def cubbyref07_bare.j2 : Nat → Int → Bool → Int → Int → Int → Int → ByteArray → List Int → Option (Bool)
 | 0, _, _, _, _, _, _, _, _ => none
 | k + 1, x18, x26, x144000, x144001, x144002, x144003, x144004, x144005 => if x26 = true then (some true) else (if x18 = 9 then (some (x144001 == 0)) else (if x18 = 10 then (cubbyref07_bare.j3 k x18 (x18 == 10) x144000 x144001 x144002 x144003 x144004 x144005) else (if x18 = 14 then (cubbyref07_bare.j3 k x18 (x18 == 14) x144000 x144001 x144002 x144003 x144004 x144005) else (cubbyref07_bare.j3 k x18 (x18 == 12) x144000 x144001 x144002 x144003 x144004 x144005))))
def cubbyref07_bare.j3 : Nat → Int → Bool → Int → Int → Int → Int → ByteArray → List Int → Option (Bool)
 | 0, _, _, _, _, _, _, _, _ => none
 | k + 1, x18, x38, x144000, x144001, x144002, x144003, x144004, x144005 => if x38 = true then (if x144001 = 0 then (some (x144003 == 0)) else (some false)) else (if x18 = 11 then (if x144002 = 0 then (some (x144003 == 0)) else (some false)) else (some false))
end
def cubbyref07_bare.f (k : Nat) (a0_0 : Int) (a0_1 : Int) (a0_2 : Int) (a0_3 : Int) (a0_4 : ByteArray) (l0_5 : List Int) : Option (Bool) := if a0_0 = 11 then (cubbyref07_bare.j0 k false a0_0 a0_1 a0_2 a0_3 a0_4 l0_5) else (if a0_4.toList = ([] : List UInt8) then (cubbyref07_bare.j0 k (decide ((l0_5.length : Int) > 0)) a0_0 a0_1 a0_2 a0_3 a0_4 l0_5) else (cubbyref07_bare.j0 k true a0_0 a0_1 a0_2 a0_3 a0_4 l0_5))
set_option maxHeartbeats 8000000 in
set_option maxRecDepth 100000 in
theorem cubbyref07_bare.calls (k : Nat) (a0_0 : Int) (a0_1 : Int) (a0_2 : Int) (a0_3 : Int) (a0_4 : ByteArray) (A0_5 : Option Addr) (c0_5 : Nat) (l0_5 : List Int) (r : Bool) (w : World) (hr0_5 : Kd.C (Kd.int .i64) w A0_5 l0_5.length l0_5) (hc0_5 : l0_5.length ≤ c0_5) (h : cubbyref07_bare.f k a0_0 a0_1 a0_2 a0_3 a0_4 l0_5 = some r) :
 Calls Tryd.prog 27 #[.agg #[.int .i64 a0_0, .int .i64 a0_1, .int .i64 a0_2, .int .i64 a0_3, .string a0_4, .slice A0_5 l0_5.length c0_5]] w fun e w' => e = .returned (.bool r) ∧ Below w.heap.size w w' := by
 have hu31 := Tryd.underlying31
 have HR0_5 := zA hr0_5
 have HC0_5 := zA hc0_5
 clear hr0_5 hc0_5
 have HB := zA (Below.refl w.heap.size w)
 have H := h; clear h; unfold cubbyref07_bare.f at H
 have HC2 := zA H
 clear H
 go_enter Tryd.func27, Tryd.ntmps27
 go_upto_region 1 with (first | ((with_reducible refine gate_dst (N := 1) rfl ?_); (try (refine gate_guard (by rfl) ?_; dsimp only)); refine box_event (by rfl) (N := 1) (by rfl) (cs := #[.int .i64 a0_0, .int .i64 a0_1, .int .i64 a0_2, .int .i64 a0_3, .string a0_4, .slice A0_5 l0_5.length c0_5]) (t := 31) ?hr ?_; (case hr => go_simp <;> rfl); intro gb143 hg w3 hbox hb; have BK143 := zA (hbox); have GW143 := qG hg; have GE143 := GW143; replace HB := qH hb; clear hb hbox hg))
 (try simp only [Act.put, List.setIfInBounds_toArray, List.set_cons_zero, List.set_cons_succ])
 go_cut [16] (fun v16 wc => ∃ (kq : Nat) (x16_1 : Bool), v16 = .bool x16_1 ∧ Aside0 (cubbyref07_bare.j0 kq x16_1 a0_0 a0_1 a0_2 a0_3 a0_4 l0_5 = some r) ∧ Aside0 (kq ≤ k) ∧ Aside0 (wc.heap[gb143]? = some (.cells #[.int .i64 a0_0, .int .i64 a0_1, .int .i64 a0_2, .int .i64 a0_3, .string a0_4, (.slice A0_5 l0_5.length c0_5)] 31 (0, 0))) ∧ Aside0 (Below w.heap.size w wc))
 case first =>
  have H := HC2.out
  clear HC2
  by_cases c4 : a0_0 = 11
  ·rw [zC c4] at H
   obtain ⟨c4b0, c4b1⟩ := qe c4; clear c4
   (first | rw [c4b0] | (simp only [i64_w, i32_w]; rw [c4b0]) | skip)
   have H' := zA H
   clear H
   have z5_0 := bk6 BK143.out
   go_wp2
   go_meet
   case rel => exact ⟨_, (false), qT, H', ⟨qO⟩, ⟨qK BK143.out⟩, ⟨qB⟩⟩
  ·rw [zD c4] at H
   obtain ⟨c4b0, c4b1⟩ := qn c4
   (first | rw [c4b0] | (simp only [i64_w, i32_w]; rw [c4b0]) | skip)
   by_cases c6 : a0_4.toList = ([] : List UInt8)
   ·rw [zC c6] at H
    obtain ⟨c6b0, c6b1⟩ := qe c6; clear c6
    have H' := zA H
    clear H
    have z7_0 := bk6 BK143.out
    go_wp2
    go_meet
    case rel => exact ⟨_, (decide ((l0_5.length : Int) > 0)), qT, H', ⟨qO⟩, ⟨qK BK143.out⟩, ⟨qB⟩⟩
   ·rw [zD c6] at H
    obtain ⟨c6b0, c6b1⟩ := qn c6
    have H' := zA H
    clear H
    have z8_0 := bk6 BK143.out
    go_wp2
    go_meet
    case rel => exact ⟨_, (true), qT, H', ⟨qO⟩, ⟨qK BK143.out⟩, ⟨qB⟩⟩
 case rest =>
  clear HC2
  obtain ⟨kq, x16_1, rfl, HA, HJ1, BK143, HB⟩ := hcut
  cases kq with
  | zero => exact absurd HA.out (by simp [cubbyref07_bare.j0])
  | succ kj1 =>
   have H := HA.out
   clear HA
   simp only [cubbyref07_bare.j0] at H
   by_cases c9 : x16_1 = true
   ·subst c9
    have H1 : (some false) = some r := by rw [zC rfl] at H; exact H
    clear H
    have H := H1
    clear H1
    obtain rfl := zI H
    go_wp2
    go_ret
    exact ⟨qE, qB⟩
   ·replace c9 := Bool.eq_false_iff.mpr c9
    subst c9
    have H1 : (if a0_0 = 1 then (cubbyref07_bare.j1 kj1 a0_0 (a0_0 == 1) a0_0 a0_1 a0_2 a0_3 a0_4 l0_5) else (if a0_0 = 2 then (cubbyref07_bare.j1 kj1 a0_0 (a0_0 == 2) a0_0 a0_1 a0_2 a0_3 a0_4 l0_5) else (cubbyref07_bare.j1 kj1 a0_0 (a0_0 == 8) a0_0 a0_1 a0_2 a0_3 a0_4 l0_5))) = some r := by rw [zD (show ¬ (false = true) by decide)] at H; exact H
    clear H
    have H := H1
    clear H1
    have HC10 := zA H
    clear H
    have z11_0 := bk6 BK143.out
    go_upto_if 19 with (fail)
    go_cut [19] (fun v19 wc => ∃ (kq : Nat) (x19_9 : Bool), v19 = .bool x19_9 ∧ Aside0 (cubbyref07_bare.j1 kq a0_0 x19_9 a0_0 a0_1 a0_2 a0_3 a0_4 l0_5 = some r) ∧ Aside0 (kq ≤ kj1) ∧ Aside0 (wc.heap[gb143]? = some (.cells #[.int .i64 a0_0, .int .i64 a0_1, .int .i64 a0_2, .int .i64 a0_3, .string a0_4, (.slice A0_5 l0_5.length c0_5)] 31 (0, 0))) ∧ Aside0 (Below w.heap.size w wc))
    case first =>
     have H := HC10.out
     clear HC10
     by_cases c12 : a0_0 = 1
     ·rw [zC c12] at H
      obtain ⟨c12b0, c12b1⟩ := qe c12; clear c12
      (first | rw [c12b0] | (simp only [i64_w, i32_w]; rw [c12b0]) | skip)
      have H' := zA H
      clear H
      go_wp2
      go_meet
      case rel => exact ⟨_, ((a0_0 == 1)), qT, H', ⟨by have := HJ1.out; first | omega | exact Nat.le_refl _⟩, ⟨qK BK143.out⟩, ⟨qB⟩⟩
     ·rw [zD c12] at H
      obtain ⟨c12b0, c12b1⟩ := qn c12
      (first | rw [c12b0] | (simp only [i64_w, i32_w]; rw [c12b0]) | skip)
      by_cases c13 : a0_0 = 2
      ·rw [zC c13] at H
       obtain ⟨c13b0, c13b1⟩ := qe c13; clear c13
       have H' := zA H
       clear H
       go_wp2
       go_meet
       case rel => exact ⟨_, ((a0_0 == 2)), qT, H', ⟨by have := HJ1.out; first | omega | exact Nat.le_refl _⟩, ⟨qK BK143.out⟩, ⟨qB⟩⟩
      ·rw [zD c13] at H
       obtain ⟨c13b0, c13b1⟩ := qn c13
       have H' := zA H
       clear H
       go_wp2
       go_meet
       case rel => exact ⟨_, ((a0_0 == 8)), qT, H', ⟨by have := HJ1.out; first | omega | exact Nat.le_refl _⟩, ⟨qK BK143.out⟩, ⟨qB⟩⟩
    case rest =>
     clear HC10
     obtain ⟨kq, x19_9, rfl, HA, HJ9, BK143, HB⟩ := hcut
     cases kq with
     | zero => exact absurd HA.out (by simp [cubbyref07_bare.j1])
     | succ kj9 =>
      have H := HA.out
      clear HA
      simp only [cubbyref07_bare.j1] at H
      by_cases c14 : x19_9 = true
      ·subst c14
       have H1 : (some (a0_3 == 0)) = some r := by rw [zC rfl] at H; exact H
       clear H
       have H := H1
       clear H1
       obtain rfl := zI H
       have z15_0 := bk6 BK143.out
       go_wp2
       go_ret
       exact ⟨qE, qB⟩
      ·replace c14 := Bool.eq_false_iff.mpr c14
       subst c14
       have H1 : (if a0_0 = 3 then (cubbyref07_bare.j2 kj9 a0_0 (a0_0 == 3) a0_0 a0_1 a0_2 a0_3 a0_4 l0_5) else (if a0_0 = 4 then (cubbyref07_bare.j2 kj9 a0_0 (a0_0 == 4) a0_0 a0_1 a0_2 a0_3 a0_4 l0_5) else (if a0_0 = 5 then (cubbyref07_bare.j2 kj9 a0_0 (a0_0 == 5) a0_0 a0_1 a0_2 a0_3 a0_4 l0_5) else (if a0_0 = 6 then (cubbyref07_bare.j2 kj9 a0_0 (a0_0 == 6) a0_0 a0_1 a0_2 a0_3 a0_4 l0_5) else (if a0_0 = 7 then (cubbyref07_bare.j2 kj9 a0_0 (a0_0 == 7) a0_0 a0_1 a0_2 a0_3 a0_4 l0_5) else (cubbyref07_bare.j2 kj9 a0_0 (a0_0 == 13) a0_0 a0_1 a0_2 a0_3 a0_4 l0_5)))))) = some r := by rw [zD (show ¬ (false = true) by decide)] at H; exact H
       clear H
       have H := H1
       clear H1
       have HC16 := zA H
       clear H
       go_upto_if 26 with (fail)
       go_cut [26] (fun v26 wc => ∃ (kq : Nat) (x26_15 : Bool), v26 = .bool x26_15 ∧ Aside0 (cubbyref07_bare.j2 kq a0_0 x26_15 a0_0 a0_1 a0_2 a0_3 a0_4 l0_5 = some r) ∧ Aside0 (kq ≤ kj9) ∧ Aside0 (wc.heap[gb143]? = some (.cells #[.int .i64 a0_0, .int .i64 a0_1, .int .i64 a0_2, .int .i64 a0_3, .string a0_4, (.slice A0_5 l0_5.length c0_5)] 31 (0, 0))) ∧ Aside0 (Below w.heap.size w wc))
       case first =>
        have H := HC16.out
        clear HC16
        by_cases c17 : a0_0 = 3
        ·rw [zC c17] at H
         obtain ⟨c17b0, c17b1⟩ := qe c17; clear c17
         (first | rw [c17b0] | (simp only [i64_w, i32_w]; rw [c17b0]) | skip)
         have H' := zA H
         clear H
         go_wp2
         go_meet
         case rel => exact ⟨_, ((a0_0 == 3)), qT, H', ⟨by have := HJ1.out; have := HJ9.out; first | omega | exact Nat.le_refl _⟩, ⟨qK BK143.out⟩, ⟨qB⟩⟩
        ·rw [zD c17] at H
         obtain ⟨c17b0, c17b1⟩ := qn c17
         (first | rw [c17b0] | (simp only [i64_w, i32_w]; rw [c17b0]) | skip)
         by_cases c18 : a0_0 = 4
         ·rw [zC c18] at H
          obtain ⟨c18b0, c18b1⟩ := qe c18; clear c18
          have H' := zA H
          clear H
          go_wp2
          go_meet
          case rel => exact ⟨_, ((a0_0 == 4)), qT, H', ⟨by have := HJ1.out; have := HJ9.out; first | omega | exact Nat.le_refl _⟩, ⟨qK BK143.out⟩, ⟨qB⟩⟩
         ·rw [zD c18] at H
          obtain ⟨c18b0, c18b1⟩ := qn c18
          by_cases c19 : a0_0 = 5
          ·rw [zC c19] at H
           obtain ⟨c19b0, c19b1⟩ := qe c19; clear c19
           have H' := zA H
           clear H
           go_wp2
           go_meet
           case rel => exact ⟨_, ((a0_0 == 5)), qT, H', ⟨by have := HJ1.out; have := HJ9.out; first | omega | exact Nat.le_refl _⟩, ⟨qK BK143.out⟩, ⟨qB⟩⟩
          ·rw [zD c19] at H
           obtain ⟨c19b0, c19b1⟩ := qn c19
           by_cases c20 : a0_0 = 6
           ·rw [zC c20] at H
            obtain ⟨c20b0, c20b1⟩ := qe c20; clear c20
            have H' := zA H
            clear H
            go_wp2
            go_meet
            case rel => exact ⟨_, ((a0_0 == 6)), qT, H', ⟨by have := HJ1.out; have := HJ9.out; first | omega | exact Nat.le_refl _⟩, ⟨qK BK143.out⟩, ⟨qB⟩⟩
           ·rw [zD c20] at H
            obtain ⟨c20b0, c20b1⟩ := qn c20
            by_cases c21 : a0_0 = 7
            ·rw [zC c21] at H
             obtain ⟨c21b0, c21b1⟩ := qe c21; clear c21
             have H' := zA H
             clear H
             go_wp2
             go_meet
             case rel => exact ⟨_, ((a0_0 == 7)), qT, H', ⟨by have := HJ1.out; have := HJ9.out; first | omega | exact Nat.le_refl _⟩, ⟨qK BK143.out⟩, ⟨qB⟩⟩
            ·rw [zD c21] at H
             obtain ⟨c21b0, c21b1⟩ := qn c21
             have H' := zA H
             clear H
             go_wp2
             go_meet
             case rel => exact ⟨_, ((a0_0 == 13)), qT, H', ⟨by have := HJ1.out; have := HJ9.out; first | omega | exact Nat.le_refl _⟩, ⟨qK BK143.out⟩, ⟨qB⟩⟩
       case rest =>
        clear HC16
        obtain ⟨kq, x26_15, rfl, HA, HJ15, BK143, HB⟩ := hcut
        cases kq with
        | zero => exact absurd HA.out (by simp [cubbyref07_bare.j2])
        | succ kj15 =>
         have H := HA.out
         clear HA
         simp only [cubbyref07_bare.j2] at H
         by_cases c22 : x26_15 = true
         ·subst c22
          have H1 : (some true) = some r := by rw [zC rfl] at H; exact H
          clear H
          have H := H1
          clear H1
          obtain rfl := zI H
          go_wp2
          go_ret
          exact ⟨qE, qB⟩
         ·replace c22 := Bool.eq_false_iff.mpr c22
          subst c22
          have H1 : (if a0_0 = 9 then (some (a0_1 == 0)) else (if a0_0 = 10 then (cubbyref07_bare.j3 kj15 a0_0 (a0_0 == 10) a0_0 a0_1 a0_2 a0_3 a0_4 l0_5) else (if a0_0 = 14 then (cubbyref07_bare.j3 kj15 a0_0 (a0_0 == 14) a0_0 a0_1 a0_2 a0_3 a0_4 l0_5) else (cubbyref07_bare.j3 kj15 a0_0 (a0_0 == 12) a0_0 a0_1 a0_2 a0_3 a0_4 l0_5)))) = some r := by rw [zD (show ¬ (false = true) by decide)] at H; exact H
          clear H
          have H := H1
          clear H1
          by_cases c23 : a0_0 = 9
          ·rw [zC c23] at H
           obtain ⟨c23b0, c23b1⟩ := qe c23; clear c23
           obtain rfl := zI H
           have z24_0 := bk6 BK143.out
           go_wp2
           go_ret
           exact ⟨qE, qB⟩
          ·rw [zD c23] at H
           obtain ⟨c23b0, c23b1⟩ := qn c23
           have HC25 := zA H
           clear H
           go_upto_if 38 with (fail)
           go_cut [38] (fun v38 wc => ∃ (kq : Nat) (x38_24 : Bool), v38 = .bool x38_24 ∧ Aside0 (cubbyref07_bare.j3 kq a0_0 x38_24 a0_0 a0_1 a0_2 a0_3 a0_4 l0_5 = some r) ∧ Aside0 (kq ≤ kj15) ∧ Aside0 (wc.heap[gb143]? = some (.cells #[.int .i64 a0_0, .int .i64 a0_1, .int .i64 a0_2, .int .i64 a0_3, .string a0_4, (.slice A0_5 l0_5.length c0_5)] 31 (0, 0))) ∧ Aside0 (Below w.heap.size w wc))
           case first =>
            have H := HC25.out
            clear HC25
            by_cases c26 : a0_0 = 10
            ·rw [zC c26] at H
             obtain ⟨c26b0, c26b1⟩ := qe c26; clear c26
             (first | rw [c26b0] | (simp only [i64_w, i32_w]; rw [c26b0]) | skip)
             have H' := zA H
             clear H
             go_wp2
             go_meet
             case rel => exact ⟨_, ((a0_0 == 10)), qT, H', ⟨by have := HJ1.out; have := HJ9.out; have := HJ15.out; first | omega | exact Nat.le_refl _⟩, ⟨qK BK143.out⟩, ⟨qB⟩⟩
            ·rw [zD c26] at H
             obtain ⟨c26b0, c26b1⟩ := qn c26
             (first | rw [c26b0] | (simp only [i64_w, i32_w]; rw [c26b0]) | skip)
             by_cases c27 : a0_0 = 14
             ·rw [zC c27] at H
              obtain ⟨c27b0, c27b1⟩ := qe c27; clear c27
              have H' := zA H
              clear H
              go_wp2
              go_meet
              case rel => exact ⟨_, ((a0_0 == 14)), qT, H', ⟨by have := HJ1.out; have := HJ9.out; have := HJ15.out; first | omega | exact Nat.le_refl _⟩, ⟨qK BK143.out⟩, ⟨qB⟩⟩
             ·rw [zD c27] at H
              obtain ⟨c27b0, c27b1⟩ := qn c27
              have H' := zA H
              clear H
              go_wp2
              go_meet
              case rel => exact ⟨_, ((a0_0 == 12)), qT, H', ⟨by have := HJ1.out; have := HJ9.out; have := HJ15.out; first | omega | exact Nat.le_refl _⟩, ⟨qK BK143.out⟩, ⟨qB⟩⟩
           case rest =>
            clear HC25
            obtain ⟨kq, x38_24, rfl, HA, HJ24, BK143, HB⟩ := hcut
            cases kq with
            | zero => exact absurd HA.out (by simp [cubbyref07_bare.j3])
            | succ kj24 =>
             have H := HA.out
             clear HA
             simp only [cubbyref07_bare.j3] at H
             by_cases c28 : x38_24 = true
             ·subst c28
              have H1 : (if a0_1 = 0 then (some (a0_3 == 0)) else (some false)) = some r := by rw [zC rfl] at H; exact H
              clear H
              have H := H1
              clear H1
              by_cases c29 : a0_1 = 0
              ·rw [zC c29] at H
               obtain ⟨c29b0, c29b1⟩ := qe c29; clear c29
               obtain rfl := zI H
               have z30_0 := bk6 BK143.out
               go_wp2
               go_ret
               exact ⟨qE, qB⟩
              ·rw [zD c29] at H
               obtain ⟨c29b0, c29b1⟩ := qn c29
               obtain rfl := zI H
               have z31_0 := bk6 BK143.out
               go_wp2
               go_ret
               exact ⟨qE, qB⟩
             ·replace c28 := Bool.eq_false_iff.mpr c28
              subst c28
              have H1 : (if a0_0 = 11 then (if a0_2 = 0 then (some (a0_3 == 0)) else (some false)) else (some false)) = some r := by rw [zD (show ¬ (false = true) by decide)] at H; exact H
              clear H
              have H := H1
              clear H1
              by_cases c32 : a0_0 = 11
              ·rw [zC c32] at H
               obtain ⟨c32b0, c32b1⟩ := qe c32; clear c32
               by_cases c33 : a0_2 = 0
               ·rw [zC c33] at H
                obtain ⟨c33b0, c33b1⟩ := qe c33; clear c33
                obtain rfl := zI H
                have z34_0 := bk6 BK143.out
                go_wp2
                go_ret
                exact ⟨qE, qB⟩
               ·rw [zD c33] at H
                obtain ⟨c33b0, c33b1⟩ := qn c33
                obtain rfl := zI H
                have z35_0 := bk6 BK143.out
                go_wp2
                go_ret
                exact ⟨qE, qB⟩
              ·rw [zD c32] at H
               obtain ⟨c32b0, c32b1⟩ := qn c32
               obtain rfl := zI H
               go_wp2
               go_ret
               exact ⟨qE, qB⟩

def cubbyref07_within.l0 : Nat → List Int → Int → Int → Option (Bool)
 | 0, _, _, _ => none
 | k + 1, x0, x1, x5 => if x5 < (x0.length : Int) then (if 0 ≤ x5 then (if (rd x0 x5) < 0 then (some false) else (if (rd x0 x5) ≥ x1 then (some false) else (cubbyref07_within.l0 k x0 x1 (wrap64 (x5 + 1))))) else (none)) else (some true)
def cubbyref07_within.f (k : Nat) (l0 : List Int) (a1 : Int) : Option (Bool) := cubbyref07_within.l0 k l0 a1 0
set_option maxHeartbeats 8000000 in
set_option maxRecDepth 100000 in
theorem cubbyref07_within.calls (k : Nat) (A0 : Option Addr) (c0 : Nat) (l0 : List Int) (a1 : Int) (r : Bool) (w : World) (hr0 : Kd.C (Kd.int .i64) w A0 l0.length l0) (hc0 : l0.length ≤ c0) (h : cubbyref07_within.f k l0 a1 = some r) :
 Calls Tryd.prog 29 #[.slice A0 l0.length c0, .int .i64 a1] w fun e w' => e = .returned (.bool r) ∧ Drawn0 w w' := by
 have HR0 := zA hr0
 have HC0 := zA hc0
 clear hr0 hc0
 have H := h; clear h; unfold cubbyref07_within.f at H
 have H' := zA H
 clear H
 go_enter Tryd.func29, Tryd.ntmps29
 go_wp2
 go_loopg [5] k (fun kq v5 w' => ∃ (x5_1 : Int), v5 = .int .i64 x5_1 ∧ Aside0 (cubbyref07_within.l0 kq l0 a1 x5_1 = some r) ∧ Aside0 (kq ≤ k) ∧ Drawn0 w w')
 case atStart => exact ⟨(0), qT, H', ⟨Nat.le_refl _⟩, qD⟩
 case round =>
  clear H'
  obtain ⟨x5_1, rfl, HA, HK1, ⟨m1, rfl⟩⟩ := hrel
  cases gk with
  | zero => exact absurd HA.out (by simp [cubbyref07_within.l0])
  | succ k1 =>
   have H := HA.out
   clear HA
   simp only [cubbyref07_within.l0] at H
   by_cases c3 : x5_1 < (l0.length : Int)
   ·rw [zC c3] at H
    have c3b0 := zF c3
    clear c3
    by_cases c4 : 0 ≤ x5_1
    ·rw [zC c4] at H
     have c4b0 := zF c4
     clear c4
     by_cases c5 : (rd l0 x5_1) < 0
     ·rw [zC c5] at H
      have c5b0 := zF c5
      clear c5
      obtain rfl := zI H
      have p145 : 0 ≤ (x5_1 : Int) := zB qA
      have q145 : x5_1 < (l0.length : Int) := zB qA
      obtain ⟨ad145, e145, hx145_0⟩ := Kd.at_int HR0.out x5_1 p145 q145
      cases e145
      replace p145 := eq_true p145
      replace q145 := eq_true q145
      go_wp2
      go_ret
      exact ⟨by first | rfl | (simp; done) | (simp [*]; done), qD⟩
     ·rw [zD c5] at H
      have c5b0 := zG c5
      clear c5
      by_cases c6 : (rd l0 x5_1) ≥ a1
      ·rw [zC c6] at H
       have c6b0 : decide (a1 ≤ (rd l0 x5_1)) = true := zF c6
       clear c6
       obtain rfl := zI H
       have p145 : 0 ≤ (x5_1 : Int) := zB qA
       have q145 : x5_1 < (l0.length : Int) := zB qA
       obtain ⟨ad145, e145, hx145_0⟩ := Kd.at_int HR0.out x5_1 p145 q145
       cases e145
       replace p145 := eq_true p145
       replace q145 := eq_true q145
       have p146 : 0 ≤ (x5_1 : Int) := zB qA
       have q146 : x5_1 < (l0.length : Int) := zB qA
       obtain ⟨ad146, e146, hx146_0⟩ := Kd.at_int HR0.out x5_1 p146 q146
       obtain rfl : ad145 = ad146 := (by injection e146)
       replace p146 := eq_true p146
       replace q146 := eq_true q146
       go_wp2
       go_ret
       exact ⟨by first | rfl | (simp; done) | (simp [*]; done), qD⟩
      ·rw [zD c6] at H
       have c6b0 : decide (a1 ≤ (rd l0 x5_1)) = false := zG c6
       clear c6
       have H' := zA H
       clear H
       have p145 : 0 ≤ (x5_1 : Int) := zB qA
       have q145 : x5_1 < (l0.length : Int) := zB qA
       obtain ⟨ad145, e145, hx145_0⟩ := Kd.at_int HR0.out x5_1 p145 q145
       cases e145
       replace p145 := eq_true p145
       replace q145 := eq_true q145
       have p146 : 0 ≤ (x5_1 : Int) := zB qA
       have q146 : x5_1 < (l0.length : Int) := zB qA
       obtain ⟨ad146, e146, hx146_0⟩ := Kd.at_int HR0.out x5_1 p146 q146
       obtain rfl : ad145 = ad146 := (by injection e146)
       replace p146 := eq_true p146
       replace q146 := eq_true q146
       go_wp2
       go_roundg k1
       case measure => have := HK1.out; omega
       case rel => exact ⟨(wrap64 (x5_1 + 1)), qT, H', ⟨by have := HK1.out; omega⟩, qD⟩
    ·rw [zD c4] at H
     exact absurd H (by simp)
   ·rw [zD c3] at H
    have c3b0 := zG c3
    clear c3
    obtain rfl := zI H
    go_wp2
    go_ret
    exact ⟨by first | rfl | (simp; done) | (simp [*]; done), qD⟩

mutual
def cubbyref07_One.j0 : Nat → Int → Int → Bool → Int → Int → Int → Int → ByteArray → List Int → Option (Int)
 | 0, _, _, _, _, _, _, _, _, _ => none
 | k + 1, x1, x2, x28, x177000, x177001, x177002, x177003, x177004, x177005 => if x28 = true then (some 72) else ((cubbyref07_Def.f x177000 x177001 x177002 x177003 x177004 x177005).bind fun t179 => (if t179 = (-1) then ((cubbyref07_Uses.f k x177000 x177001 x177002 x177003 x177004 x177005).bind fun t180 => ((cubbyref07_within.f k t180 x1).bind fun t183 => (cubbyref07_One.j1 k x2 (!t183) x177000 x177001 x177002 x177003 x177004 x177005))) else ((cubbyref07_Def.f x177000 x177001 x177002 x177003 x177004 x177005).bind fun t184 => (if t184 < 0 then (cubbyref07_One.j1 k x2 true x177000 x177001 x177002 x177003 x177004 x177005) else ((cubbyref07_Def.f x177000 x177001 x177002 x177003 x177004 x177005).bind fun t185 => (if t185 ≥ x1 then (cubbyref07_One.j1 k x2 true x177000 x177001 x177002 x177003 x177004 x177005) else ((cubbyref07_Uses.f k x177000 x177001 x177002 x177003 x177004 x177005).bind fun t186 => ((cubbyref07_within.f k t186 x1).bind fun t189 => (cubbyref07_One.j1 k x2 (!t189) x177000 x177001 x177002 x177003 x177004 x177005)))))))))
def cubbyref07_One.j1 : Nat → Int → Bool → Int → Int → Int → Int → ByteArray → List Int → Option (Int)
 | 0, _, _, _, _, _, _, _, _ => none
 | k + 1, x2, x49, x177000, x177001, x177002, x177003, x177004, x177005 => if x49 = true then (some 73) else ((cubbyref07_Def.f x177000 x177001 x177002 x177003 x177004 x177005).bind fun t190 => (if t190 = (-1) then (if x177000 = 9 then (cubbyref07_One.j2 k x2 false x177000 x177001 x177002 x177003 x177004 x177005) else (if x177000 = 10 then (cubbyref07_One.j2 k x2 false x177000 x177001 x177002 x177003 x177004 x177005) else ((cubbyref07_Last.f x177000).bind fun t191 => (cubbyref07_One.j2 k x2 (!t191) x177000 x177001 x177002 x177003 x177004 x177005)))) else (cubbyref07_One.j2 k x2 false x177000 x177001 x177002 x177003 x177004 x177005)))
def cubbyref07_One.j2 : Nat → Int → Bool → Int → Int → Int → Int → ByteArray → List Int → Option (Int)
 | 0, _, _, _, _, _, _, _, _ => none
 | k + 1, x2, x68, x177000, x177001, x177002, x177003, x177004, x177005 => if x68 = true then (some 73) else (if x177000 = 1 then (if x177002 < 0 then (cubbyref07_One.j3 k x2 true x177000 x177001 x177002 x177003 x177004 x177005) else (cubbyref07_One.j3 k x2 (decide (x177002 ≥ 65536)) x177000 x177001 x177002 x177003 x177004 x177005)) else (cubbyref07_One.j3 k x2 false x177000 x177001 x177002 x177003 x177004 x177005))
def cubbyref07_One.j3 : Nat → Int → Bool → Int → Int → Int → Int → ByteArray → List Int → Option (Int)
 | 0, _, _, _, _, _, _, _, _ => none
 | k + 1, x2, x81, x177000, x177001, x177002, x177003, x177004, x177005 => if x81 = true then (some 81) else ((cubbyref07_Targets.f x177000 x177001 x177002 x177003 x177004 x177005).bind fun t192 => ((cubbyref07_within.f k t192 x2).bind fun t195 => (if t195 = true then (if x177000 = 11 then ((cubbyref07_Name.f k x177004).bind fun t196 => (cubbyref07_One.j4 k (!t196) x177000 x177001 x177002 x177003 x177004 x177005)) else (cubbyref07_One.j4 k false x177000 x177001 x177002 x177003 x177004 x177005)) else (some 74))))
def cubbyref07_One.j4 : Nat → Bool → Int → Int → Int → Int → ByteArray → List Int → Option (Int)
 | 0, _, _, _, _, _, _, _ => none
 | k + 1, x95, x177000, x177001, x177002, x177003, x177004, x177005 => if x95 = true then (some 70) else (if x177000 = 11 then (if (x177005.length : Int) > 4 then (some 192) else (some 0)) else (some 0))
end
def cubbyref07_One.f (k : Nat) (a0_0 : Int) (a0_1 : Int) (a0_2 : Int) (a0_3 : Int) (a0_4 : ByteArray) (l0_5 : List Int) (a1 : Int) (a2 : Int) (a3 : Bool) : Option (Int) := if a0_0 < 1 then (cubbyref07_One.j0 k a1 a2 true a0_0 a0_1 a0_2 a0_3 a0_4 l0_5) else (if a0_0 > 14 then (cubbyref07_One.j0 k a1 a2 true a0_0 a0_1 a0_2 a0_3 a0_4 l0_5) else ((cubbyref07_Last.f a0_0).bind fun t177 => (if (t177 != a3) = true then (cubbyref07_One.j0 k a1 a2 true a0_0 a0_1 a0_2 a0_3 a0_4 l0_5) else ((cubbyref07_bare.f k a0_0 a0_1 a0_2 a0_3 a0_4 l0_5).bind fun t178 => (cubbyref07_One.j0 k a1 a2 (!t178) a0_0 a0_1 a0_2 a0_3 a0_4 l0_5)))))
set_option maxHeartbeats 8000000 in
set_option maxRecDepth 100000 in
theorem cubbyref07_One.calls (k : Nat) (a0_0 : Int) (a0_1 : Int) (a0_2 : Int) (a0_3 : Int) (a0_4 : ByteArray) (A0_5 : Option Addr) (c0_5 : Nat) (l0_5 : List Int) (a1 : Int) (a2 : Int) (a3 : Bool) (r : Int) (w : World) (hr0_5 : Kd.C (Kd.int .i64) w A0_5 l0_5.length l0_5) (hc0_5 : l0_5.length ≤ c0_5) (h : cubbyref07_One.f k a0_0 a0_1 a0_2 a0_3 a0_4 l0_5 a1 a2 a3 = some r) :
 Calls Tryd.prog 15 #[.agg #[.int .i64 a0_0, .int .i64 a0_1, .int .i64 a0_2, .int .i64 a0_3, .string a0_4, .slice A0_5 l0_5.length c0_5], .int .i64 a1, .int .i64 a2, .bool a3] w fun e w' => e = .returned (.int .i64 r) ∧ Below w.heap.size w w' := by
 have hu31 := Tryd.underlying31
 have HR0_5 := zA hr0_5
 have HC0_5 := zA hc0_5
 clear hr0_5 hc0_5
 have HB := zA (Below.refl w.heap.size w)
 have H := h; clear h; unfold cubbyref07_One.f at H
 have HC5 := zA H
 clear H
 go_enter Tryd.func15, Tryd.ntmps15
 go_upto_region 1 with (first | ((with_reducible refine gate_dst (N := 4) rfl ?_); (try (refine gate_guard (by rfl) ?_; dsimp only)); refine box_event (by rfl) (N := 4) (by rfl) (cs := #[.int .i64 a0_0, .int .i64 a0_1, .int .i64 a0_2, .int .i64 a0_3, .string a0_4, .slice A0_5 l0_5.length c0_5]) (t := 31) ?hr ?_; (case hr => go_simp <;> rfl); intro gb176 hg w6 hbox hb; have BK176 := zA (hbox); have GW176 := qG hg; have GE176 := GW176; replace HB := qH hb; clear hb hbox hg))
 (try simp only [Act.put, List.setIfInBounds_toArray, List.set_cons_zero, List.set_cons_succ])
 go_cut [28] (fun v28 wc => ∃ (kq : Nat) (x28_4 : Bool), v28 = .bool x28_4 ∧ Aside0 (cubbyref07_One.j0 kq a1 a2 x28_4 a0_0 a0_1 a0_2 a0_3 a0_4 l0_5 = some r) ∧ Aside0 (kq ≤ k) ∧ Aside0 (wc.heap[gb176]? = some (.cells #[.int .i64 a0_0, .int .i64 a0_1, .int .i64 a0_2, .int .i64 a0_3, .string a0_4, (.slice A0_5 l0_5.length c0_5)] 31 (0, 0))) ∧ Aside0 (Below w.heap.size w wc))
 case first =>
  have H := HC5.out
  clear HC5
  by_cases c7 : a0_0 < 1
  ·rw [zC c7] at H
   have c7b0 := zF c7
   clear c7
   (first | rw [c7b0] | (simp only [i64_w, i32_w]; rw [c7b0]) | skip)
   have H' := zA H
   clear H
   have z8_0 := bk6 BK176.out
   go_wp2
   go_meet
   case rel => exact ⟨_, (true), qT, H', ⟨qO⟩, ⟨qK BK176.out⟩, ⟨qB⟩⟩
  ·rw [zD c7] at H
   have c7b0 := zG c7
   clear c7
   (first | rw [c7b0] | (simp only [i64_w, i32_w]; rw [c7b0]) | skip)
   by_cases c9 : a0_0 > 14
   ·rw [zC c9] at H
    have c9b0 : decide (14 < a0_0) = true := zF c9
    clear c9
    have H' := zA H
    clear H
    have z10_0 := bk6 BK176.out
    go_wp2
    go_meet
    case rel => exact ⟨_, (true), qT, H', ⟨qO⟩, ⟨qK BK176.out⟩, ⟨qB⟩⟩
   ·rw [zD c9] at H
    have c9b0 : decide (14 < a0_0) = false := zG c9
    clear c9
    replace H := qb H; obtain ⟨t177, A11, H⟩ := H
    by_cases c12 : (t177 != a3) = true
    ·rw [zC c12] at H
     have c12b0 : (t177 != a3) = true := c12
     (try (have c12b1 : decide (t177 = a3) = false := by simpa using c12))
     (try (have c12b2 : (t177 == a3) = false := by simpa using c12))
     (try (have c12b3 : ¬ (t177 = a3) := by simpa using c12))
     clear c12
     have H' := zA H
     clear H
     have z13_0 := bk6 BK176.out
     go_wp2_with (first | (go_at_call 26; (with_reducible refine (cubbyref07_Last.calls a0_0 t177 _ A11.out).mono ?_); (try clear A11); rintro e w' ⟨rfl, ⟨nd, rfl⟩⟩))
     go_meet
     case rel => exact ⟨_, (true), qT, H', ⟨qO⟩, ⟨qK BK176.out⟩, ⟨qB⟩⟩
    ·rw [zD c12] at H
     have c12b0 : (t177 != a3) = false := by simpa using c12
     (try (have c12b1 : decide (t177 = a3) = true := by simpa using c12))
     (try (have c12b2 : (t177 == a3) = true := by simpa using c12))
     clear c12
     replace H := qb H; obtain ⟨t178, A14, H⟩ := H
     have H' := zA H
     clear H
     have z15_0 := bk6 BK176.out
     go_wp2_with (first | (go_at_call 26; (with_reducible refine (cubbyref07_Last.calls a0_0 t177 _ A11.out).mono ?_); (try clear A11); rintro e w' ⟨rfl, ⟨nd, rfl⟩⟩) | (go_at_call 27; (with_reducible refine (cubbyref07_bare.calls k a0_0 a0_1 a0_2 a0_3 a0_4 _ _ l0_5 t178 _ ?side1 ?side2 A14.out).mono ?_); (case side1 => repeat (first | exact (Kd.C_below HR0_5.out qB) | (with_reducible refine Kd.C_alloc ?_ _) | (with_reducible refine Kd.C_drewN ?_ _) | (with_reducible refine Kd.C_drew ?_))); (case side2 => exact HC0_5.out); (try clear A14); rintro e w16 ⟨rfl, hb⟩; replace BK176 := qW BK176 hb; replace HB := qH hb; (try clear hb)))
     go_meet
     case rel => exact ⟨_, (!t178), qT, H', ⟨qO⟩, ⟨qK BK176.out⟩, ⟨qB⟩⟩
 case rest =>
  clear HC5
  obtain ⟨kq, x28_4, rfl, HA, HJ4, BK176, HB⟩ := hcut
  cases kq with
  | zero => exact absurd HA.out (by simp [cubbyref07_One.j0])
  | succ kj4 =>
   have H := HA.out
   clear HA
   simp only [cubbyref07_One.j0] at H
   by_cases c17 : x28_4 = true
   ·subst c17
    have H1 : (some 72) = some r := by rw [zC rfl] at H; exact H
    clear H
    have H := H1
    clear H1
    obtain rfl := zI H
    go_wp2
    go_ret
    exact ⟨qE, qB⟩
   ·replace c17 := Bool.eq_false_iff.mpr c17
    subst c17
    have H1 : ((cubbyref07_Def.f a0_0 a0_1 a0_2 a0_3 a0_4 l0_5).bind fun t179 => (if t179 = (-1) then ((cubbyref07_Uses.f kj4 a0_0 a0_1 a0_2 a0_3 a0_4 l0_5).bind fun t180 => ((cubbyref07_within.f kj4 t180 a1).bind fun t183 => (cubbyref07_One.j1 kj4 a2 (!t183) a0_0 a0_1 a0_2 a0_3 a0_4 l0_5))) else ((cubbyref07_Def.f a0_0 a0_1 a0_2 a0_3 a0_4 l0_5).bind fun t184 => (if t184 < 0 then (cubbyref07_One.j1 kj4 a2 true a0_0 a0_1 a0_2 a0_3 a0_4 l0_5) else ((cubbyref07_Def.f a0_0 a0_1 a0_2 a0_3 a0_4 l0_5).bind fun t185 => (if t185 ≥ a1 then (cubbyref07_One.j1 kj4 a2 true a0_0 a0_1 a0_2 a0_3 a0_4 l0_5) else ((cubbyref07_Uses.f kj4 a0_0 a0_1 a0_2 a0_3 a0_4 l0_5).bind fun t186 => ((cubbyref07_within.f kj4 t186 a1).bind fun t189 => (cubbyref07_One.j1 kj4 a2 (!t189) a0_0 a0_1 a0_2 a0_3 a0_4 l0_5))))))))) = some r := by rw [zD (show ¬ (false = true) by decide)] at H; exact H
    clear H
    have H := H1
    clear H1
    have HC18 := zA H
    clear H
    go_upto_region 3 with (fail)
    go_cut [49] (fun v49 wc => ∃ (kq : Nat) (x49_17 : Bool), v49 = .bool x49_17 ∧ Aside0 (cubbyref07_One.j1 kq a2 x49_17 a0_0 a0_1 a0_2 a0_3 a0_4 l0_5 = some r) ∧ Aside0 (kq ≤ kj4) ∧ Aside0 (wc.heap[gb176]? = some (.cells #[.int .i64 a0_0, .int .i64 a0_1, .int .i64 a0_2, .int .i64 a0_3, .string a0_4, (.slice A0_5 l0_5.length c0_5)] 31 (0, 0))) ∧ Aside0 (Below w.heap.size w wc))
    case first =>
     have H := HC18.out
     clear HC18
     replace H := qb H; obtain ⟨t179, A19, H⟩ := H
     by_cases c20 : t179 = (-1)
     ·rw [zC c20] at H
      obtain ⟨c20b0, c20b1⟩ := qe c20; clear c20
      (first | rw [c20b0] | (simp only [i64_w, i32_w]; rw [c20b0]) | skip)
      replace H := qb H; obtain ⟨t180, A21, H⟩ := H
      replace H := qb H; obtain ⟨t183, A22, H⟩ := H
      have H' := zA H
      clear H
      have z23_0 := bk6 BK176.out
      go_wp2_with (first | ((with_reducible refine gate_callee (f := 28) rfl ?_); refine goesL_ (some 30) rfl rfl Tryd.func28 (by kernel_rfl) rfl #[.agg #[.int .i64 a0_0, .int .i64 a0_1, .int .i64 a0_2, .int .i64 a0_3, .string a0_4, .slice A0_5 l0_5.length c0_5]] rfl qL ?_; (with_reducible refine (cubbyref07_Def.calls a0_0 a0_1 a0_2 a0_3 a0_4 _ _ l0_5 t179 _ ?side1 ?side2 A19.out).mono ?_); (case side1 => exact qCB HR0_5.out); (case side2 => exact HC0_5.out); rintro e w24 ⟨rfl, hb⟩; refine ⟨_, rfl, ?_⟩; replace BK176 := qW BK176 hb; replace HB := qH hb; (try clear hb); have z25_0 := bk6 BK176.out) | (go_at_call 30; (with_reducible refine (cubbyref07_Uses.calls kj4 a0_0 a0_1 a0_2 a0_3 a0_4 _ _ l0_5 t180 _ ?side1 ?side2 A21.out).mono ?_); (case side1 => exact qCB HR0_5.out); (case side2 => exact HC0_5.out); (try clear A21); rintro e w26 ⟨v181, rfl, ho0, hb⟩; have HO182 := zA (Kd.R_lower ho0 (below_size qB)); replace BK176 := qW BK176 hb; replace HB := qH hb; (try clear hb); (try clear ho0); obtain ⟨Ao27, co27, eo27⟩ := Kd.R_slice HO182.out; subst eo27) | (go_at_call 29; (with_reducible refine (cubbyref07_within.calls kj4 _ _ t180 a1 t183 _ ?side1 ?side2 A22.out).mono ?_); (case side1 => repeat (first | exact (Kd.R_reads' HO182.out).2.2 | (with_reducible refine Kd.C_alloc ?_ _) | (with_reducible refine Kd.C_drewN ?_ _) | (with_reducible refine Kd.C_drew ?_))); (case side2 => exact (Kd.R_reads' HO182.out).2.1); (try clear A22); rintro e w' ⟨rfl, ⟨nd, rfl⟩⟩))
      go_meet
      case rel => exact ⟨_, (!t183), qT, H', ⟨by have := HJ4.out; first | omega | exact Nat.le_refl _⟩, ⟨qK BK176.out⟩, ⟨qB⟩⟩
     ·rw [zD c20] at H
      obtain ⟨c20b0, c20b1⟩ := qn c20
      (first | rw [c20b0] | (simp only [i64_w, i32_w]; rw [c20b0]) | skip)
      replace H := qb H; obtain ⟨t184, A28, H⟩ := H
      by_cases c29 : t184 < 0
      ·rw [zC c29] at H
       have c29b0 := zF c29
       clear c29
       have H' := zA H
       clear H
       have z30_0 := bk6 BK176.out
       go_wp2_with (first | ((with_reducible refine gate_callee (f := 28) rfl ?_); refine goesL_ (some 30) rfl rfl Tryd.func28 (by kernel_rfl) rfl #[.agg #[.int .i64 a0_0, .int .i64 a0_1, .int .i64 a0_2, .int .i64 a0_3, .string a0_4, .slice A0_5 l0_5.length c0_5]] rfl qL ?_; (with_reducible refine (cubbyref07_Def.calls a0_0 a0_1 a0_2 a0_3 a0_4 _ _ l0_5 t179 _ ?side1 ?side2 A19.out).mono ?_); (case side1 => exact qCB HR0_5.out); (case side2 => exact HC0_5.out); rintro e w31 ⟨rfl, hb⟩; refine ⟨_, rfl, ?_⟩; replace BK176 := qW BK176 hb; replace HB := qH hb; (try clear hb); have z32_0 := bk6 BK176.out) | (go_at_call 28; (with_reducible refine (cubbyref07_Def.calls a0_0 a0_1 a0_2 a0_3 a0_4 _ _ l0_5 t184 _ ?side1 ?side2 A28.out).mono ?_); (case side1 => exact qCB HR0_5.out); (case side2 => exact HC0_5.out); (try clear A28); rintro e w33 ⟨rfl, hb⟩; replace BK176 := qW BK176 hb; replace HB := qH hb; (try clear hb)))
       go_meet
       case rel => exact ⟨_, (true), qT, H', ⟨by have := HJ4.out; first | omega | exact Nat.le_refl _⟩, ⟨qK BK176.out⟩, ⟨qB⟩⟩
      ·rw [zD c29] at H
       have c29b0 := zG c29
       clear c29
       replace H := qb H; obtain ⟨t185, A34, H⟩ := H
       by_cases c35 : t185 ≥ a1
       ·rw [zC c35] at H
        have c35b0 : decide (a1 ≤ t185) = true := zF c35
        clear c35
        have H' := zA H
        clear H
        have z36_0 := bk6 BK176.out
        go_wp2_with (first | ((with_reducible refine gate_callee (f := 28) rfl ?_); refine goesL_ (some 30) rfl rfl Tryd.func28 (by kernel_rfl) rfl #[.agg #[.int .i64 a0_0, .int .i64 a0_1, .int .i64 a0_2, .int .i64 a0_3, .string a0_4, .slice A0_5 l0_5.length c0_5]] rfl qL ?_; (with_reducible refine (cubbyref07_Def.calls a0_0 a0_1 a0_2 a0_3 a0_4 _ _ l0_5 t179 _ ?side1 ?side2 A19.out).mono ?_); (case side1 => exact qCB HR0_5.out); (case side2 => exact HC0_5.out); rintro e w37 ⟨rfl, hb⟩; refine ⟨_, rfl, ?_⟩; replace BK176 := qW BK176 hb; replace HB := qH hb; (try clear hb); have z38_0 := bk6 BK176.out) | (go_at_call 28; (with_reducible refine (cubbyref07_Def.calls a0_0 a0_1 a0_2 a0_3 a0_4 _ _ l0_5 t184 _ ?side1 ?side2 A28.out).mono ?_); (case side1 => exact qCB HR0_5.out); (case side2 => exact HC0_5.out); (try clear A28); rintro e w39 ⟨rfl, hb⟩; replace BK176 := qW BK176 hb; replace HB := qH hb; (try clear hb); have z40_0 := bk6 BK176.out) | (go_at_call 28; (with_reducible refine (cubbyref07_Def.calls a0_0 a0_1 a0_2 a0_3 a0_4 _ _ l0_5 t185 _ ?side1 ?side2 A34.out).mono ?_); (case side1 => exact qCB HR0_5.out); (case side2 => exact HC0_5.out); (try clear A34); rintro e w41 ⟨rfl, hb⟩; replace BK176 := qW BK176 hb; replace HB := qH hb; (try clear hb)))
        go_meet
        case rel => exact ⟨_, (true), qT, H', ⟨by have := HJ4.out; first | omega | exact Nat.le_refl _⟩, ⟨qK BK176.out⟩, ⟨qB⟩⟩
       ·rw [zD c35] at H
        have c35b0 : decide (a1 ≤ t185) = false := zG c35
        clear c35
        replace H := qb H; obtain ⟨t186, A42, H⟩ := H
        replace H := qb H; obtain ⟨t189, A43, H⟩ := H
        have H' := zA H
        clear H
        have z44_0 := bk6 BK176.out
        go_wp2_with (first | ((with_reducible refine gate_callee (f := 28) rfl ?_); refine goesL_ (some 30) rfl rfl Tryd.func28 (by kernel_rfl) rfl #[.agg #[.int .i64 a0_0, .int .i64 a0_1, .int .i64 a0_2, .int .i64 a0_3, .string a0_4, .slice A0_5 l0_5.length c0_5]] rfl qL ?_; (with_reducible refine (cubbyref07_Def.calls a0_0 a0_1 a0_2 a0_3 a0_4 _ _ l0_5 t179 _ ?side1 ?side2 A19.out).mono ?_); (case side1 => exact qCB HR0_5.out); (case side2 => exact HC0_5.out); rintro e w45 ⟨rfl, hb⟩; refine ⟨_, rfl, ?_⟩; replace BK176 := qW BK176 hb; replace HB := qH hb; (try clear hb); have z46_0 := bk6 BK176.out) | (go_at_call 28; (with_reducible refine (cubbyref07_Def.calls a0_0 a0_1 a0_2 a0_3 a0_4 _ _ l0_5 t184 _ ?side1 ?side2 A28.out).mono ?_); (case side1 => exact qCB HR0_5.out); (case side2 => exact HC0_5.out); (try clear A28); rintro e w47 ⟨rfl, hb⟩; replace BK176 := qW BK176 hb; replace HB := qH hb; (try clear hb); have z48_0 := bk6 BK176.out) | (go_at_call 28; (with_reducible refine (cubbyref07_Def.calls a0_0 a0_1 a0_2 a0_3 a0_4 _ _ l0_5 t185 _ ?side1 ?side2 A34.out).mono ?_); (case side1 => exact qCB HR0_5.out); (case side2 => exact HC0_5.out); (try clear A34); rintro e w49 ⟨rfl, hb⟩; replace BK176 := qW BK176 hb; replace HB := qH hb; (try clear hb); have z50_0 := bk6 BK176.out) | (go_at_call 30; (with_reducible refine (cubbyref07_Uses.calls kj4 a0_0 a0_1 a0_2 a0_3 a0_4 _ _ l0_5 t186 _ ?side1 ?side2 A42.out).mono ?_); (case side1 => exact qCB HR0_5.out); (case side2 => exact HC0_5.out); (try clear A42); rintro e w51 ⟨v187, rfl, ho0, hb⟩; have HO188 := zA (Kd.R_lower ho0 (below_size qB)); replace BK176 := qW BK176 hb; replace HB := qH hb; (try clear hb); (try clear ho0); obtain ⟨Ao52, co52, eo52⟩ := Kd.R_slice HO188.out; subst eo52) | (go_at_call 29; (with_reducible refine (cubbyref07_within.calls kj4 _ _ t186 a1 t189 _ ?side1 ?side2 A43.out).mono ?_); (case side1 => repeat (first | exact (Kd.R_reads' HO188.out).2.2 | (with_reducible refine Kd.C_alloc ?_ _) | (with_reducible refine Kd.C_drewN ?_ _) | (with_reducible refine Kd.C_drew ?_))); (case side2 => exact (Kd.R_reads' HO188.out).2.1); (try clear A43); rintro e w' ⟨rfl, ⟨nd, rfl⟩⟩))
        go_meet
        case rel => exact ⟨_, (!t189), qT, H', ⟨by have := HJ4.out; first | omega | exact Nat.le_refl _⟩, ⟨qK BK176.out⟩, ⟨qB⟩⟩
    case rest =>
     clear HC18
     obtain ⟨kq, x49_17, rfl, HA, HJ17, BK176, HB⟩ := hcut
     cases kq with
     | zero => exact absurd HA.out (by simp [cubbyref07_One.j1])
     | succ kj17 =>
      have H := HA.out
      clear HA
      simp only [cubbyref07_One.j1] at H
      by_cases c53 : x49_17 = true
      ·subst c53
       have H1 : (some 73) = some r := by rw [zC rfl] at H; exact H
       clear H
       have H := H1
       clear H1
       obtain rfl := zI H
       go_wp2
       go_ret
       exact ⟨qE, qB⟩
      ·replace c53 := Bool.eq_false_iff.mpr c53
       subst c53
       have H1 : ((cubbyref07_Def.f a0_0 a0_1 a0_2 a0_3 a0_4 l0_5).bind fun t190 => (if t190 = (-1) then (if a0_0 = 9 then (cubbyref07_One.j2 kj17 a2 false a0_0 a0_1 a0_2 a0_3 a0_4 l0_5) else (if a0_0 = 10 then (cubbyref07_One.j2 kj17 a2 false a0_0 a0_1 a0_2 a0_3 a0_4 l0_5) else ((cubbyref07_Last.f a0_0).bind fun t191 => (cubbyref07_One.j2 kj17 a2 (!t191) a0_0 a0_1 a0_2 a0_3 a0_4 l0_5)))) else (cubbyref07_One.j2 kj17 a2 false a0_0 a0_1 a0_2 a0_3 a0_4 l0_5))) = some r := by rw [zD (show ¬ (false = true) by decide)] at H; exact H
       clear H
       have H := H1
       clear H1
       have HC54 := zA H
       clear H
       go_upto_region 5 with (fail)
       go_cut [68] (fun v68 wc => ∃ (kq : Nat) (x68_53 : Bool), v68 = .bool x68_53 ∧ Aside0 (cubbyref07_One.j2 kq a2 x68_53 a0_0 a0_1 a0_2 a0_3 a0_4 l0_5 = some r) ∧ Aside0 (kq ≤ kj17) ∧ Aside0 (wc.heap[gb176]? = some (.cells #[.int .i64 a0_0, .int .i64 a0_1, .int .i64 a0_2, .int .i64 a0_3, .string a0_4, (.slice A0_5 l0_5.length c0_5)] 31 (0, 0))) ∧ Aside0 (Below w.heap.size w wc))
       case first =>
        have H := HC54.out
        clear HC54
        replace H := qb H; obtain ⟨t190, A55, H⟩ := H
        by_cases c56 : t190 = (-1)
        ·rw [zC c56] at H
         obtain ⟨c56b0, c56b1⟩ := qe c56; clear c56
         (first | rw [c56b0] | (simp only [i64_w, i32_w]; rw [c56b0]) | skip)
         by_cases c57 : a0_0 = 9
         ·rw [zC c57] at H
          obtain ⟨c57b0, c57b1⟩ := qe c57; clear c57
          have H' := zA H
          clear H
          have z58_0 := bk6 BK176.out
          go_wp2_with (first | ((with_reducible refine gate_callee (f := 28) rfl ?_); refine goesL_ (some 51) rfl rfl Tryd.func28 (by kernel_rfl) rfl #[.agg #[.int .i64 a0_0, .int .i64 a0_1, .int .i64 a0_2, .int .i64 a0_3, .string a0_4, .slice A0_5 l0_5.length c0_5]] rfl qL ?_; (with_reducible refine (cubbyref07_Def.calls a0_0 a0_1 a0_2 a0_3 a0_4 _ _ l0_5 t190 _ ?side1 ?side2 A55.out).mono ?_); (case side1 => exact qCB HR0_5.out); (case side2 => exact HC0_5.out); rintro e w59 ⟨rfl, hb⟩; refine ⟨_, rfl, ?_⟩; replace BK176 := qW BK176 hb; replace HB := qH hb; (try clear hb); have z60_0 := bk6 BK176.out))
          go_meet
          case rel => exact ⟨_, (false), qT, H', ⟨by have := HJ4.out; have := HJ17.out; first | omega | exact Nat.le_refl _⟩, ⟨qK BK176.out⟩, ⟨qB⟩⟩
         ·rw [zD c57] at H
          obtain ⟨c57b0, c57b1⟩ := qn c57
          by_cases c61 : a0_0 = 10
          ·rw [zC c61] at H
           obtain ⟨c61b0, c61b1⟩ := qe c61; clear c61
           have H' := zA H
           clear H
           have z62_0 := bk6 BK176.out
           go_wp2_with (first | ((with_reducible refine gate_callee (f := 28) rfl ?_); refine goesL_ (some 51) rfl rfl Tryd.func28 (by kernel_rfl) rfl #[.agg #[.int .i64 a0_0, .int .i64 a0_1, .int .i64 a0_2, .int .i64 a0_3, .string a0_4, .slice A0_5 l0_5.length c0_5]] rfl qL ?_; (with_reducible refine (cubbyref07_Def.calls a0_0 a0_1 a0_2 a0_3 a0_4 _ _ l0_5 t190 _ ?side1 ?side2 A55.out).mono ?_); (case side1 => exact qCB HR0_5.out); (case side2 => exact HC0_5.out); rintro e w63 ⟨rfl, hb⟩; refine ⟨_, rfl, ?_⟩; replace BK176 := qW BK176 hb; replace HB := qH hb; (try clear hb); have z64_0 := bk6 BK176.out))
           go_meet
           case rel => exact ⟨_, (false), qT, H', ⟨by have := HJ4.out; have := HJ17.out; first | omega | exact Nat.le_refl _⟩, ⟨qK BK176.out⟩, ⟨qB⟩⟩
          ·rw [zD c61] at H
           obtain ⟨c61b0, c61b1⟩ := qn c61
           replace H := qb H; obtain ⟨t191, A65, H⟩ := H
           have H' := zA H
           clear H
           have z66_0 := bk6 BK176.out
           go_wp2_with (first | ((with_reducible refine gate_callee (f := 28) rfl ?_); refine goesL_ (some 51) rfl rfl Tryd.func28 (by kernel_rfl) rfl #[.agg #[.int .i64 a0_0, .int .i64 a0_1, .int .i64 a0_2, .int .i64 a0_3, .string a0_4, .slice A0_5 l0_5.length c0_5]] rfl qL ?_; (with_reducible refine (cubbyref07_Def.calls a0_0 a0_1 a0_2 a0_3 a0_4 _ _ l0_5 t190 _ ?side1 ?side2 A55.out).mono ?_); (case side1 => exact qCB HR0_5.out); (case side2 => exact HC0_5.out); rintro e w67 ⟨rfl, hb⟩; refine ⟨_, rfl, ?_⟩; replace BK176 := qW BK176 hb; replace HB := qH hb; (try clear hb); have z68_0 := bk6 BK176.out) | (go_at_call 26; (with_reducible refine (cubbyref07_Last.calls a0_0 t191 _ A65.out).mono ?_); (try clear A65); rintro e w' ⟨rfl, ⟨nd, rfl⟩⟩))
           go_meet
           case rel => exact ⟨_, (!t191), qT, H', ⟨by have := HJ4.out; have := HJ17.out; first | omega | exact Nat.le_refl _⟩, ⟨qK BK176.out⟩, ⟨qB⟩⟩
        ·rw [zD c56] at H
         obtain ⟨c56b0, c56b1⟩ := qn c56
         (first | rw [c56b0] | (simp only [i64_w, i32_w]; rw [c56b0]) | skip)
         have H' := zA H
         clear H
         have z69_0 := bk6 BK176.out
         go_wp2_with (first | ((with_reducible refine gate_callee (f := 28) rfl ?_); refine goesL_ (some 51) rfl rfl Tryd.func28 (by kernel_rfl) rfl #[.agg #[.int .i64 a0_0, .int .i64 a0_1, .int .i64 a0_2, .int .i64 a0_3, .string a0_4, .slice A0_5 l0_5.length c0_5]] rfl qL ?_; (with_reducible refine (cubbyref07_Def.calls a0_0 a0_1 a0_2 a0_3 a0_4 _ _ l0_5 t190 _ ?side1 ?side2 A55.out).mono ?_); (case side1 => exact qCB HR0_5.out); (case side2 => exact HC0_5.out); rintro e w70 ⟨rfl, hb⟩; refine ⟨_, rfl, ?_⟩; replace BK176 := qW BK176 hb; replace HB := qH hb; (try clear hb)))
         go_meet
         case rel => exact ⟨_, (false), qT, H', ⟨by have := HJ4.out; have := HJ17.out; first | omega | exact Nat.le_refl _⟩, ⟨qK BK176.out⟩, ⟨qB⟩⟩
       case rest =>
        clear HC54
        obtain ⟨kq, x68_53, rfl, HA, HJ53, BK176, HB⟩ := hcut
        cases kq with
        | zero => exact absurd HA.out (by simp [cubbyref07_One.j2])
        | succ kj53 =>
         have H := HA.out
         clear HA
         simp only [cubbyref07_One.j2] at H
         by_cases c71 : x68_53 = true
         ·subst c71
          have H1 : (some 73) = some r := by rw [zC rfl] at H; exact H
          clear H
          have H := H1
          clear H1
          obtain rfl := zI H
          go_wp2
          go_ret
          exact ⟨qE, qB⟩
         ·replace c71 := Bool.eq_false_iff.mpr c71
          subst c71
          have H1 : (if a0_0 = 1 then (if a0_2 < 0 then (cubbyref07_One.j3 kj53 a2 true a0_0 a0_1 a0_2 a0_3 a0_4 l0_5) else (cubbyref07_One.j3 kj53 a2 (decide (a0_2 ≥ 65536)) a0_0 a0_1 a0_2 a0_3 a0_4 l0_5)) else (cubbyref07_One.j3 kj53 a2 false a0_0 a0_1 a0_2 a0_3 a0_4 l0_5)) = some r := by rw [zD (show ¬ (false = true) by decide)] at H; exact H
          clear H
          have H := H1
          clear H1
          have HC72 := zA H
          clear H
          go_upto_region 7 with (fail)
          go_cut [81] (fun v81 wc => ∃ (kq : Nat) (x81_71 : Bool), v81 = .bool x81_71 ∧ Aside0 (cubbyref07_One.j3 kq a2 x81_71 a0_0 a0_1 a0_2 a0_3 a0_4 l0_5 = some r) ∧ Aside0 (kq ≤ kj53) ∧ Aside0 (wc.heap[gb176]? = some (.cells #[.int .i64 a0_0, .int .i64 a0_1, .int .i64 a0_2, .int .i64 a0_3, .string a0_4, (.slice A0_5 l0_5.length c0_5)] 31 (0, 0))) ∧ Aside0 (Below w.heap.size w wc))
          case first =>
           have H := HC72.out
           clear HC72
           by_cases c73 : a0_0 = 1
           ·rw [zC c73] at H
            obtain ⟨c73b0, c73b1⟩ := qe c73; clear c73
            (first | rw [c73b0] | (simp only [i64_w, i32_w]; rw [c73b0]) | skip)
            by_cases c74 : a0_2 < 0
            ·rw [zC c74] at H
             have c74b0 := zF c74
             clear c74
             have H' := zA H
             clear H
             have z75_0 := bk6 BK176.out
             go_wp2
             go_meet
             case rel => exact ⟨_, (true), qT, H', ⟨by have := HJ4.out; have := HJ17.out; have := HJ53.out; first | omega | exact Nat.le_refl _⟩, ⟨qK BK176.out⟩, ⟨qB⟩⟩
            ·rw [zD c74] at H
             have c74b0 := zG c74
             clear c74
             have H' := zA H
             clear H
             have z76_0 := bk6 BK176.out
             go_wp2
             go_meet
             case rel => exact ⟨_, (decide (a0_2 ≥ 65536)), qT, H', ⟨by have := HJ4.out; have := HJ17.out; have := HJ53.out; first | omega | exact Nat.le_refl _⟩, ⟨qK BK176.out⟩, ⟨qB⟩⟩
           ·rw [zD c73] at H
            obtain ⟨c73b0, c73b1⟩ := qn c73
            (first | rw [c73b0] | (simp only [i64_w, i32_w]; rw [c73b0]) | skip)
            have H' := zA H
            clear H
            have z77_0 := bk6 BK176.out
            go_wp2
            go_meet
            case rel => exact ⟨_, (false), qT, H', ⟨by have := HJ4.out; have := HJ17.out; have := HJ53.out; first | omega | exact Nat.le_refl _⟩, ⟨qK BK176.out⟩, ⟨qB⟩⟩
          case rest =>
           clear HC72
           obtain ⟨kq, x81_71, rfl, HA, HJ71, BK176, HB⟩ := hcut
           cases kq with
           | zero => exact absurd HA.out (by simp [cubbyref07_One.j3])
           | succ kj71 =>
            have H := HA.out
            clear HA
            simp only [cubbyref07_One.j3] at H
            by_cases c78 : x81_71 = true
            ·subst c78
             have H1 : (some 81) = some r := by rw [zC rfl] at H; exact H
             clear H
             have H := H1
             clear H1
             obtain rfl := zI H
             go_wp2
             go_ret
             exact ⟨qE, qB⟩
            ·replace c78 := Bool.eq_false_iff.mpr c78
             subst c78
             have H1 : ((cubbyref07_Targets.f a0_0 a0_1 a0_2 a0_3 a0_4 l0_5).bind fun t192 => ((cubbyref07_within.f kj71 t192 a2).bind fun t195 => (if t195 = true then (if a0_0 = 11 then ((cubbyref07_Name.f kj71 a0_4).bind fun t196 => (cubbyref07_One.j4 kj71 (!t196) a0_0 a0_1 a0_2 a0_3 a0_4 l0_5)) else (cubbyref07_One.j4 kj71 false a0_0 a0_1 a0_2 a0_3 a0_4 l0_5)) else (some 74)))) = some r := by rw [zD (show ¬ (false = true) by decide)] at H; exact H
             clear H
             have H := H1
             clear H1
             replace H := qb H; obtain ⟨t192, A79, H⟩ := H
             replace H := qb H; obtain ⟨t195, A80, H⟩ := H
             by_cases c81 : t195 = true
             ·subst c81
              have H1 : (if a0_0 = 11 then ((cubbyref07_Name.f kj71 a0_4).bind fun t196 => (cubbyref07_One.j4 kj71 (!t196) a0_0 a0_1 a0_2 a0_3 a0_4 l0_5)) else (cubbyref07_One.j4 kj71 false a0_0 a0_1 a0_2 a0_3 a0_4 l0_5)) = some r := by rw [zC rfl] at H; exact H
              clear H
              have H := H1
              clear H1
              have HC82 := zA H
              clear H
              have z83_0 := bk6 BK176.out
              go_upto_region 11 with (first | ((with_reducible refine gate_callee (f := 31) rfl ?_); refine goesL_ (some 83) rfl rfl Tryd.func31 (by kernel_rfl) rfl #[.agg #[.int .i64 a0_0, .int .i64 a0_1, .int .i64 a0_2, .int .i64 a0_3, .string a0_4, .slice A0_5 l0_5.length c0_5]] rfl qL ?_; (with_reducible refine (cubbyref07_Targets.calls a0_0 a0_1 a0_2 a0_3 a0_4 _ _ l0_5 t192 _ ?side1 ?side2 A79.out).mono ?_); (case side1 => exact qCB HR0_5.out); (case side2 => exact HC0_5.out); rintro e w84 ⟨v193, rfl, ho0, hb⟩; refine ⟨_, rfl, ?_⟩; have HO194 := zA (Kd.R_lower ho0 (below_size qB)); replace BK176 := qW BK176 hb; replace HB := qH hb; (try clear hb); (try clear ho0); obtain ⟨Ao85, co85, eo85⟩ := Kd.R_slice HO194.out; subst eo85) | ((with_reducible refine gate_callee (f := 29) rfl ?_); refine goesL_ (some 85) rfl rfl Tryd.func29 (by kernel_rfl) rfl #[.slice Ao85 t192.length co85, .int .i64 a2] rfl qL ?_; (with_reducible refine (cubbyref07_within.calls kj71 _ _ t192 a2 true _ ?side1 ?side2 A80.out).mono ?_); (case side1 => repeat (first | exact (Kd.R_reads' HO194.out).2.2 | (with_reducible refine Kd.C_alloc ?_ _) | (with_reducible refine Kd.C_drewN ?_ _) | (with_reducible refine Kd.C_drew ?_))); (case side2 => exact (Kd.R_reads' HO194.out).2.1); rintro e w' ⟨rfl, ⟨nd, rfl⟩⟩; refine ⟨_, rfl, ?_⟩))
              (try simp only [Act.put, List.setIfInBounds_toArray, List.set_cons_zero, List.set_cons_succ])
              go_cut [95] (fun v95 wc => ∃ (kq : Nat) (x95_81 : Bool), v95 = .bool x95_81 ∧ Aside0 (cubbyref07_One.j4 kq x95_81 a0_0 a0_1 a0_2 a0_3 a0_4 l0_5 = some r) ∧ Aside0 (kq ≤ kj71) ∧ Aside0 (wc.heap[gb176]? = some (.cells #[.int .i64 a0_0, .int .i64 a0_1, .int .i64 a0_2, .int .i64 a0_3, .string a0_4, (.slice A0_5 l0_5.length c0_5)] 31 (0, 0))) ∧ Aside0 (Below w.heap.size w wc))
              case first =>
               have H := HC82.out
               clear HC82
               by_cases c86 : a0_0 = 11
               ·rw [zC c86] at H
                obtain ⟨c86b0, c86b1⟩ := qe c86; clear c86
                (first | rw [c86b0] | (simp only [i64_w, i32_w]; rw [c86b0]) | skip)
                replace H := qb H; obtain ⟨t196, A87, H⟩ := H
                have H' := zA H
                clear H
                have z88_0 := bk6 BK176.out
                go_wp2_with (first | (go_at_call 13; (with_reducible refine (cubbyref07_Name.calls kj71 a0_4 t196 _ A87.out).mono ?_); (try clear A87); rintro e w' ⟨rfl, ⟨nd, rfl⟩⟩))
                go_meet
                case rel => exact ⟨_, (!t196), qT, H', ⟨by have := HJ4.out; have := HJ17.out; have := HJ53.out; have := HJ71.out; first | omega | exact Nat.le_refl _⟩, ⟨qK BK176.out⟩, ⟨qB⟩⟩
               ·rw [zD c86] at H
                obtain ⟨c86b0, c86b1⟩ := qn c86
                (first | rw [c86b0] | (simp only [i64_w, i32_w]; rw [c86b0]) | skip)
                have H' := zA H
                clear H
                have z89_0 := bk6 BK176.out
                go_wp2
                go_meet
                case rel => exact ⟨_, (false), qT, H', ⟨by have := HJ4.out; have := HJ17.out; have := HJ53.out; have := HJ71.out; first | omega | exact Nat.le_refl _⟩, ⟨qK BK176.out⟩, ⟨qB⟩⟩
              case rest =>
               clear HC82
               obtain ⟨kq, x95_81, rfl, HA, HJ81, BK176, HB⟩ := hcut
               cases kq with
               | zero => exact absurd HA.out (by simp [cubbyref07_One.j4])
               | succ kj81 =>
                have H := HA.out
                clear HA
                simp only [cubbyref07_One.j4] at H
                by_cases c90 : x95_81 = true
                ·subst c90
                 have H1 : (some 70) = some r := by rw [zC rfl] at H; exact H
                 clear H
                 have H := H1
                 clear H1
                 obtain rfl := zI H
                 go_wp2
                 go_ret
                 exact ⟨qE, qB⟩
                ·replace c90 := Bool.eq_false_iff.mpr c90
                 subst c90
                 have H1 : (if a0_0 = 11 then (if (l0_5.length : Int) > 4 then (some 192) else (some 0)) else (some 0)) = some r := by rw [zD (show ¬ (false = true) by decide)] at H; exact H
                 clear H
                 have H := H1
                 clear H1
                 by_cases c91 : a0_0 = 11
                 ·rw [zC c91] at H
                  obtain ⟨c91b0, c91b1⟩ := qe c91; clear c91
                  by_cases c92 : (l0_5.length : Int) > 4
                  ·rw [zC c92] at H
                   have c92b0 : decide (4 < (l0_5.length : Int)) = true := zF c92
                   have c92b1 : decide (4 < l0_5.length) = true := zF (by omega)
                   clear c92
                   obtain rfl := zI H
                   have z93_0 := bk6 BK176.out
                   go_wp2
                   go_ret
                   exact ⟨qE, qB⟩
                  ·rw [zD c92] at H
                   have c92b0 : decide (4 < (l0_5.length : Int)) = false := zG c92
                   have c92b1 : decide (4 < l0_5.length) = false := zG (by omega)
                   clear c92
                   obtain rfl := zI H
                   have z94_0 := bk6 BK176.out
                   go_wp2
                   go_ret
                   exact ⟨qE, qB⟩
                 ·rw [zD c91] at H
                  obtain ⟨c91b0, c91b1⟩ := qn c91
                  obtain rfl := zI H
                  have z95_0 := bk6 BK176.out
                  go_wp2
                  go_ret
                  exact ⟨qE, qB⟩
             ·replace c81 := Bool.eq_false_iff.mpr c81
              subst c81
              have H1 : (some 74) = some r := by rw [zD (show ¬ (false = true) by decide)] at H; exact H
              clear H
              have H := H1
              clear H1
              obtain rfl := zI H
              have z96_0 := bk6 BK176.out
              go_wp2_with (first | ((with_reducible refine gate_callee (f := 31) rfl ?_); refine goesL_ (some 83) rfl rfl Tryd.func31 (by kernel_rfl) rfl #[.agg #[.int .i64 a0_0, .int .i64 a0_1, .int .i64 a0_2, .int .i64 a0_3, .string a0_4, .slice A0_5 l0_5.length c0_5]] rfl qL ?_; (with_reducible refine (cubbyref07_Targets.calls a0_0 a0_1 a0_2 a0_3 a0_4 _ _ l0_5 t192 _ ?side1 ?side2 A79.out).mono ?_); (case side1 => exact qCB HR0_5.out); (case side2 => exact HC0_5.out); rintro e w97 ⟨v193, rfl, ho0, hb⟩; refine ⟨_, rfl, ?_⟩; have HO194 := zA (Kd.R_lower ho0 (below_size qB)); replace BK176 := qW BK176 hb; replace HB := qH hb; (try clear hb); (try clear ho0); obtain ⟨Ao98, co98, eo98⟩ := Kd.R_slice HO194.out; subst eo98) | ((with_reducible refine gate_callee (f := 29) rfl ?_); refine goesL_ (some 85) rfl rfl Tryd.func29 (by kernel_rfl) rfl #[.slice Ao98 t192.length co98, .int .i64 a2] rfl qL ?_; (with_reducible refine (cubbyref07_within.calls kj71 _ _ t192 a2 false _ ?side1 ?side2 A80.out).mono ?_); (case side1 => repeat (first | exact (Kd.R_reads' HO194.out).2.2 | (with_reducible refine Kd.C_alloc ?_ _) | (with_reducible refine Kd.C_drewN ?_ _) | (with_reducible refine Kd.C_drew ?_))); (case side2 => exact (Kd.R_reads' HO194.out).2.1); rintro e w' ⟨rfl, ⟨nd, rfl⟩⟩; refine ⟨_, rfl, ?_⟩))
              go_ret
              exact ⟨qE, qB⟩

mutual
def cubbyref13_one.j0 : Nat → Bool → Int → Bool → Int → Int → Int → Int → ByteArray → List Int → ByteArray → Int → Int → Int → List (List (SIns)) → Option (Int)
 | 0, _, _, _, _, _, _, _, _, _, _, _, _, _, _ => none
 | k + 1, x2, x8, x9, x286000, x286001, x286002, x286003, x286004, x286005, x287000, x287001, x287002, x287003, x287004 => if x9 = true then (if x2 = true then (cubbyref13_one.j1 k true x286000 x286001 x286002 x286003 x286004 x286005 x287000 x287001 x287002 x287003 x287004) else (if x286003 = 0 then (if x286004.toList = ([] : List UInt8) then (cubbyref13_one.j1 k (decide ((x286005.length : Int) > 0)) x286000 x286001 x286002 x286003 x286004 x286005 x287000 x287001 x287002 x287003 x287004) else (cubbyref13_one.j1 k true x286000 x286001 x286002 x286003 x286004 x286005 x287000 x287001 x287002 x287003 x287004)) else (cubbyref13_one.j1 k true x286000 x286001 x286002 x286003 x286004 x286005 x287000 x287001 x287002 x287003 x287004))) else (if x8 = 11 then (if x2 = true then (cubbyref13_one.j2 k true x286000 x286001 x286002 x286003 x286004 x286005) else (if x286001 = 0 then (if x286003 = 0 then (cubbyref13_one.j2 k (decide ((x286005.length : Int) > 0)) x286000 x286001 x286002 x286003 x286004 x286005) else (cubbyref13_one.j2 k true x286000 x286001 x286002 x286003 x286004 x286005)) else (cubbyref13_one.j2 k true x286000 x286001 x286002 x286003 x286004 x286005))) else ((cubbyref07_One.f k x286000 x286001 x286002 x286003 x286004 x286005 x287002 (x287004.length : Int) x2).bind fun t295 => (some t295)))
def cubbyref13_one.j1 : Nat → Bool → Int → Int → Int → Int → ByteArray → List Int → ByteArray → Int → Int → Int → List (List (SIns)) → Option (Int)
 | 0, _, _, _, _, _, _, _, _, _, _, _, _ => none
 | k + 1, x28, x286000, x286001, x286002, x286003, x286004, x286005, x287000, x287001, x287002, x287003, x287004 => if x28 = true then (some 72) else (if x286000 = 21 then ((cubbyref13_in.f x286001 x287002).bind fun t287 => (if t287 = true then ((cubbyref13_in.f x286002 x287003).bind fun t288 => (if t288 = true then (if x286000 = 22 then ((cubbyref13_in.f x286001 x287003).bind fun t289 => (if t289 = true then ((cubbyref13_in.f x286002 x287002).bind fun t290 => (if t290 = true then (some 0) else (some 73))) else (some 73))) else (some 0)) else (some 73))) else (some 73))) else (if x286000 = 22 then ((cubbyref13_in.f x286001 x287003).bind fun t291 => (if t291 = true then ((cubbyref13_in.f x286002 x287002).bind fun t292 => (if t292 = true then (some 0) else (some 73))) else (some 73))) else (some 0)))
def cubbyref13_one.j2 : Nat → Bool → Int → Int → Int → Int → ByteArray → List Int → Option (Int)
 | 0, _, _, _, _, _, _, _ => none
 | k + 1, x87, x286000, x286001, x286002, x286003, x286004, x286005 => if x87 = true then (some 72) else ((cubbyref07_Name.f k x286004).bind fun t293 => (if t293 = true then ((cubbyref13_in.f x286002 5).bind fun t294 => (if t294 = true then (some 0) else (some 192))) else (some 70)))
end
def cubbyref13_one.f (k : Nat) (a0_0 : Int) (a0_1 : Int) (a0_2 : Int) (a0_3 : Int) (a0_4 : ByteArray) (l0_5 : List Int) (a1_0 : ByteArray) (a1_1 : Int) (a1_2 : Int) (a1_3 : Int) (l1_4 : List (List (SIns))) (a2 : Bool) : Option (Int) := if a0_0 = 21 then (cubbyref13_one.j0 k a2 a0_0 (a0_0 == 21) a0_0 a0_1 a0_2 a0_3 a0_4 l0_5 a1_0 a1_1 a1_2 a1_3 l1_4) else (cubbyref13_one.j0 k a2 a0_0 (a0_0 == 22) a0_0 a0_1 a0_2 a0_3 a0_4 l0_5 a1_0 a1_1 a1_2 a1_3 l1_4)
set_option maxHeartbeats 8000000 in
set_option maxRecDepth 100000 in
theorem cubbyref13_one.calls (k : Nat) (a0_0 : Int) (a0_1 : Int) (a0_2 : Int) (a0_3 : Int) (a0_4 : ByteArray) (A0_5 : Option Addr) (c0_5 : Nat) (l0_5 : List Int) (a1_0 : ByteArray) (a1_1 : Int) (a1_2 : Int) (a1_3 : Int) (A1_4 : Option Addr) (c1_4 : Nat) (l1_4 : List (List (SIns))) (a2 : Bool) (r : Int) (w : World) (hr0_5 : Kd.C (Kd.int .i64) w A0_5 l0_5.length l0_5) (hc0_5 : l0_5.length ≤ c0_5) (hr1_4 : Kd.C (Kd.slice 31 kIns) w A1_4 l1_4.length l1_4) (hc1_4 : l1_4.length ≤ c1_4) (h : cubbyref13_one.f k a0_0 a0_1 a0_2 a0_3 a0_4 l0_5 a1_0 a1_1 a1_2 a1_3 l1_4 a2 = some r) :
 Calls Tryd.prog 19 #[.agg #[.int .i64 a0_0, .int .i64 a0_1, .int .i64 a0_2, .int .i64 a0_3, .string a0_4, .slice A0_5 l0_5.length c0_5], .agg #[.string a1_0, .int .i64 a1_1, .int .i64 a1_2, .int .i64 a1_3, .slice A1_4 l1_4.length c1_4], .bool a2] w fun e w' => e = .returned (.int .i64 r) ∧ Below w.heap.size w w' := by
 have hu31 := Tryd.underlying31
 have hu34 := Tryd.underlying34
 have HR0_5 := zA hr0_5
 have HC0_5 := zA hc0_5
 clear hr0_5 hc0_5
 have HR1_4 := zA hr1_4
 have HC1_4 := zA hc1_4
 clear hr1_4 hc1_4
 have HB := zA (Below.refl w.heap.size w)
 have H := h; clear h; unfold cubbyref13_one.f at H
 have HC4 := zA H
 clear H
 go_enter Tryd.func19, Tryd.ntmps19
 go_upto_if 9 with (first | ((with_reducible refine gate_dst (N := 3) rfl ?_); (try (refine gate_guard (by rfl) ?_; dsimp only)); refine box_event (by rfl) (N := 3) (by rfl) (cs := #[.int .i64 a0_0, .int .i64 a0_1, .int .i64 a0_2, .int .i64 a0_3, .string a0_4, .slice A0_5 l0_5.length c0_5]) (t := 31) ?hr ?_; (case hr => go_simp <;> rfl); intro gb285 hg w5 hbox hb; have BK285 := zA (hbox); have GW285 := qG hg; have GE285 := GW285; replace HB := qH hb; clear hb hbox hg) | ((with_reducible refine gate_dst (N := 4) rfl ?_); (try (refine gate_guard (by rfl) ?_; dsimp only)); refine box_event (by rfl) (N := 4) (by rfl) (cs := #[.string a1_0, .int .i64 a1_1, .int .i64 a1_2, .int .i64 a1_3, .slice A1_4 l1_4.length c1_4]) (t := 34) ?hr ?_; (case hr => go_simp <;> rfl); intro gb286 hg w6 hbox hb; have BK286 := zA (hbox); have GW286 := qG hg; have GE286 := GW286; replace HB := qH hb; have NB285_286 := zA ((by rw [hg]; exact Nat.ne_of_lt (blk_lt (g := gb285) (o := .cells #[.int .i64 a0_0, .int .i64 a0_1, .int .i64 a0_2, .int .i64 a0_3, .string a0_4, .slice A0_5 l0_5.length c0_5] 31 (0, 0)) (qK BK285.out)) : gb285 ≠ gb286)); have NB286_285 := zA ((by rw [hg]; exact Nat.ne_of_gt (blk_lt (g := gb285) (o := .cells #[.int .i64 a0_0, .int .i64 a0_1, .int .i64 a0_2, .int .i64 a0_3, .string a0_4, .slice A0_5 l0_5.length c0_5] 31 (0, 0)) (qK BK285.out)) : gb286 ≠ gb285)); replace BK285 := qW BK285 hb; clear hb hbox hg; have hnb7 := NB285_286.out; have hnc7 := NB286_285.out; have z8_0 := bk6 BK285.out))
 (try simp only [Act.put, List.setIfInBounds_toArray, List.set_cons_zero, List.set_cons_succ])
 go_cut [9] (fun v9 wc => ∃ (kq : Nat) (x9_3 : Bool), v9 = .bool x9_3 ∧ Aside0 (cubbyref13_one.j0 kq a2 a0_0 x9_3 a0_0 a0_1 a0_2 a0_3 a0_4 l0_5 a1_0 a1_1 a1_2 a1_3 l1_4 = some r) ∧ Aside0 (kq ≤ k) ∧ Aside0 (wc.heap[gb285]? = some (.cells #[.int .i64 a0_0, .int .i64 a0_1, .int .i64 a0_2, .int .i64 a0_3, .string a0_4, (.slice A0_5 l0_5.length c0_5)] 31 (0, 0))) ∧ Aside0 (wc.heap[gb286]? = some (.cells #[.string a1_0, .int .i64 a1_1, .int .i64 a1_2, .int .i64 a1_3, (.slice A1_4 l1_4.length c1_4)] 34 (0, 0))) ∧ Aside0 (Below w.heap.size w wc))
 case first =>
  have H := HC4.out
  clear HC4
  by_cases c9 : a0_0 = 21
  ·rw [zC c9] at H
   obtain ⟨c9b0, c9b1⟩ := qe c9; clear c9
   (first | rw [c9b0] | (simp only [i64_w, i32_w]; rw [c9b0]) | skip)
   have H' := zA H
   clear H
   go_wp2
   go_meet
   case rel => exact ⟨_, ((a0_0 == 21)), qT, H', ⟨qO⟩, ⟨qK BK285.out⟩, ⟨qK BK286.out⟩, ⟨qB⟩⟩
  ·rw [zD c9] at H
   obtain ⟨c9b0, c9b1⟩ := qn c9
   (first | rw [c9b0] | (simp only [i64_w, i32_w]; rw [c9b0]) | skip)
   have H' := zA H
   clear H
   go_wp2
   go_meet
   case rel => exact ⟨_, ((a0_0 == 22)), qT, H', ⟨qO⟩, ⟨qK BK285.out⟩, ⟨qK BK286.out⟩, ⟨qB⟩⟩
 case rest =>
  clear HC4
  try clear c1; try clear p2; try clear c7; try clear c9; try clear c9b0 c9b1; try clear z8_0
  obtain ⟨kq, x9_3, rfl, HA, HJ3, BK285, BK286, HB⟩ := hcut
  cases kq with
  | zero => exact absurd HA.out (by simp [cubbyref13_one.j0])
  | succ kj3 =>
   have H := HA.out
   clear HA
   simp only [cubbyref13_one.j0] at H
   by_cases c10 : x9_3 = true
   ·subst c10
    have H1 : (if a2 = true then (cubbyref13_one.j1 kj3 true a0_0 a0_1 a0_2 a0_3 a0_4 l0_5 a1_0 a1_1 a1_2 a1_3 l1_4) else (if a0_3 = 0 then (if a0_4.toList = ([] : List UInt8) then (cubbyref13_one.j1 kj3 (decide ((l0_5.length : Int) > 0)) a0_0 a0_1 a0_2 a0_3 a0_4 l0_5 a1_0 a1_1 a1_2 a1_3 l1_4) else (cubbyref13_one.j1 kj3 true a0_0 a0_1 a0_2 a0_3 a0_4 l0_5 a1_0 a1_1 a1_2 a1_3 l1_4)) else (cubbyref13_one.j1 kj3 true a0_0 a0_1 a0_2 a0_3 a0_4 l0_5 a1_0 a1_1 a1_2 a1_3 l1_4))) = some r := by rw [zC rfl] at H; exact H
    clear H
    have H := H1
    clear H1
    have HC11 := zA H
    clear H
    go_upto_region 4 with (fail)
    go_cut [28] (fun v28 wc => ∃ (kq : Nat) (x28_10 : Bool), v28 = .bool x28_10 ∧ Aside0 (cubbyref13_one.j1 kq x28_10 a0_0 a0_1 a0_2 a0_3 a0_4 l0_5 a1_0 a1_1 a1_2 a1_3 l1_4 = some r) ∧ Aside0 (kq ≤ kj3) ∧ Aside0 (wc.heap[gb285]? = some (.cells #[.int .i64 a0_0, .int .i64 a0_1, .int .i64 a0_2, .int .i64 a0_3, .string a0_4, (.slice A0_5 l0_5.length c0_5)] 31 (0, 0))) ∧ Aside0 (wc.heap[gb286]? = some (.cells #[.string a1_0, .int .i64 a1_1, .int .i64 a1_2, .int .i64 a1_3, (.slice A1_4 l1_4.length c1_4)] 34 (0, 0))) ∧ Aside0 (Below w.heap.size w wc))
    case first =>
     have H := HC11.out
     clear HC11
     by_cases c12 : a2 = true
     ·subst c12
      have H1 : (cubbyref13_one.j1 kj3 true a0_0 a0_1 a0_2 a0_3 a0_4 l0_5 a1_0 a1_1 a1_2 a1_3 l1_4) = some r := by rw [zC rfl] at H; exact H
      clear H
      have H := H1
      clear H1
      have H' := zA H
      clear H
      go_wp2
      go_meet
      case rel => exact ⟨_, (true), qT, H', ⟨by have := HJ3.out; first | omega | exact Nat.le_refl _⟩, ⟨qK BK285.out⟩, ⟨qK BK286.out⟩, ⟨qB⟩⟩
     ·replace c12 := Bool.eq_false_iff.mpr c12
      subst c12
      have H1 : (if a0_3 = 0 then (if a0_4.toList = ([] : List UInt8) then (cubbyref13_one.j1 kj3 (decide ((l0_5.length : Int) > 0)) a0_0 a0_1 a0_2 a0_3 a0_4 l0_5 a1_0 a1_1 a1_2 a1_3 l1_4) else (cubbyref13_one.j1 kj3 true a0_0 a0_1 a0_2 a0_3 a0_4 l0_5 a1_0 a1_1 a1_2 a1_3 l1_4)) else (cubbyref13_one.j1 kj3 true a0_0 a0_1 a0_2 a0_3 a0_4 l0_5 a1_0 a1_1 a1_2 a1_3 l1_4)) = some r := by rw [zD (show ¬ (false = true) by decide)] at H; exact H
      clear H
      have H := H1
      clear H1
      by_cases c13 : a0_3 = 0
      ·rw [zC c13] at H
       obtain ⟨c13b0, c13b1⟩ := qe c13; clear c13
       (first | rw [c13b0] | (simp only [i64_w, i32_w]; rw [c13b0]) | skip)
       by_cases c14 : a0_4.toList = ([] : List UInt8)
       ·rw [zC c14] at H
        obtain ⟨c14b0, c14b1⟩ := qe c14; clear c14
        have H' := zA H
        clear H
        have hnb15 := NB285_286.out
        have hnc15 := NB286_285.out
        have z16_0 := bk6 BK285.out
        go_wp2
        go_meet
        case rel => exact ⟨_, (decide ((l0_5.length : Int) > 0)), qT, H', ⟨by have := HJ3.out; first | omega | exact Nat.le_refl _⟩, ⟨qK BK285.out⟩, ⟨qK BK286.out⟩, ⟨qB⟩⟩
       ·rw [zD c14] at H
        obtain ⟨c14b0, c14b1⟩ := qn c14
        have H' := zA H
        clear H
        have hnb17 := NB285_286.out
        have hnc17 := NB286_285.out
        have z18_0 := bk6 BK285.out
        go_wp2
        go_meet
        case rel => exact ⟨_, (true), qT, H', ⟨by have := HJ3.out; first | omega | exact Nat.le_refl _⟩, ⟨qK BK285.out⟩, ⟨qK BK286.out⟩, ⟨qB⟩⟩
      ·rw [zD c13] at H
       obtain ⟨c13b0, c13b1⟩ := qn c13
       (first | rw [c13b0] | (simp only [i64_w, i32_w]; rw [c13b0]) | skip)
       have H' := zA H
       clear H
       have hnb19 := NB285_286.out
       have hnc19 := NB286_285.out
       have z20_0 := bk6 BK285.out
       go_wp2
       go_meet
       case rel => exact ⟨_, (true), qT, H', ⟨by have := HJ3.out; first | omega | exact Nat.le_refl _⟩, ⟨qK BK285.out⟩, ⟨qK BK286.out⟩, ⟨qB⟩⟩
    case rest =>
     clear HC11
     try clear c1; try clear p2; try clear c7; try clear c9; try clear c9b0 c9b1; try clear c10; try clear c12; try clear c13; try clear c13b0 c13b1; try clear c14; try clear c14b0 c14b1; try clear c15; try clear c17; try clear c19; try clear z16_0; try clear z18_0; try clear z20_0; try clear z8_0
     obtain ⟨kq, x28_10, rfl, HA, HJ10, BK285, BK286, HB⟩ := hcut
     cases kq with
     | zero => exact absurd HA.out (by simp [cubbyref13_one.j1])
     | succ kj10 =>
      have H := HA.out
      clear HA
      simp only [cubbyref13_one.j1] at H
      by_cases c21 : x28_10 = true
      ·subst c21
       have H1 : (some 72) = some r := by rw [zC rfl] at H; exact H
       clear H
       have H := H1
       clear H1
       obtain rfl := zI H
       go_wp2
       go_ret
       exact ⟨qE, qB⟩
      ·replace c21 := Bool.eq_false_iff.mpr c21
       subst c21
       have H1 : (if a0_0 = 21 then ((cubbyref13_in.f a0_1 a1_2).bind fun t287 => (if t287 = true then ((cubbyref13_in.f a0_2 a1_3).bind fun t288 => (if t288 = true then (if a0_0 = 22 then ((cubbyref13_in.f a0_1 a1_3).bind fun t289 => (if t289 = true then ((cubbyref13_in.f a0_2 a1_2).bind fun t290 => (if t290 = true then (some 0) else (some 73))) else (some 73))) else (some 0)) else (some 73))) else (some 73))) else (if a0_0 = 22 then ((cubbyref13_in.f a0_1 a1_3).bind fun t291 => (if t291 = true then ((cubbyref13_in.f a0_2 a1_2).bind fun t292 => (if t292 = true then (some 0) else (some 73))) else (some 73))) else (some 0))) = some r := by rw [zD (show ¬ (false = true) by decide)] at H; exact H
       clear H
       have H := H1
       clear H1
       by_cases c22 : a0_0 = 21
       ·rw [zC c22] at H
        obtain ⟨c22b0, c22b1⟩ := qe c22; clear c22
        replace H := qb H; obtain ⟨t287, A23, H⟩ := H
        by_cases c24 : t287 = true
        ·subst c24
         have H1 : ((cubbyref13_in.f a0_2 a1_3).bind fun t288 => (if t288 = true then (if a0_0 = 22 then ((cubbyref13_in.f a0_1 a1_3).bind fun t289 => (if t289 = true then ((cubbyref13_in.f a0_2 a1_2).bind fun t290 => (if t290 = true then (some 0) else (some 73))) else (some 73))) else (some 0)) else (some 73))) = some r := by rw [zC rfl] at H; exact H
         clear H
         have H := H1
         clear H1
         replace H := qb H; obtain ⟨t288, A25, H⟩ := H
         by_cases c26 : t288 = true
         ·subst c26
          have H1 : (if a0_0 = 22 then ((cubbyref13_in.f a0_1 a1_3).bind fun t289 => (if t289 = true then ((cubbyref13_in.f a0_2 a1_2).bind fun t290 => (if t290 = true then (some 0) else (some 73))) else (some 73))) else (some 0)) = some r := by rw [zC rfl] at H; exact H
          clear H
          have H := H1
          clear H1
          by_cases c27 : a0_0 = 22
          ·rw [zC c27] at H
           obtain ⟨c27b0, c27b1⟩ := qe c27; clear c27
           replace H := qb H; obtain ⟨t289, A28, H⟩ := H
           by_cases c29 : t289 = true
           ·subst c29
            have H1 : ((cubbyref13_in.f a0_2 a1_2).bind fun t290 => (if t290 = true then (some 0) else (some 73))) = some r := by rw [zC rfl] at H; exact H
            clear H
            have H := H1
            clear H1
            replace H := qb H; obtain ⟨t290, A30, H⟩ := H
            by_cases c31 : t290 = true
            ·subst c31
             have H1 : (some 0) = some r := by rw [zC rfl] at H; exact H
             clear H
             have H := H1
             clear H1
             obtain rfl := zI H
             have hnb32 := NB285_286.out
             have hnc32 := NB286_285.out
             have z33_0 := bk6 BK285.out
             have z34_0 := bk5 BK286.out
             go_wp2_with (first | (go_at_call 18; (with_reducible refine (cubbyref13_in.calls a0_1 a1_2 true _ A23.out).mono ?_); (try clear A23); rintro e w' ⟨rfl, ⟨nd, rfl⟩⟩) | (go_at_call 18; (with_reducible refine (cubbyref13_in.calls a0_2 a1_3 true _ A25.out).mono ?_); (try clear A25); rintro e w' ⟨rfl, ⟨nd, rfl⟩⟩) | (go_at_call 18; (with_reducible refine (cubbyref13_in.calls a0_1 a1_3 true _ A28.out).mono ?_); (try clear A28); rintro e w' ⟨rfl, ⟨nd, rfl⟩⟩) | (go_at_call 18; (with_reducible refine (cubbyref13_in.calls a0_2 a1_2 true _ A30.out).mono ?_); (try clear A30); rintro e w' ⟨rfl, ⟨nd, rfl⟩⟩))
             go_ret
             exact ⟨qE, qB⟩
            ·replace c31 := Bool.eq_false_iff.mpr c31
             subst c31
             have H1 : (some 73) = some r := by rw [zD (show ¬ (false = true) by decide)] at H; exact H
             clear H
             have H := H1
             clear H1
             obtain rfl := zI H
             have hnb35 := NB285_286.out
             have hnc35 := NB286_285.out
             have z36_0 := bk6 BK285.out
             have z37_0 := bk5 BK286.out
             go_wp2_with (first | (go_at_call 18; (with_reducible refine (cubbyref13_in.calls a0_1 a1_2 true _ A23.out).mono ?_); (try clear A23); rintro e w' ⟨rfl, ⟨nd, rfl⟩⟩) | (go_at_call 18; (with_reducible refine (cubbyref13_in.calls a0_2 a1_3 true _ A25.out).mono ?_); (try clear A25); rintro e w' ⟨rfl, ⟨nd, rfl⟩⟩) | (go_at_call 18; (with_reducible refine (cubbyref13_in.calls a0_1 a1_3 true _ A28.out).mono ?_); (try clear A28); rintro e w' ⟨rfl, ⟨nd, rfl⟩⟩) | (go_at_call 18; (with_reducible refine (cubbyref13_in.calls a0_2 a1_2 false _ A30.out).mono ?_); (try clear A30); rintro e w' ⟨rfl, ⟨nd, rfl⟩⟩))
             go_ret
             exact ⟨qE, qB⟩
           ·replace c29 := Bool.eq_false_iff.mpr c29
            subst c29
            have H1 : (some 73) = some r := by rw [zD (show ¬ (false = true) by decide)] at H; exact H
            clear H
            have H := H1
            clear H1
            obtain rfl := zI H
            have hnb38 := NB285_286.out
            have hnc38 := NB286_285.out
            have z39_0 := bk6 BK285.out
            have z40_0 := bk5 BK286.out
            go_wp2_with (first | (go_at_call 18; (with_reducible refine (cubbyref13_in.calls a0_1 a1_2 true _ A23.out).mono ?_); (try clear A23); rintro e w' ⟨rfl, ⟨nd, rfl⟩⟩) | (go_at_call 18; (with_reducible refine (cubbyref13_in.calls a0_2 a1_3 true _ A25.out).mono ?_); (try clear A25); rintro e w' ⟨rfl, ⟨nd, rfl⟩⟩) | (go_at_call 18; (with_reducible refine (cubbyref13_in.calls a0_1 a1_3 false _ A28.out).mono ?_); (try clear A28); rintro e w' ⟨rfl, ⟨nd, rfl⟩⟩))
            go_ret
            exact ⟨qE, qB⟩
          ·rw [zD c27] at H
           obtain ⟨c27b0, c27b1⟩ := qn c27
           obtain rfl := zI H
           have hnb41 := NB285_286.out
           have hnc41 := NB286_285.out
           have z42_0 := bk6 BK285.out
           have z43_0 := bk5 BK286.out
           go_wp2_with (first | (go_at_call 18; (with_reducible refine (cubbyref13_in.calls a0_1 a1_2 true _ A23.out).mono ?_); (try clear A23); rintro e w' ⟨rfl, ⟨nd, rfl⟩⟩) | (go_at_call 18; (with_reducible refine (cubbyref13_in.calls a0_2 a1_3 true _ A25.out).mono ?_); (try clear A25); rintro e w' ⟨rfl, ⟨nd, rfl⟩⟩))
           go_ret
           exact ⟨qE, qB⟩
         ·replace c26 := Bool.eq_false_iff.mpr c26
          subst c26
          have H1 : (some 73) = some r := by rw [zD (show ¬ (false = true) by decide)] at H; exact H
          clear H
          have H := H1
          clear H1
          obtain rfl := zI H
          have hnb44 := NB285_286.out
          have hnc44 := NB286_285.out
          have z45_0 := bk6 BK285.out
          have z46_0 := bk5 BK286.out
          go_wp2_with (first | (go_at_call 18; (with_reducible refine (cubbyref13_in.calls a0_1 a1_2 true _ A23.out).mono ?_); (try clear A23); rintro e w' ⟨rfl, ⟨nd, rfl⟩⟩) | (go_at_call 18; (with_reducible refine (cubbyref13_in.calls a0_2 a1_3 false _ A25.out).mono ?_); (try clear A25); rintro e w' ⟨rfl, ⟨nd, rfl⟩⟩))
          go_ret
          exact ⟨qE, qB⟩
        ·replace c24 := Bool.eq_false_iff.mpr c24
         subst c24
         have H1 : (some 73) = some r := by rw [zD (show ¬ (false = true) by decide)] at H; exact H
         clear H
         have H := H1
         clear H1
         obtain rfl := zI H
         have hnb47 := NB285_286.out
         have hnc47 := NB286_285.out
         have z48_0 := bk6 BK285.out
         have z49_0 := bk5 BK286.out
         go_wp2_with (first | (go_at_call 18; (with_reducible refine (cubbyref13_in.calls a0_1 a1_2 false _ A23.out).mono ?_); (try clear A23); rintro e w' ⟨rfl, ⟨nd, rfl⟩⟩))
         go_ret
         exact ⟨qE, qB⟩
       ·rw [zD c22] at H
        obtain ⟨c22b0, c22b1⟩ := qn c22
        by_cases c50 : a0_0 = 22
        ·rw [zC c50] at H
         obtain ⟨c50b0, c50b1⟩ := qe c50; clear c50
         replace H := qb H; obtain ⟨t291, A51, H⟩ := H
         by_cases c52 : t291 = true
         ·subst c52
          have H1 : ((cubbyref13_in.f a0_2 a1_2).bind fun t292 => (if t292 = true then (some 0) else (some 73))) = some r := by rw [zC rfl] at H; exact H
          clear H
          have H := H1
          clear H1
          replace H := qb H; obtain ⟨t292, A53, H⟩ := H
          by_cases c54 : t292 = true
          ·subst c54
           have H1 : (some 0) = some r := by rw [zC rfl] at H; exact H
           clear H
           have H := H1
           clear H1
           obtain rfl := zI H
           have hnb55 := NB285_286.out
           have hnc55 := NB286_285.out
           have z56_0 := bk6 BK285.out
           have z57_0 := bk5 BK286.out
           go_wp2_with (first | (go_at_call 18; (with_reducible refine (cubbyref13_in.calls a0_1 a1_3 true _ A51.out).mono ?_); (try clear A51); rintro e w' ⟨rfl, ⟨nd, rfl⟩⟩) | (go_at_call 18; (with_reducible refine (cubbyref13_in.calls a0_2 a1_2 true _ A53.out).mono ?_); (try clear A53); rintro e w' ⟨rfl, ⟨nd, rfl⟩⟩))
           go_ret
           exact ⟨qE, qB⟩
          ·replace c54 := Bool.eq_false_iff.mpr c54
           subst c54
           have H1 : (some 73) = some r := by rw [zD (show ¬ (false = true) by decide)] at H; exact H
           clear H
           have H := H1
           clear H1
           obtain rfl := zI H
           have hnb58 := NB285_286.out
           have hnc58 := NB286_285.out
           have z59_0 := bk6 BK285.out
           have z60_0 := bk5 BK286.out
           go_wp2_with (first | (go_at_call 18; (with_reducible refine (cubbyref13_in.calls a0_1 a1_3 true _ A51.out).mono ?_); (try clear A51); rintro e w' ⟨rfl, ⟨nd, rfl⟩⟩) | (go_at_call 18; (with_reducible refine (cubbyref13_in.calls a0_2 a1_2 false _ A53.out).mono ?_); (try clear A53); rintro e w' ⟨rfl, ⟨nd, rfl⟩⟩))
           go_ret
           exact ⟨qE, qB⟩
         ·replace c52 := Bool.eq_false_iff.mpr c52
          subst c52
          have H1 : (some 73) = some r := by rw [zD (show ¬ (false = true) by decide)] at H; exact H
          clear H
          have H := H1
          clear H1
          obtain rfl := zI H
          have hnb61 := NB285_286.out
          have hnc61 := NB286_285.out
          have z62_0 := bk6 BK285.out
          have z63_0 := bk5 BK286.out
          go_wp2_with (first | (go_at_call 18; (with_reducible refine (cubbyref13_in.calls a0_1 a1_3 false _ A51.out).mono ?_); (try clear A51); rintro e w' ⟨rfl, ⟨nd, rfl⟩⟩))
          go_ret
          exact ⟨qE, qB⟩
        ·rw [zD c50] at H
         obtain ⟨c50b0, c50b1⟩ := qn c50
         obtain rfl := zI H
         have hnb64 := NB285_286.out
         have hnc64 := NB286_285.out
         have z65_0 := bk6 BK285.out
         go_wp2
         go_ret
         exact ⟨qE, qB⟩
   ·replace c10 := Bool.eq_false_iff.mpr c10
    subst c10
    have H1 : (if a0_0 = 11 then (if a2 = true then (cubbyref13_one.j2 kj3 true a0_0 a0_1 a0_2 a0_3 a0_4 l0_5) else (if a0_1 = 0 then (if a0_3 = 0 then (cubbyref13_one.j2 kj3 (decide ((l0_5.length : Int) > 0)) a0_0 a0_1 a0_2 a0_3 a0_4 l0_5) else (cubbyref13_one.j2 kj3 true a0_0 a0_1 a0_2 a0_3 a0_4 l0_5)) else (cubbyref13_one.j2 kj3 true a0_0 a0_1 a0_2 a0_3 a0_4 l0_5))) else ((cubbyref07_One.f kj3 a0_0 a0_1 a0_2 a0_3 a0_4 l0_5 a1_2 (l1_4.length : Int) a2).bind fun t295 => (some t295))) = some r := by rw [zD (show ¬ (false = true) by decide)] at H; exact H
    clear H
    have H := H1
    clear H1
    by_cases c66 : a0_0 = 11
    ·rw [zC c66] at H
     obtain ⟨c66b0, c66b1⟩ := qe c66; clear c66
     have HC67 := zA H
     clear H
     go_upto_region 10 with (fail)
     go_cut [87] (fun v87 wc => ∃ (kq : Nat) (x87_66 : Bool), v87 = .bool x87_66 ∧ Aside0 (cubbyref13_one.j2 kq x87_66 a0_0 a0_1 a0_2 a0_3 a0_4 l0_5 = some r) ∧ Aside0 (kq ≤ kj3) ∧ Aside0 (wc.heap[gb285]? = some (.cells #[.int .i64 a0_0, .int .i64 a0_1, .int .i64 a0_2, .int .i64 a0_3, .string a0_4, (.slice A0_5 l0_5.length c0_5)] 31 (0, 0))) ∧ Aside0 (wc.heap[gb286]? = some (.cells #[.string a1_0, .int .i64 a1_1, .int .i64 a1_2, .int .i64 a1_3, (.slice A1_4 l1_4.length c1_4)] 34 (0, 0))) ∧ Aside0 (Below w.heap.size w wc))
     case first =>
      have H := HC67.out
      clear HC67
      by_cases c68 : a2 = true
      ·subst c68
       have H1 : (cubbyref13_one.j2 kj3 true a0_0 a0_1 a0_2 a0_3 a0_4 l0_5) = some r := by rw [zC rfl] at H; exact H
       clear H
       have H := H1
       clear H1
       have H' := zA H
       clear H
       go_wp2
       go_meet
       case rel => exact ⟨_, (true), qT, H', ⟨by have := HJ3.out; first | omega | exact Nat.le_refl _⟩, ⟨qK BK285.out⟩, ⟨qK BK286.out⟩, ⟨qB⟩⟩
      ·replace c68 := Bool.eq_false_iff.mpr c68
       subst c68
       have H1 : (if a0_1 = 0 then (if a0_3 = 0 then (cubbyref13_one.j2 kj3 (decide ((l0_5.length : Int) > 0)) a0_0 a0_1 a0_2 a0_3 a0_4 l0_5) else (cubbyref13_one.j2 kj3 true a0_0 a0_1 a0_2 a0_3 a0_4 l0_5)) else (cubbyref13_one.j2 kj3 true a0_0 a0_1 a0_2 a0_3 a0_4 l0_5)) = some r := by rw [zD (show ¬ (false = true) by decide)] at H; exact H
       clear H
       have H := H1
       clear H1
       by_cases c69 : a0_1 = 0
       ·rw [zC c69] at H
        obtain ⟨c69b0, c69b1⟩ := qe c69; clear c69
        (first | rw [c69b0] | (simp only [i64_w, i32_w]; rw [c69b0]) | skip)
        by_cases c70 : a0_3 = 0
        ·rw [zC c70] at H
         obtain ⟨c70b0, c70b1⟩ := qe c70; clear c70
         have H' := zA H
         clear H
         have hnb71 := NB285_286.out
         have hnc71 := NB286_285.out
         have z72_0 := bk6 BK285.out
         go_wp2
         go_meet
         case rel => exact ⟨_, (decide ((l0_5.length : Int) > 0)), qT, H', ⟨by have := HJ3.out; first | omega | exact Nat.le_refl _⟩, ⟨qK BK285.out⟩, ⟨qK BK286.out⟩, ⟨qB⟩⟩
        ·rw [zD c70] at H
         obtain ⟨c70b0, c70b1⟩ := qn c70
         have H' := zA H
         clear H
         have hnb73 := NB285_286.out
         have hnc73 := NB286_285.out
         have z74_0 := bk6 BK285.out
         go_wp2
         go_meet
         case rel => exact ⟨_, (true), qT, H', ⟨by have := HJ3.out; first | omega | exact Nat.le_refl _⟩, ⟨qK BK285.out⟩, ⟨qK BK286.out⟩, ⟨qB⟩⟩
       ·rw [zD c69] at H
        obtain ⟨c69b0, c69b1⟩ := qn c69
        (first | rw [c69b0] | (simp only [i64_w, i32_w]; rw [c69b0]) | skip)
        have H' := zA H
        clear H
        have hnb75 := NB285_286.out
        have hnc75 := NB286_285.out
        have z76_0 := bk6 BK285.out
        go_wp2
        go_meet
        case rel => exact ⟨_, (true), qT, H', ⟨by have := HJ3.out; first | omega | exact Nat.le_refl _⟩, ⟨qK BK285.out⟩, ⟨qK BK286.out⟩, ⟨qB⟩⟩
     case rest =>
      clear HC67
      try clear c1; try clear c2; try clear p2; try clear c3; try clear c4; try clear c5; try clear c6; try clear c7; try clear c9; try clear c9b0 c9b1; try clear c10; try clear c12; try clear c13; try clear c13b0 c13b1; try clear c14; try clear c14b0 c14b1; try clear c15; try clear c17; try clear c19; try clear c21; try clear c22; try clear c22b0 c22b1; try clear c24; try clear c26; try clear c27; try clear c27b0 c27b1; try clear c29; try clear c31; try clear c32; try clear c35; try clear c38; try clear c41; try clear c44; try clear c47; try clear c50; try clear c50b0 c50b1; try clear c52; try clear c54; try clear c55; try clear c58; try clear c61; try clear c64; try clear c66b0 c66b1; try clear c68; try clear c69; try clear c69b0 c69b1; try clear c70; try clear c70b0 c70b1; try clear c71; try clear c73; try clear c75; try clear z16_0; try clear z18_0; try clear z20_0; try clear z33_0; try clear z34_0; try clear z36_0; try clear z37_0; try clear z39_0; try clear z40_0; try clear z42_0; try clear z43_0; try clear z45_0; try clear z46_0; try clear z48_0; try clear z49_0; try clear z56_0; try clear z57_0; try clear z59_0; try clear z60_0; try clear z62_0; try clear z63_0; try clear z65_0; try clear z72_0; try clear z74_0; try clear z76_0; try clear z8_0
      obtain ⟨kq, x87_66, rfl, HA, HJ66, BK285, BK286, HB⟩ := hcut
      cases kq with
      | zero => exact absurd HA.out (by simp [cubbyref13_one.j2])
      | succ kj66 =>
       have H := HA.out
       clear HA
       simp only [cubbyref13_one.j2] at H
       by_cases c77 : x87_66 = true
       ·subst c77
        have H1 : (some 72) = some r := by rw [zC rfl] at H; exact H
        clear H
        have H := H1
        clear H1
        obtain rfl := zI H
        go_wp2
        go_ret
        exact ⟨qE, qB⟩
       ·replace c77 := Bool.eq_false_iff.mpr c77
        subst c77
        have H1 : ((cubbyref07_Name.f kj66 a0_4).bind fun t293 => (if t293 = true then ((cubbyref13_in.f a0_2 5).bind fun t294 => (if t294 = true then (some 0) else (some 192))) else (some 70))) = some r := by rw [zD (show ¬ (false = true) by decide)] at H; exact H
        clear H
        have H := H1
        clear H1
        replace H := qb H; obtain ⟨t293, A78, H⟩ := H
        by_cases c79 : t293 = true
        ·subst c79
         have H1 : ((cubbyref13_in.f a0_2 5).bind fun t294 => (if t294 = true then (some 0) else (some 192))) = some r := by rw [zC rfl] at H; exact H
         clear H
         have H := H1
         clear H1
         replace H := qb H; obtain ⟨t294, A80, H⟩ := H
         by_cases c81 : t294 = true
         ·subst c81
          have H1 : (some 0) = some r := by rw [zC rfl] at H; exact H
          clear H
          have H := H1
          clear H1
          obtain rfl := zI H
          have hnb82 := NB285_286.out
          have hnc82 := NB286_285.out
          have z83_0 := bk6 BK285.out
          go_wp2_with (first | ((with_reducible refine gate_callee (f := 13) rfl ?_); refine goesL_ (some 90) rfl rfl Tryd.func13 (by kernel_rfl) rfl #[.string a0_4] rfl qL ?_; (with_reducible refine (cubbyref07_Name.calls kj66 a0_4 true _ A78.out).mono ?_); rintro e w' ⟨rfl, ⟨nd, rfl⟩⟩; refine ⟨_, rfl, ?_⟩) | ((with_reducible refine gate_callee (f := 18) rfl ?_); refine goesL_ (some 94) rfl rfl Tryd.func18 (by kernel_rfl) rfl #[.int .i64 a0_2, .int .i64 5] rfl qL ?_; (with_reducible refine (cubbyref13_in.calls a0_2 5 true _ A80.out).mono ?_); rintro e w' ⟨rfl, ⟨nd, rfl⟩⟩; refine ⟨_, rfl, ?_⟩))
          go_ret
          exact ⟨qE, qB⟩
         ·replace c81 := Bool.eq_false_iff.mpr c81
          subst c81
          have H1 : (some 192) = some r := by rw [zD (show ¬ (false = true) by decide)] at H; exact H
          clear H
          have H := H1
          clear H1
          obtain rfl := zI H
          have hnb84 := NB285_286.out
          have hnc84 := NB286_285.out
          have z85_0 := bk6 BK285.out
          go_wp2_with (first | ((with_reducible refine gate_callee (f := 13) rfl ?_); refine goesL_ (some 90) rfl rfl Tryd.func13 (by kernel_rfl) rfl #[.string a0_4] rfl qL ?_; (with_reducible refine (cubbyref07_Name.calls kj66 a0_4 true _ A78.out).mono ?_); rintro e w' ⟨rfl, ⟨nd, rfl⟩⟩; refine ⟨_, rfl, ?_⟩) | ((with_reducible refine gate_callee (f := 18) rfl ?_); refine goesL_ (some 94) rfl rfl Tryd.func18 (by kernel_rfl) rfl #[.int .i64 a0_2, .int .i64 5] rfl qL ?_; (with_reducible refine (cubbyref13_in.calls a0_2 5 false _ A80.out).mono ?_); rintro e w' ⟨rfl, ⟨nd, rfl⟩⟩; refine ⟨_, rfl, ?_⟩))
          go_ret
          exact ⟨qE, qB⟩
        ·replace c79 := Bool.eq_false_iff.mpr c79
         subst c79
         have H1 : (some 70) = some r := by rw [zD (show ¬ (false = true) by decide)] at H; exact H
         clear H
         have H := H1
         clear H1
         obtain rfl := zI H
         have hnb86 := NB285_286.out
         have hnc86 := NB286_285.out
         have z87_0 := bk6 BK285.out
         go_wp2_with (first | ((with_reducible refine gate_callee (f := 13) rfl ?_); refine goesL_ (some 90) rfl rfl Tryd.func13 (by kernel_rfl) rfl #[.string a0_4] rfl qL ?_; (with_reducible refine (cubbyref07_Name.calls kj66 a0_4 false _ A78.out).mono ?_); rintro e w' ⟨rfl, ⟨nd, rfl⟩⟩; refine ⟨_, rfl, ?_⟩))
         go_ret
         exact ⟨qE, qB⟩
    ·rw [zD c66] at H
     obtain ⟨c66b0, c66b1⟩ := qn c66
     replace H := qb H; obtain ⟨t295, A88, H⟩ := H
     obtain rfl := zI H
     have hnb89 := NB285_286.out
     have hnc89 := NB286_285.out
     have z90_0 := bk6 BK285.out
     have z91_0 := bk5 BK286.out
     go_wp2_with (first | ((with_reducible refine gate_callee (f := 15) rfl ?_); refine goesL_ (some 103) rfl rfl Tryd.func15 (by kernel_rfl) rfl #[.agg #[.int .i64 a0_0, .int .i64 a0_1, .int .i64 a0_2, .int .i64 a0_3, .string a0_4, .slice A0_5 l0_5.length c0_5], .int .i64 a1_2, .int .i64 (l1_4.length : Int), .bool a2] rfl qL ?_; (with_reducible refine (cubbyref07_One.calls kj3 a0_0 a0_1 a0_2 a0_3 a0_4 _ _ l0_5 a1_2 (l1_4.length : Int) a2 t295 _ ?side1 ?side2 A88.out).mono ?_); (case side1 => exact qCB HR0_5.out); (case side2 => exact HC0_5.out); rintro e w92 ⟨rfl, hb⟩; refine ⟨_, rfl, ?_⟩; replace BK285 := qW BK285 hb; replace BK286 := qW BK286 hb; replace HB := qH hb; (try clear hb)))
     go_ret
     exact ⟨qE, qB⟩

mutual
def cubbyref13_Check.j0 : Nat → Bool → ByteArray → Int → Int → Int → List (List (SIns)) → Option (Int)
 | 0, _, _, _, _, _, _ => none
 | k + 1, x43, x297000, x297001, x297002, x297003, x297004 => if x43 = true then (some 71) else (cubbyref13_Check.l0 k 0 0 x297000 x297001 x297002 x297003 x297004)
def cubbyref13_Check.l0 : Nat → Int → Int → ByteArray → Int → Int → Int → List (List (SIns)) → Option (Int)
 | 0, _, _, _, _, _, _, _ => none
 | k + 1, x3, x4, x297000, x297001, x297002, x297003, x297004 => if x4 < (x297004.length : Int) then (if 0 ≤ x4 then (if ((rd_LIns x297004 x4).length : Int) = 0 then (some 71) else (if ((rd_LIns x297004 x4).length : Int) > 1600 then (some 71) else (cubbyref13_Check.l0 k (wrap64 (x3 + ((rd_LIns x297004 x4).length : Int))) (wrap64 (x4 + 1)) x297000 x297001 x297002 x297003 x297004))) else (none)) else (if x3 > 1600 then (some 71) else (cubbyref13_Check.l1 k 0 x297000 x297001 x297002 x297003 x297004))
def cubbyref13_Check.l1 : Nat → Int → ByteArray → Int → Int → Int → List (List (SIns)) → Option (Int)
 | 0, _, _, _, _, _, _ => none
 | k + 1, x5, x297000, x297001, x297002, x297003, x297004 => if x5 < (x297004.length : Int) then (cubbyref13_Check.l2 k x5 0 x297000 x297001 x297002 x297003 x297004) else (some 0)
def cubbyref13_Check.l2 : Nat → Int → Int → ByteArray → Int → Int → Int → List (List (SIns)) → Option (Int)
 | 0, _, _, _, _, _, _, _ => none
 | k + 1, x5, x6, x297000, x297001, x297002, x297003, x297004 => if 0 ≤ x5 then (if x5 < (x297004.length : Int) then (if x6 < ((rd_LIns x297004 x5).length : Int) then (if 0 ≤ x6 then ((cubbyref13_one.f k ((rd_TIns (rd_LIns x297004 x5) x6).f0) ((rd_TIns (rd_LIns x297004 x5) x6).f1) ((rd_TIns (rd_LIns x297004 x5) x6).f2) ((rd_TIns (rd_LIns x297004 x5) x6).f3) ((rd_TIns (rd_LIns x297004 x5) x6).f4) ((rd_TIns (rd_LIns x297004 x5) x6).f5) x297000 x297001 x297002 x297003 x297004 (x6 == (wrap64 (((rd_LIns x297004 x5).length : Int) - 1)))).bind fun t307 => (if t307 = 0 then (cubbyref13_Check.l2 k x5 (wrap64 (x6 + 1)) x297000 x297001 x297002 x297003 x297004) else (some t307))) else (none)) else (cubbyref13_Check.l1 k (wrap64 (x5 + 1)) x297000 x297001 x297002 x297003 x297004)) else (none)) else (none)
end
def cubbyref13_Check.f (k : Nat) (a0_0 : ByteArray) (a0_1 : Int) (a0_2 : Int) (a0_3 : Int) (l0_4 : List (List (SIns))) : Option (Int) := (cubbyref07_Name.f k a0_0).bind fun t297 => (if t297 = true then ((cubbyref13_in.f a0_1 5).bind fun t298 => (if t298 = true then (if a0_2 < 6 then (cubbyref13_Check.j0 k true a0_0 a0_1 a0_2 a0_3 l0_4) else (if a0_2 > 16 then (cubbyref13_Check.j0 k true a0_0 a0_1 a0_2 a0_3 l0_4) else ((cubbyref13_in.f a0_3 65).bind fun t299 => (if t299 = true then (if (l0_4.length : Int) < 1 then (cubbyref13_Check.j0 k true a0_0 a0_1 a0_2 a0_3 l0_4) else (cubbyref13_Check.j0 k (decide ((l0_4.length : Int) > 33)) a0_0 a0_1 a0_2 a0_3 l0_4)) else (cubbyref13_Check.j0 k true a0_0 a0_1 a0_2 a0_3 l0_4))))) else (cubbyref13_Check.j0 k true a0_0 a0_1 a0_2 a0_3 l0_4))) else (some 70))
def cubbyref13_Check.T20 : Bool × List (List Nat × List Nat) := (true, [([], []), ([0], [0]), ([], []), ([1, 2], [1, 2]), ([3], [3]), ([], []), ([4, 5], [4, 5]), ([6], [6]), ([], []), ([], []), ([], []), ([10], [10]), ([], []), ([11, 12], [11, 12]), ([13], [13]), ([14], [14]), ([15], [15]), ([9, 16], [9, 16]), ([7, 8, 17], [7, 8, 17]), ([18, 18, 0, 1, 2, 3, 4, 5, 6, 7, 8, 9, 10, 11, 12, 13, 14, 15, 16, 17, 18], [18])])
def cubbyref13_Check.B20 : List Nat := [0, 1, 0, 7, 15, 0, 63, 127, 0, 0, 0, 1024, 0, 7168, 15360, 31744, 64512, 130560, 262143, 524287]
theorem cubbyref13_Check.tab20 : rtab .any (opsOf Tryd.f10 20) = cubbyref13_Check.T20 := by kernel_rfl
theorem cubbyref13_Check.bits20 : waitsOk cubbyref13_Check.T20.2 cubbyref13_Check.B20 = true := by kernel_rfl
set_option maxHeartbeats 8000000 in
set_option maxRecDepth 100000 in
theorem cubbyref13_Check.calls (k : Nat) (a0_0 : ByteArray) (a0_1 : Int) (a0_2 : Int) (a0_3 : Int) (A0_4 : Option Addr) (c0_4 : Nat) (l0_4 : List (List (SIns))) (r : Int) (w : World) (hr0_4 : Kd.C (Kd.slice 31 kIns) w A0_4 l0_4.length l0_4) (hc0_4 : l0_4.length ≤ c0_4) (h : cubbyref13_Check.f k a0_0 a0_1 a0_2 a0_3 l0_4 = some r) :
 Calls Tryd.prog 10 #[.agg #[.string a0_0, .int .i64 a0_1, .int .i64 a0_2, .int .i64 a0_3, .slice A0_4 l0_4.length c0_4]] w fun e w' => e = .returned (.int .i64 r) ∧ Below w.heap.size w w' := by
 have hu34 := Tryd.underlying34
 have hu31 := Tryd.underlying31
 have HR0_4 := zA hr0_4
 have HC0_4 := zA hc0_4
 clear hr0_4 hc0_4
 have HB := zA (Below.refl w.heap.size w)
 have H := h; clear h; unfold cubbyref13_Check.f at H
 replace H := qb H; obtain ⟨t297, A2, H⟩ := H
 by_cases c3 : t297 = true
 ·subst c3
  have H1 : ((cubbyref13_in.f a0_1 5).bind fun t298 => (if t298 = true then (if a0_2 < 6 then (cubbyref13_Check.j0 k true a0_0 a0_1 a0_2 a0_3 l0_4) else (if a0_2 > 16 then (cubbyref13_Check.j0 k true a0_0 a0_1 a0_2 a0_3 l0_4) else ((cubbyref13_in.f a0_3 65).bind fun t299 => (if t299 = true then (if (l0_4.length : Int) < 1 then (cubbyref13_Check.j0 k true a0_0 a0_1 a0_2 a0_3 l0_4) else (cubbyref13_Check.j0 k (decide ((l0_4.length : Int) > 33)) a0_0 a0_1 a0_2 a0_3 l0_4)) else (cubbyref13_Check.j0 k true a0_0 a0_1 a0_2 a0_3 l0_4))))) else (cubbyref13_Check.j0 k true a0_0 a0_1 a0_2 a0_3 l0_4))) = some r := by rw [zC rfl] at H; exact H
  clear H
  have H := H1
  clear H1
  have HC4 := zA H
  clear H
  go_enter Tryd.func10, Tryd.ntmps10
  go_upto_region 3 with (first | ((with_reducible refine gate_dst (N := 1) rfl ?_); (try (refine gate_guard (by rfl) ?_; dsimp only)); refine box_event (by rfl) (N := 1) (by rfl) (cs := #[.string a0_0, .int .i64 a0_1, .int .i64 a0_2, .int .i64 a0_3, .slice A0_4 l0_4.length c0_4]) (t := 34) ?hr ?_; (case hr => go_simp <;> rfl); intro gb296 hg w5 hbox hb; have BK296 := zA (hbox); have GW296 := qG hg; have GE296 := GW296; replace HB := qH hb; clear hb hbox hg; have z6_0 := bk5 BK296.out) | ((with_reducible refine gate_callee (f := 13) rfl ?_); refine goesL_ (some 10) rfl rfl Tryd.func13 (by kernel_rfl) rfl #[.string a0_0] rfl qL ?_; (with_reducible refine (cubbyref07_Name.calls k a0_0 true _ A2.out).mono ?_); rintro e w' ⟨rfl, ⟨nd, rfl⟩⟩; refine ⟨_, rfl, ?_⟩))
  (try simp only [Act.put, List.setIfInBounds_toArray, List.set_cons_zero, List.set_cons_succ])
  go_cut [43] (fun v43 wc => ∃ (kq : Nat) (x43_3 : Bool), v43 = .bool x43_3 ∧ Aside0 (cubbyref13_Check.j0 kq x43_3 a0_0 a0_1 a0_2 a0_3 l0_4 = some r) ∧ Aside0 (kq ≤ k) ∧ Aside0 (wc.heap[gb296]? = some (.cells #[.string a0_0, .int .i64 a0_1, .int .i64 a0_2, .int .i64 a0_3, (.slice A0_4 l0_4.length c0_4)] 34 (0, 0))) ∧ Aside0 (Below w.heap.size w wc))
  case first =>
   have H := HC4.out
   clear HC4
   replace H := qb H; obtain ⟨t298, A7, H⟩ := H
   by_cases c8 : t298 = true
   ·subst c8
    have H1 : (if a0_2 < 6 then (cubbyref13_Check.j0 k true a0_0 a0_1 a0_2 a0_3 l0_4) else (if a0_2 > 16 then (cubbyref13_Check.j0 k true a0_0 a0_1 a0_2 a0_3 l0_4) else ((cubbyref13_in.f a0_3 65).bind fun t299 => (if t299 = true then (if (l0_4.length : Int) < 1 then (cubbyref13_Check.j0 k true a0_0 a0_1 a0_2 a0_3 l0_4) else (cubbyref13_Check.j0 k (decide ((l0_4.length : Int) > 33)) a0_0 a0_1 a0_2 a0_3 l0_4)) else (cubbyref13_Check.j0 k true a0_0 a0_1 a0_2 a0_3 l0_4))))) = some r := by rw [zC rfl] at H; exact H
    clear H
    have H := H1
    clear H1
    by_cases c9 : a0_2 < 6
    ·rw [zC c9] at H
     have c9b0 := zF c9
     clear c9
     (first | rw [c9b0] | (simp only [i64_w, i32_w]; rw [c9b0]) | skip)
     have H' := zA H
     clear H
     have z10_0 := bk5 BK296.out
     go_wp2_with (first | ((with_reducible refine gate_callee (f := 18) rfl ?_); refine goesL_ (some 14) rfl rfl Tryd.func18 (by kernel_rfl) rfl #[.int .i64 a0_1, .int .i64 5] rfl qL ?_; (with_reducible refine (cubbyref13_in.calls a0_1 5 true _ A7.out).mono ?_); rintro e w' ⟨rfl, ⟨nd, rfl⟩⟩; refine ⟨_, rfl, ?_⟩))
     go_meet
     case rel => exact ⟨_, (true), qT, H', ⟨qO⟩, ⟨qK BK296.out⟩, ⟨qB⟩⟩
    ·rw [zD c9] at H
     have c9b0 := zG c9
     clear c9
     (first | rw [c9b0] | (simp only [i64_w, i32_w]; rw [c9b0]) | skip)
     by_cases c11 : a0_2 > 16
     ·rw [zC c11] at H
      have c11b0 : decide (16 < a0_2) = true := zF c11
      clear c11
      have H' := zA H
      clear H
      have z12_0 := bk5 BK296.out
      go_wp2_with (first | ((with_reducible refine gate_callee (f := 18) rfl ?_); refine goesL_ (some 14) rfl rfl Tryd.func18 (by kernel_rfl) rfl #[.int .i64 a0_1, .int .i64 5] rfl qL ?_; (with_reducible refine (cubbyref13_in.calls a0_1 5 true _ A7.out).mono ?_); rintro e w' ⟨rfl, ⟨nd, rfl⟩⟩; refine ⟨_, rfl, ?_⟩))
      go_meet
      case rel => exact ⟨_, (true), qT, H', ⟨qO⟩, ⟨qK BK296.out⟩, ⟨qB⟩⟩
     ·rw [zD c11] at H
      have c11b0 : decide (16 < a0_2) = false := zG c11
      clear c11
      replace H := qb H; obtain ⟨t299, A13, H⟩ := H
      by_cases c14 : t299 = true
      ·subst c14
       have H1 : (if (l0_4.length : Int) < 1 then (cubbyref13_Check.j0 k true a0_0 a0_1 a0_2 a0_3 l0_4) else (cubbyref13_Check.j0 k (decide ((l0_4.length : Int) > 33)) a0_0 a0_1 a0_2 a0_3 l0_4)) = some r := by rw [zC rfl] at H; exact H
       clear H
       have H := H1
       clear H1
       by_cases c15 : (l0_4.length : Int) < 1
       ·rw [zC c15] at H
        have c15b0 := zF c15
        have c15b1 : decide (l0_4.length < 1) = true := zF (by omega)
        clear c15
        have H' := zA H
        clear H
        have z16_0 := bk5 BK296.out
        go_wp2_with (first | ((with_reducible refine gate_callee (f := 18) rfl ?_); refine goesL_ (some 14) rfl rfl Tryd.func18 (by kernel_rfl) rfl #[.int .i64 a0_1, .int .i64 5] rfl qL ?_; (with_reducible refine (cubbyref13_in.calls a0_1 5 true _ A7.out).mono ?_); rintro e w' ⟨rfl, ⟨nd, rfl⟩⟩; refine ⟨_, rfl, ?_⟩) | (go_at_call 18; (with_reducible refine (cubbyref13_in.calls a0_3 65 true _ A13.out).mono ?_); (try clear A13); rintro e w' ⟨rfl, ⟨nd, rfl⟩⟩))
        go_meet
        case rel => exact ⟨_, (true), qT, H', ⟨qO⟩, ⟨qK BK296.out⟩, ⟨qB⟩⟩
       ·rw [zD c15] at H
        have c15b0 := zG c15
        have c15b1 : decide (l0_4.length < 1) = false := zG (by omega)
        clear c15
        have H' := zA H
        clear H
        have z17_0 := bk5 BK296.out
        go_wp2_with (first | ((with_reducible refine gate_callee (f := 18) rfl ?_); refine goesL_ (some 14) rfl rfl Tryd.func18 (by kernel_rfl) rfl #[.int .i64 a0_1, .int .i64 5] rfl qL ?_; (with_reducible refine (cubbyref13_in.calls a0_1 5 true _ A7.out).mono ?_); rintro e w' ⟨rfl, ⟨nd, rfl⟩⟩; refine ⟨_, rfl, ?_⟩) | (go_at_call 18; (with_reducible refine (cubbyref13_in.calls a0_3 65 true _ A13.out).mono ?_); (try clear A13); rintro e w' ⟨rfl, ⟨nd, rfl⟩⟩))
        go_meet
        case rel => exact ⟨_, (decide ((l0_4.length : Int) > 33)), qT, H', ⟨qO⟩, ⟨qK BK296.out⟩, ⟨qB⟩⟩
      ·replace c14 := Bool.eq_false_iff.mpr c14
       subst c14
       have H1 : (cubbyref13_Check.j0 k true a0_0 a0_1 a0_2 a0_3 l0_4) = some r := by rw [zD (show ¬ (false = true) by decide)] at H; exact H
       clear H
       have H := H1
       clear H1
       have H' := zA H
       clear H
       have z18_0 := bk5 BK296.out
       go_wp2_with (first | ((with_reducible refine gate_callee (f := 18) rfl ?_); refine goesL_ (some 14) rfl rfl Tryd.func18 (by kernel_rfl) rfl #[.int .i64 a0_1, .int .i64 5] rfl qL ?_; (with_reducible refine (cubbyref13_in.calls a0_1 5 true _ A7.out).mono ?_); rintro e w' ⟨rfl, ⟨nd, rfl⟩⟩; refine ⟨_, rfl, ?_⟩) | (go_at_call 18; (with_reducible refine (cubbyref13_in.calls a0_3 65 false _ A13.out).mono ?_); (try clear A13); rintro e w' ⟨rfl, ⟨nd, rfl⟩⟩))
       go_meet
       case rel => exact ⟨_, (true), qT, H', ⟨qO⟩, ⟨qK BK296.out⟩, ⟨qB⟩⟩
   ·replace c8 := Bool.eq_false_iff.mpr c8
    subst c8
    have H1 : (cubbyref13_Check.j0 k true a0_0 a0_1 a0_2 a0_3 l0_4) = some r := by rw [zD (show ¬ (false = true) by decide)] at H; exact H
    clear H
    have H := H1
    clear H1
    have H' := zA H
    clear H
    have z19_0 := bk5 BK296.out
    go_wp2_with (first | ((with_reducible refine gate_callee (f := 18) rfl ?_); refine goesL_ (some 14) rfl rfl Tryd.func18 (by kernel_rfl) rfl #[.int .i64 a0_1, .int .i64 5] rfl qL ?_; (with_reducible refine (cubbyref13_in.calls a0_1 5 false _ A7.out).mono ?_); rintro e w' ⟨rfl, ⟨nd, rfl⟩⟩; refine ⟨_, rfl, ?_⟩))
    go_meet
    case rel => exact ⟨_, (true), qT, H', ⟨qO⟩, ⟨qK BK296.out⟩, ⟨qB⟩⟩
  case rest =>
   clear HC4
   try clear c1; try clear p2; try clear c3; try clear c8; try clear c9; try clear c9b0; try clear c10; try clear c11; try clear c11b0; try clear c13; try clear c14; try clear c15; try clear c15b0 c15b1; try clear c18; try clear z10_0; try clear z12_0; try clear z16_0; try clear z17_0; try clear z18_0; try clear z19_0; try clear z6_0
   obtain ⟨kq, x43_3, rfl, HA, HJ3, BK296, HB⟩ := hcut
   cases kq with
   | zero => exact absurd HA.out (by simp [cubbyref13_Check.j0])
   | succ kj3 =>
    have H := HA.out
    clear HA
    simp only [cubbyref13_Check.j0] at H
    by_cases c20 : x43_3 = true
    ·subst c20
     have H1 : (some 71) = some r := by rw [zC rfl] at H; exact H
     clear H
     have H := H1
     clear H1
     obtain rfl := zI H
     go_wp2
     go_ret
     exact ⟨qE, qB⟩
    ·replace c20 := Bool.eq_false_iff.mpr c20
     subst c20
     have H1 : (cubbyref13_Check.l0 kj3 0 0 a0_0 a0_1 a0_2 a0_3 l0_4) = some r := by rw [zD (show ¬ (false = true) by decide)] at H; exact H
     clear H
     have H := H1
     clear H1
     have H' := zA H
     clear H
     go_wp2
     go_loopg [3, 4] kj3 (fun kq v3 v4 w' => ∃ (x3_2 : Int) (x4_2 : Int), v3 = .int .i64 x3_2 ∧ v4 = .int .i64 x4_2 ∧ Aside0 (cubbyref13_Check.l0 kq x3_2 x4_2 a0_0 a0_1 a0_2 a0_3 l0_4 = some r) ∧ Aside0 (kq ≤ kj3) ∧ Aside0 (w'.heap[gb296]? = some (.cells #[.string a0_0, .int .i64 a0_1, .int .i64 a0_2, .int .i64 a0_3, (.slice A0_4 l0_4.length c0_4)] 34 (0, 0))) ∧ Aside0 (Below w.heap.size w w'))
     case atStart => exact ⟨(0), (0), qT, qT, H', ⟨Nat.le_refl _⟩, ⟨qK BK296.out⟩, ⟨qB⟩⟩
     case round =>
      clear H'
      try clear c1; try clear c2; try clear p2; try clear c3; try clear c8; try clear c9; try clear c9b0; try clear c10; try clear c11; try clear c11b0; try clear c13; try clear c14; try clear c15; try clear c15b0 c15b1; try clear c18; try clear c20; try clear z10_0; try clear z12_0; try clear z16_0; try clear z17_0; try clear z18_0; try clear z19_0; try clear z6_0
      obtain ⟨x3_2, x4_2, rfl, rfl, HA, HK2, BK296, HB⟩ := hrel
      cases gk with
      | zero => exact absurd HA.out (by simp [cubbyref13_Check.l0])
      | succ k2 =>
       have H := HA.out
       clear HA
       simp only [cubbyref13_Check.l0] at H
       by_cases c21 : x4_2 < (l0_4.length : Int)
       ·rw [zC c21] at H
        have c21b0 := zF c21
        clear c21
        by_cases c22 : 0 ≤ x4_2
        ·rw [zC c22] at H
         have c22b0 := zF c22
         clear c22
         by_cases c23 : ((rd_LIns l0_4 x4_2).length : Int) = 0
         ·rw [zC c23] at H
          obtain ⟨c23b0, c23b1⟩ := qe c23; clear c23
          obtain rfl := zI H
          have z24_0 := bk5 BK296.out
          have p300 : 0 ≤ (x4_2 : Int) := zB qA
          have q300 : x4_2 < (l0_4.length : Int) := zB qA
          obtain ⟨ad300, A300_0, c300_0, e300, hx300_0, hl300_0, hi300_0⟩ := at_LIns HR0_4.out x4_2 p300 q300
          cases e300
          replace hx300_0 := (HB.out.cell (zE w _ hx300_0)).trans hx300_0
          have HR300_0 := zA hi300_0
          have HC300_0 := zA hl300_0
          clear hi300_0 hl300_0
          replace p300 := eq_true p300
          replace q300 := eq_true q300
          go_wp2
          go_ret
          exact ⟨qE, qB⟩
         ·rw [zD c23] at H
          obtain ⟨c23b0, c23b1⟩ := qn c23
          have c23b2 : ¬ ((rd_LIns l0_4 x4_2) = []) := fun h_ => c23 (by rw [h_]; rfl)
          by_cases c25 : ((rd_LIns l0_4 x4_2).length : Int) > 1600
          ·rw [zC c25] at H
           have c25b0 : decide (1600 < ((rd_LIns l0_4 x4_2).length : Int)) = true := zF c25
           have c25b1 : decide (1600 < (rd_LIns l0_4 x4_2).length) = true := zF (by omega)
           clear c25
           obtain rfl := zI H
           have z26_0 := bk5 BK296.out
           have p300 : 0 ≤ (x4_2 : Int) := zB qA
           have q300 : x4_2 < (l0_4.length : Int) := zB qA
           obtain ⟨ad300, A300_0, c300_0, e300, hx300_0, hl300_0, hi300_0⟩ := at_LIns HR0_4.out x4_2 p300 q300
           cases e300
           replace hx300_0 := (HB.out.cell (zE w _ hx300_0)).trans hx300_0
           have HR300_0 := zA hi300_0
           have HC300_0 := zA hl300_0
           clear hi300_0 hl300_0
           replace p300 := eq_true p300
           replace q300 := eq_true q300
           have p301 : 0 ≤ (x4_2 : Int) := zB qA
           have q301 : x4_2 < (l0_4.length : Int) := zB qA
           obtain ⟨ad301, A301_0, c301_0, e301, hx301_0, hl301_0, hi301_0⟩ := at_LIns HR0_4.out x4_2 p301 q301
           obtain rfl : ad300 = ad301 := (by injection e301)
           replace hx301_0 := (HB.out.cell (zE w _ hx301_0)).trans hx301_0
           have HR301_0 := zA hi301_0
           have HC301_0 := zA hl301_0
           clear hi301_0 hl301_0
           replace p301 := eq_true p301
           replace q301 := eq_true q301
           have ea_ := zI (hx300_0.symm.trans hx301_0)
           injection ea_ with ea_ en_ ec_
           subst ea_
           subst ec_
           clear en_
           go_wp2
           go_ret
           exact ⟨qE, qB⟩
          ·rw [zD c25] at H
           have c25b0 : decide (1600 < ((rd_LIns l0_4 x4_2).length : Int)) = false := zG c25
           have c25b1 : decide (1600 < (rd_LIns l0_4 x4_2).length) = false := zG (by omega)
           clear c25
           have H' := zA H
           clear H
           have z27_0 := bk5 BK296.out
           have p300 : 0 ≤ (x4_2 : Int) := zB qA
           have q300 : x4_2 < (l0_4.length : Int) := zB qA
           obtain ⟨ad300, A300_0, c300_0, e300, hx300_0, hl300_0, hi300_0⟩ := at_LIns HR0_4.out x4_2 p300 q300
           cases e300
           replace hx300_0 := (HB.out.cell (zE w _ hx300_0)).trans hx300_0
           have HR300_0 := zA hi300_0
           have HC300_0 := zA hl300_0
           clear hi300_0 hl300_0
           replace p300 := eq_true p300
           replace q300 := eq_true q300
           have p301 : 0 ≤ (x4_2 : Int) := zB qA
           have q301 : x4_2 < (l0_4.length : Int) := zB qA
           obtain ⟨ad301, A301_0, c301_0, e301, hx301_0, hl301_0, hi301_0⟩ := at_LIns HR0_4.out x4_2 p301 q301
           obtain rfl : ad300 = ad301 := (by injection e301)
           replace hx301_0 := (HB.out.cell (zE w _ hx301_0)).trans hx301_0
           have HR301_0 := zA hi301_0
           have HC301_0 := zA hl301_0
           clear hi301_0 hl301_0
           replace p301 := eq_true p301
           replace q301 := eq_true q301
           have ea_ := zI (hx300_0.symm.trans hx301_0)
           injection ea_ with ea_ en_ ec_
           subst ea_
           subst ec_
           clear en_
           have p302 : 0 ≤ (x4_2 : Int) := zB qA
           have q302 : x4_2 < (l0_4.length : Int) := zB qA
           obtain ⟨ad302, A302_0, c302_0, e302, hx302_0, hl302_0, hi302_0⟩ := at_LIns HR0_4.out x4_2 p302 q302
           obtain rfl : ad300 = ad302 := (by injection e302)
           replace hx302_0 := (HB.out.cell (zE w _ hx302_0)).trans hx302_0
           have HR302_0 := zA hi302_0
           have HC302_0 := zA hl302_0
           clear hi302_0 hl302_0
           replace p302 := eq_true p302
           replace q302 := eq_true q302
           have ea_ := zI (hx300_0.symm.trans hx302_0)
           injection ea_ with ea_ en_ ec_
           subst ea_
           subst ec_
           clear en_
           go_wp2
           go_roundg k2
           case measure => have := HJ3.out; have := HK2.out; omega
           case rel => exact ⟨(wrap64 (x3_2 + ((rd_LIns l0_4 x4_2).length : Int))), (wrap64 (x4_2 + 1)), qT, qT, H', ⟨by have := HJ3.out; have := HK2.out; omega⟩, ⟨qK BK296.out⟩, ⟨qB⟩⟩
        ·rw [zD c22] at H
         exact absurd H (by simp)
       ·rw [zD c21] at H
        have c21b0 := zG c21
        clear c21
        by_cases c28 : x3_2 > 1600
        ·rw [zC c28] at H
         have c28b0 : decide (1600 < x3_2) = true := zF c28
         clear c28
         obtain rfl := zI H
         have z29_0 := bk5 BK296.out
         go_wp2
         go_ret
         exact ⟨qE, qB⟩
        ·rw [zD c28] at H
         have c28b0 : decide (1600 < x3_2) = false := zG c28
         clear c28
         have H' := zA H
         clear H
         have z30_0 := bk5 BK296.out
         go_wp2
         go_loopg [5] k2 (fun kq v5 w' => ∃ (x5_3 : Int), v5 = .int .i64 x5_3 ∧ Aside0 (cubbyref13_Check.l1 kq x5_3 a0_0 a0_1 a0_2 a0_3 l0_4 = some r) ∧ Aside0 (kq ≤ k2) ∧ Aside0 (w'.heap[gb296]? = some (.cells #[.string a0_0, .int .i64 a0_1, .int .i64 a0_2, .int .i64 a0_3, (.slice A0_4 l0_4.length c0_4)] 34 (0, 0))) ∧ Aside0 (Below w.heap.size w w'))
         case atStart => exact ⟨(0), qT, H', ⟨Nat.le_refl _⟩, ⟨qK BK296.out⟩, ⟨qB⟩⟩
         case round =>
          clear H'
          try clear c1; try clear c2; try clear p2; try clear c3; try clear p3; try clear q3; try clear hx3; try clear p6; try clear c8; try clear c9; try clear c9b0; try clear c10; try clear c11; try clear c11b0; try clear c13; try clear c14; try clear c15; try clear c15b0 c15b1; try clear c18; try clear c20; try clear c21b0; try clear c22; try clear c22b0; try clear c23; try clear c23b0 c23b1 c23b2; try clear c25; try clear c25b0 c25b1; try clear c28b0; try clear c30; try clear p30; try clear q30; try clear hx30; try clear z10_0; try clear z12_0; try clear z16_0; try clear z17_0; try clear z18_0; try clear z19_0; try clear z24_0; try clear z26_0; try clear z27_0; try clear z29_0; try clear z30_0; try clear z6_0; try clear hx300_0; try clear hx301_0; try clear hx302_0; try clear p300; try clear p301; try clear p302; try clear q300; try clear q301; try clear q302
          obtain ⟨x5_3, rfl, HA, HK3, BK296, HB⟩ := hrel
          cases gk with
          | zero => exact absurd HA.out (by simp [cubbyref13_Check.l1])
          | succ k3 =>
           have H := HA.out
           clear HA
           simp only [cubbyref13_Check.l1] at H
           by_cases c31 : x5_3 < (l0_4.length : Int)
           ·rw [zC c31] at H
            have c31b0 := zF c31
            clear c31
            have H' := zA H
            clear H
            have z32_0 := bk5 BK296.out
            go_wp2
            go_loopg [6] k3 (fun kq v6 w' => ∃ (x6_4 : Int), v6 = .int .i64 x6_4 ∧ Aside0 (cubbyref13_Check.l2 kq x5_3 x6_4 a0_0 a0_1 a0_2 a0_3 l0_4 = some r) ∧ Aside0 (kq ≤ k3) ∧ Aside0 (w'.heap[gb296]? = some (.cells #[.string a0_0, .int .i64 a0_1, .int .i64 a0_2, .int .i64 a0_3, (.slice A0_4 l0_4.length c0_4)] 34 (0, 0))) ∧ Aside0 (Below w.heap.size w w'))
            case atStart => exact ⟨(0), qT, H', ⟨Nat.le_refl _⟩, ⟨qK BK296.out⟩, ⟨qB⟩⟩
            case round =>
             clear H'
             try clear c1; try clear c2; try clear p2; try clear c3; try clear p3; try clear q3; try clear hx3; try clear p6; try clear c8; try clear c9; try clear c9b0; try clear c10; try clear c11; try clear c11b0; try clear c13; try clear c14; try clear c15; try clear c15b0 c15b1; try clear c18; try clear c20; try clear c21b0; try clear c22; try clear c22b0; try clear c23; try clear c23b0 c23b1 c23b2; try clear c25; try clear c25b0 c25b1; try clear c28b0; try clear c30; try clear p30; try clear q30; try clear hx30; try clear c31b0; try clear z10_0; try clear z12_0; try clear z16_0; try clear z17_0; try clear z18_0; try clear z19_0; try clear z24_0; try clear z26_0; try clear z27_0; try clear z29_0; try clear z30_0; try clear z32_0; try clear z6_0; try clear hx300_0; try clear hx301_0; try clear hx302_0; try clear p300; try clear p301; try clear p302; try clear q300; try clear q301; try clear q302
             obtain ⟨x6_4, rfl, HA, HK4, BK296, HB⟩ := hrel
             cases gk with
             | zero => exact absurd HA.out (by simp [cubbyref13_Check.l2])
             | succ k4 =>
              have H := HA.out
              clear HA
              simp only [cubbyref13_Check.l2] at H
              by_cases c33 : 0 ≤ x5_3
              ·rw [zC c33] at H
               have c33b0 := zF c33
               clear c33
               by_cases c34 : x5_3 < (l0_4.length : Int)
               ·rw [zC c34] at H
                have c34b0 := zF c34
                clear c34
                by_cases c35 : x6_4 < ((rd_LIns l0_4 x5_3).length : Int)
                ·rw [zC c35] at H
                 have c35b0 := zF c35
                 clear c35
                 by_cases c36 : 0 ≤ x6_4
                 ·rw [zC c36] at H
                  have c36b0 := zF c36
                  clear c36
                  replace H := qb H; obtain ⟨t307, A37, H⟩ := H
                  by_cases c38 : t307 = 0
                  ·rw [zC c38] at H
                   obtain ⟨c38b0, c38b1⟩ := qe c38; clear c38
                   have H' := zA H
                   clear H
                   have z39_0 := bk5 BK296.out
                   have p303 : 0 ≤ (x5_3 : Int) := zB qA
                   have q303 : x5_3 < (l0_4.length : Int) := zB qA
                   obtain ⟨ad303, A303_0, c303_0, e303, hx303_0, hl303_0, hi303_0⟩ := at_LIns HR0_4.out x5_3 p303 q303
                   cases e303
                   replace hx303_0 := (HB.out.cell (zE w _ hx303_0)).trans hx303_0
                   have HR303_0 := zA hi303_0
                   have HC303_0 := zA hl303_0
                   clear hi303_0 hl303_0
                   replace p303 := eq_true p303
                   replace q303 := eq_true q303
                   try go_wp2
                   have n0_ := zA (blk_drew BK296.out)
                   have n1_ := zA (below_drew1 HB.out)
                   clear BK296
                   clear HB
                   have BK296 := n0_
                   have HB := n1_
                   clear n0_ n1_
                   have p304 : 0 ≤ (x5_3 : Int) := zB qA
                   have q304 : x5_3 < (l0_4.length : Int) := zB qA
                   obtain ⟨ad304, A304_0, c304_0, e304, hx304_0, hl304_0, hi304_0⟩ := at_LIns HR0_4.out x5_3 p304 q304
                   have hw304_0 := hx304_0
                   obtain rfl : ad303 = ad304 := (by injection e304)
                   replace hx304_0 := (HB.out.cell (zE w _ hx304_0)).trans hx304_0
                   have HR304_0 := zA hi304_0
                   have HC304_0 := zA hl304_0
                   clear hi304_0 hl304_0
                   replace p304 := eq_true p304
                   replace q304 := eq_true q304
                   have p305 : 0 ≤ (x6_4 : Int) := zB qA
                   have q305 : x6_4 < ((rd_LIns l0_4 x5_3).length : Int) := zB qA
                   obtain ⟨ad305, A305_5, c305_5, e305, hx305_0, hx305_1, hx305_2, hx305_3, hx305_4, hx305_5, hl305_5, hi305_5⟩ := at_TIns HR304_0.out x6_4 p305 q305
                   have hw305_5 := hx305_5
                   have hw305_4 := hx305_4
                   have hw305_3 := hx305_3
                   have hw305_2 := hx305_2
                   have hw305_1 := hx305_1
                   have hw305_0 := hx305_0
                   cases e305
                   replace hx305_0 := (HB.out.cell (zE w _ hx305_0)).trans hx305_0
                   replace hx305_1 := (HB.out.cell (zE w _ hx305_1)).trans hx305_1
                   replace hx305_2 := (HB.out.cell (zE w _ hx305_2)).trans hx305_2
                   replace hx305_3 := (HB.out.cell (zE w _ hx305_3)).trans hx305_3
                   replace hx305_4 := (HB.out.cell (zE w _ hx305_4)).trans hx305_4
                   replace hx305_5 := (HB.out.cell (zE w _ hx305_5)).trans hx305_5
                   have HR305_5 := zA hi305_5
                   have HC305_5 := zA hl305_5
                   clear hi305_5 hl305_5
                   replace p305 := eq_true p305
                   replace q305 := eq_true q305
                   have p306 : 0 ≤ (x5_3 : Int) := zB qA
                   have q306 : x5_3 < (l0_4.length : Int) := zB qA
                   obtain ⟨ad306, A306_0, c306_0, e306, hx306_0, hl306_0, hi306_0⟩ := at_LIns HR0_4.out x5_3 p306 q306
                   have hw306_0 := hx306_0
                   obtain rfl : ad303 = ad306 := (by injection e306)
                   replace hx306_0 := (HB.out.cell (zE w _ hx306_0)).trans hx306_0
                   have HR306_0 := zA hi306_0
                   have HC306_0 := zA hl306_0
                   clear hi306_0 hl306_0
                   replace p306 := eq_true p306
                   replace q306 := eq_true q306
                   have ea_ := zI (hx304_0.symm.trans hx306_0)
                   injection ea_ with ea_ en_ ec_
                   subst ea_
                   subst ec_
                   clear en_
                   refine start_ (n := 20) (S := fun w' => w'.cell? ⟨gb296, 0, none⟩ = some (.string a0_0) ∧ w'.cell? ⟨gb296, 1, none⟩ = some (.int .i64 a0_1) ∧ w'.cell? ⟨gb296, 2, none⟩ = some (.int .i64 a0_2) ∧ w'.cell? ⟨gb296, 3, none⟩ = some (.int .i64 a0_3) ∧ w'.cell? ⟨gb296, 4, none⟩ = some (.slice (some ad303) l0_4.length c0_4) ∧ w'.cell? (ad303.add (x5_3).toNat) = some (.slice (some ad305) (rd_LIns l0_4 x5_3).length c304_0) ∧ w'.cell? (ad305.add ((x6_4).toNat * 6)) = some (.int .i64 ((rd_TIns (rd_LIns l0_4 x5_3) x6_4).f0)) ∧ w'.cell? ⟨(ad305.add ((x6_4).toNat * 6)).block, (ad305.add ((x6_4).toNat * 6)).off + 1, none⟩ = some (.int .i64 ((rd_TIns (rd_LIns l0_4 x5_3) x6_4).f1)) ∧ w'.cell? ⟨(ad305.add ((x6_4).toNat * 6)).block, (ad305.add ((x6_4).toNat * 6)).off + 2, none⟩ = some (.int .i64 ((rd_TIns (rd_LIns l0_4 x5_3) x6_4).f2)) ∧ w'.cell? ⟨(ad305.add ((x6_4).toNat * 6)).block, (ad305.add ((x6_4).toNat * 6)).off + 3, none⟩ = some (.int .i64 ((rd_TIns (rd_LIns l0_4 x5_3) x6_4).f3)) ∧ w'.cell? ⟨(ad305.add ((x6_4).toNat * 6)).block, (ad305.add ((x6_4).toNat * 6)).off + 4, none⟩ = some (.string ((rd_TIns (rd_LIns l0_4 x5_3) x6_4).f4)) ∧ w'.cell? ⟨(ad305.add ((x6_4).toNat * 6)).block, (ad305.add ((x6_4).toNat * 6)).off + 5, none⟩ = some (.slice A305_5 ((rd_TIns (rd_LIns l0_4 x5_3) x6_4).f5).length c305_5) ∧ w'.cell? (ad303.add (x5_3).toNat) = some (.slice (some ad305) (rd_LIns l0_4 x5_3).length c304_0)) (ds := []) (bA 20 0) (by kernel_rfl) rfl rfl ⟨(blk_cell BK296.out 0).trans rfl, (blk_cell BK296.out 1).trans rfl, (blk_cell BK296.out 2).trans rfl, (blk_cell BK296.out 3).trans rfl, (blk_cell BK296.out 4).trans rfl, ((HB.out.cell (zE w _ hw304_0)).trans hw304_0), ((HB.out.cell (zE w _ hw305_0)).trans hw305_0), ((HB.out.cell (zE w _ hw305_1)).trans hw305_1), ((HB.out.cell (zE w _ hw305_2)).trans hw305_2), ((HB.out.cell (zE w _ hw305_3)).trans hw305_3), ((HB.out.cell (zE w _ hw305_4)).trans hw305_4), ((HB.out.cell (zE w _ hw305_5)).trans hw305_5), ((HB.out.cell (zE w _ hw306_0)).trans hw306_0)⟩ (fun hHeld => ?_); refine with_tabW cubbyref13_Check.tab20 cubbyref13_Check.bits20 (fun HT_ HW_ => ?_)
                   generalize wr.drew = w40 at BK296 HB HR304_0 HR305_5 HR306_0 hx304_0 hx305_0 hx305_1 hx305_2 hx305_3 hx305_4 hx305_5 hx306_0 hHeld ⊢
                   refine pu_ (i := 0) (N := some 94) (bA 20 1) ?_
                   refine pu_ (i := 2) (N := some 96) (bA 20 5) ?_
                   refine pu_ (i := 5) (N := some 99) (bA 20 37) ?_
                   refine pu_ (i := 9) (N := some 103) (bA 20 549) ?_
                   refine pu_ (i := 10) (N := some 104) (bA 20 1573) ?_
                   refine pu_ (i := 12) (N := some 106) (bA 20 5669) ?_
                   refine tk_ (i := 1) (N := some 95) (bA 20 5671) ?_
                   refine pu_ (i := 3) (N := some 97) (bA 20 5679) ?_
                   refine tk_ (i := 4) (N := some 98) (bA 20 5695) ?_
                   refine pu_ (i := 6) (N := some 100) (bA 20 5759) ?_
                   refine tk_ (i := 7) (N := some 101) (bA 20 5887) ?_
                   refine tk_ (i := 8) (N := some 102) (bA 20 6143) ?_
                   refine tk_ (i := 11) (N := some 105) (bA 20 8191) ?_
                   refine pu_ (i := 13) (N := some 107) (bA 20 16383) ?_
                   refine tk_ (i := 14) (N := some 108) (bA 20 32767) ?_
                   refine pu_ (i := 15) (N := some 109) (bA 20 65535) ?_
                   refine pu_ (i := 16) (N := some 110) (bA 20 131071) ?_
                   refine pu_ (i := 17) (N := some 111) (bA 20 262143) ?_
                   refine one_ (i := 18) (N := some 112) (bA 20 524287) rfl rfl (one_of HT_.out (by kernel_rfl)) (by decide) (fun K hK => ?_)
                   refine goes_ Tryd.func19 (by kernel_rfl) rfl #[.agg #[.int .i64 ((rd_TIns (rd_LIns l0_4 x5_3) x6_4).f0), .int .i64 ((rd_TIns (rd_LIns l0_4 x5_3) x6_4).f1), .int .i64 ((rd_TIns (rd_LIns l0_4 x5_3) x6_4).f2), .int .i64 ((rd_TIns (rd_LIns l0_4 x5_3) x6_4).f3), .string ((rd_TIns (rd_LIns l0_4 x5_3) x6_4).f4), .slice A305_5 ((rd_TIns (rd_LIns l0_4 x5_3) x6_4).f5).length c305_5], .agg #[.string a0_0, .int .i64 a0_1, .int .i64 a0_2, .int .i64 a0_3, .slice (some ad303) l0_4.length c0_4], .bool (x6_4 == (wrap64 (((rd_LIns l0_4 x5_3).length : Int) - 1)))] (by rfl) rfl rfl qL ?_
                   with_reducible refine (cubbyref13_one.calls k4 ((rd_TIns (rd_LIns l0_4 x5_3) x6_4).f0) ((rd_TIns (rd_LIns l0_4 x5_3) x6_4).f1) ((rd_TIns (rd_LIns l0_4 x5_3) x6_4).f2) ((rd_TIns (rd_LIns l0_4 x5_3) x6_4).f3) ((rd_TIns (rd_LIns l0_4 x5_3) x6_4).f4) _ _ ((rd_TIns (rd_LIns l0_4 x5_3) x6_4).f5) a0_0 a0_1 a0_2 a0_3 _ _ l0_4 (x6_4 == (wrap64 (((rd_LIns l0_4 x5_3).length : Int) - 1))) t307 _ ?side1 ?side2 ?side3 ?side4 A37.out).mono ?_
                   (case side1 => exact qCB HR305_5.out)
                   (case side2 => exact HC305_5.out)
                   (case side3 => exact qCB HR0_4.out)
                   (case side4 => exact HC0_4.out)
                   rintro e w41 ⟨rfl, hb⟩
                   refine ⟨_, rfl, ?_⟩
                   have n0_ := qW BK296 hb
                   have n1_ := qH hb
                   clear BK296
                   clear HB
                   have BK296 := n0_
                   have HB := n1_
                   clear n0_ n1_
                   (try clear hb)
                   (try clear hb2)
                   (try clear hk)
                   (try clear hi)
                   refine hK.out _ _ ⟨(blk_cell BK296.out 0).trans rfl, (blk_cell BK296.out 1).trans rfl, (blk_cell BK296.out 2).trans rfl, (blk_cell BK296.out 3).trans rfl, (blk_cell BK296.out 4).trans rfl, ((HB.out.cell (zE w _ hw304_0)).trans hw304_0), ((HB.out.cell (zE w _ hw305_0)).trans hw305_0), ((HB.out.cell (zE w _ hw305_1)).trans hw305_1), ((HB.out.cell (zE w _ hw305_2)).trans hw305_2), ((HB.out.cell (zE w _ hw305_3)).trans hw305_3), ((HB.out.cell (zE w _ hw305_4)).trans hw305_4), ((HB.out.cell (zE w _ hw305_5)).trans hw305_5), ((HB.out.cell (zE w _ hw306_0)).trans hw306_0)⟩ (fun hHeld => ?_)
                   clear hK K
                   refine norm_ (a' := ?_) ?_ ?_
                   rotate_left
                   ·show Act.put _ (some 112) _ = _
                    simp only [Act.put, List.setIfInBounds_toArray, List.set_cons_zero, List.set_cons_succ, i64_w, i32_w]
                    rfl
                   refine pu_ (i := 19) (N := some 7) (bA 20 1048575) ?_
                   refine done_ (done_of HT_.out (by kernel_rfl)) ?_
                   try go_wp2
                   go_roundg k4
                   case measure => have := HJ3.out; have := HK2.out; have := HK3.out; have := HK4.out; omega
                   case rel => exact ⟨(wrap64 (x6_4 + 1)), qT, H', ⟨by have := HJ3.out; have := HK2.out; have := HK3.out; have := HK4.out; omega⟩, ⟨qK BK296.out⟩, ⟨qB⟩⟩
                  ·rw [zD c38] at H
                   obtain ⟨c38b0, c38b1⟩ := qn c38
                   obtain rfl := zI H
                   have z42_0 := bk5 BK296.out
                   have p303 : 0 ≤ (x5_3 : Int) := zB qA
                   have q303 : x5_3 < (l0_4.length : Int) := zB qA
                   obtain ⟨ad303, A303_0, c303_0, e303, hx303_0, hl303_0, hi303_0⟩ := at_LIns HR0_4.out x5_3 p303 q303
                   cases e303
                   replace hx303_0 := (HB.out.cell (zE w _ hx303_0)).trans hx303_0
                   have HR303_0 := zA hi303_0
                   have HC303_0 := zA hl303_0
                   clear hi303_0 hl303_0
                   replace p303 := eq_true p303
                   replace q303 := eq_true q303
                   try go_wp2
                   have n0_ := zA (blk_drew BK296.out)
                   have n1_ := zA (below_drew1 HB.out)
                   clear BK296
                   clear HB
                   have BK296 := n0_
                   have HB := n1_
                   clear n0_ n1_
                   have p304 : 0 ≤ (x5_3 : Int) := zB qA
                   have q304 : x5_3 < (l0_4.length : Int) := zB qA
                   obtain ⟨ad304, A304_0, c304_0, e304, hx304_0, hl304_0, hi304_0⟩ := at_LIns HR0_4.out x5_3 p304 q304
                   have hw304_0 := hx304_0
                   obtain rfl : ad303 = ad304 := (by injection e304)
                   replace hx304_0 := (HB.out.cell (zE w _ hx304_0)).trans hx304_0
                   have HR304_0 := zA hi304_0
                   have HC304_0 := zA hl304_0
                   clear hi304_0 hl304_0
                   replace p304 := eq_true p304
                   replace q304 := eq_true q304
                   have p305 : 0 ≤ (x6_4 : Int) := zB qA
                   have q305 : x6_4 < ((rd_LIns l0_4 x5_3).length : Int) := zB qA
                   obtain ⟨ad305, A305_5, c305_5, e305, hx305_0, hx305_1, hx305_2, hx305_3, hx305_4, hx305_5, hl305_5, hi305_5⟩ := at_TIns HR304_0.out x6_4 p305 q305
                   have hw305_5 := hx305_5
                   have hw305_4 := hx305_4
                   have hw305_3 := hx305_3
                   have hw305_2 := hx305_2
                   have hw305_1 := hx305_1
                   have hw305_0 := hx305_0
                   cases e305
                   replace hx305_0 := (HB.out.cell (zE w _ hx305_0)).trans hx305_0
                   replace hx305_1 := (HB.out.cell (zE w _ hx305_1)).trans hx305_1
                   replace hx305_2 := (HB.out.cell (zE w _ hx305_2)).trans hx305_2
                   replace hx305_3 := (HB.out.cell (zE w _ hx305_3)).trans hx305_3
                   replace hx305_4 := (HB.out.cell (zE w _ hx305_4)).trans hx305_4
                   replace hx305_5 := (HB.out.cell (zE w _ hx305_5)).trans hx305_5
                   have HR305_5 := zA hi305_5
                   have HC305_5 := zA hl305_5
                   clear hi305_5 hl305_5
                   replace p305 := eq_true p305
                   replace q305 := eq_true q305
                   have p306 : 0 ≤ (x5_3 : Int) := zB qA
                   have q306 : x5_3 < (l0_4.length : Int) := zB qA
                   obtain ⟨ad306, A306_0, c306_0, e306, hx306_0, hl306_0, hi306_0⟩ := at_LIns HR0_4.out x5_3 p306 q306
                   have hw306_0 := hx306_0
                   obtain rfl : ad303 = ad306 := (by injection e306)
                   replace hx306_0 := (HB.out.cell (zE w _ hx306_0)).trans hx306_0
                   have HR306_0 := zA hi306_0
                   have HC306_0 := zA hl306_0
                   clear hi306_0 hl306_0
                   replace p306 := eq_true p306
                   replace q306 := eq_true q306
                   have ea_ := zI (hx304_0.symm.trans hx306_0)
                   injection ea_ with ea_ en_ ec_
                   subst ea_
                   subst ec_
                   clear en_
                   refine start_ (n := 20) (S := fun w' => w'.cell? ⟨gb296, 0, none⟩ = some (.string a0_0) ∧ w'.cell? ⟨gb296, 1, none⟩ = some (.int .i64 a0_1) ∧ w'.cell? ⟨gb296, 2, none⟩ = some (.int .i64 a0_2) ∧ w'.cell? ⟨gb296, 3, none⟩ = some (.int .i64 a0_3) ∧ w'.cell? ⟨gb296, 4, none⟩ = some (.slice (some ad303) l0_4.length c0_4) ∧ w'.cell? (ad303.add (x5_3).toNat) = some (.slice (some ad305) (rd_LIns l0_4 x5_3).length c304_0) ∧ w'.cell? (ad305.add ((x6_4).toNat * 6)) = some (.int .i64 ((rd_TIns (rd_LIns l0_4 x5_3) x6_4).f0)) ∧ w'.cell? ⟨(ad305.add ((x6_4).toNat * 6)).block, (ad305.add ((x6_4).toNat * 6)).off + 1, none⟩ = some (.int .i64 ((rd_TIns (rd_LIns l0_4 x5_3) x6_4).f1)) ∧ w'.cell? ⟨(ad305.add ((x6_4).toNat * 6)).block, (ad305.add ((x6_4).toNat * 6)).off + 2, none⟩ = some (.int .i64 ((rd_TIns (rd_LIns l0_4 x5_3) x6_4).f2)) ∧ w'.cell? ⟨(ad305.add ((x6_4).toNat * 6)).block, (ad305.add ((x6_4).toNat * 6)).off + 3, none⟩ = some (.int .i64 ((rd_TIns (rd_LIns l0_4 x5_3) x6_4).f3)) ∧ w'.cell? ⟨(ad305.add ((x6_4).toNat * 6)).block, (ad305.add ((x6_4).toNat * 6)).off + 4, none⟩ = some (.string ((rd_TIns (rd_LIns l0_4 x5_3) x6_4).f4)) ∧ w'.cell? ⟨(ad305.add ((x6_4).toNat * 6)).block, (ad305.add ((x6_4).toNat * 6)).off + 5, none⟩ = some (.slice A305_5 ((rd_TIns (rd_LIns l0_4 x5_3) x6_4).f5).length c305_5) ∧ w'.cell? (ad303.add (x5_3).toNat) = some (.slice (some ad305) (rd_LIns l0_4 x5_3).length c304_0)) (ds := []) (bA 20 0) (by kernel_rfl) rfl rfl ⟨(blk_cell BK296.out 0).trans rfl, (blk_cell BK296.out 1).trans rfl, (blk_cell BK296.out 2).trans rfl, (blk_cell BK296.out 3).trans rfl, (blk_cell BK296.out 4).trans rfl, ((HB.out.cell (zE w _ hw304_0)).trans hw304_0), ((HB.out.cell (zE w _ hw305_0)).trans hw305_0), ((HB.out.cell (zE w _ hw305_1)).trans hw305_1), ((HB.out.cell (zE w _ hw305_2)).trans hw305_2), ((HB.out.cell (zE w _ hw305_3)).trans hw305_3), ((HB.out.cell (zE w _ hw305_4)).trans hw305_4), ((HB.out.cell (zE w _ hw305_5)).trans hw305_5), ((HB.out.cell (zE w _ hw306_0)).trans hw306_0)⟩ (fun hHeld => ?_); refine with_tabW cubbyref13_Check.tab20 cubbyref13_Check.bits20 (fun HT_ HW_ => ?_)
                   generalize wr.drew = w43 at BK296 HB HR304_0 HR305_5 HR306_0 hx304_0 hx305_0 hx305_1 hx305_2 hx305_3 hx305_4 hx305_5 hx306_0 hHeld ⊢
                   refine pu_ (i := 0) (N := some 94) (bA 20 1) ?_
                   refine pu_ (i := 2) (N := some 96) (bA 20 5) ?_
                   refine pu_ (i := 5) (N := some 99) (bA 20 37) ?_
                   refine pu_ (i := 9) (N := some 103) (bA 20 549) ?_
                   refine pu_ (i := 10) (N := some 104) (bA 20 1573) ?_
                   refine pu_ (i := 12) (N := some 106) (bA 20 5669) ?_
                   refine tk_ (i := 1) (N := some 95) (bA 20 5671) ?_
                   refine pu_ (i := 3) (N := some 97) (bA 20 5679) ?_
                   refine tk_ (i := 4) (N := some 98) (bA 20 5695) ?_
                   refine pu_ (i := 6) (N := some 100) (bA 20 5759) ?_
                   refine tk_ (i := 7) (N := some 101) (bA 20 5887) ?_
                   refine tk_ (i := 8) (N := some 102) (bA 20 6143) ?_
                   refine tk_ (i := 11) (N := some 105) (bA 20 8191) ?_
                   refine pu_ (i := 13) (N := some 107) (bA 20 16383) ?_
                   refine tk_ (i := 14) (N := some 108) (bA 20 32767) ?_
                   refine pu_ (i := 15) (N := some 109) (bA 20 65535) ?_
                   refine pu_ (i := 16) (N := some 110) (bA 20 131071) ?_
                   refine pu_ (i := 17) (N := some 111) (bA 20 262143) ?_
                   refine one_ (i := 18) (N := some 112) (bA 20 524287) rfl rfl (one_of HT_.out (by kernel_rfl)) (by decide) (fun K hK => ?_)
                   refine goes_ Tryd.func19 (by kernel_rfl) rfl #[.agg #[.int .i64 ((rd_TIns (rd_LIns l0_4 x5_3) x6_4).f0), .int .i64 ((rd_TIns (rd_LIns l0_4 x5_3) x6_4).f1), .int .i64 ((rd_TIns (rd_LIns l0_4 x5_3) x6_4).f2), .int .i64 ((rd_TIns (rd_LIns l0_4 x5_3) x6_4).f3), .string ((rd_TIns (rd_LIns l0_4 x5_3) x6_4).f4), .slice A305_5 ((rd_TIns (rd_LIns l0_4 x5_3) x6_4).f5).length c305_5], .agg #[.string a0_0, .int .i64 a0_1, .int .i64 a0_2, .int .i64 a0_3, .slice (some ad303) l0_4.length c0_4], .bool (x6_4 == (wrap64 (((rd_LIns l0_4 x5_3).length : Int) - 1)))] (by rfl) rfl rfl qL ?_
                   with_reducible refine (cubbyref13_one.calls k4 ((rd_TIns (rd_LIns l0_4 x5_3) x6_4).f0) ((rd_TIns (rd_LIns l0_4 x5_3) x6_4).f1) ((rd_TIns (rd_LIns l0_4 x5_3) x6_4).f2) ((rd_TIns (rd_LIns l0_4 x5_3) x6_4).f3) ((rd_TIns (rd_LIns l0_4 x5_3) x6_4).f4) _ _ ((rd_TIns (rd_LIns l0_4 x5_3) x6_4).f5) a0_0 a0_1 a0_2 a0_3 _ _ l0_4 (x6_4 == (wrap64 (((rd_LIns l0_4 x5_3).length : Int) - 1))) t307 _ ?side1 ?side2 ?side3 ?side4 A37.out).mono ?_
                   (case side1 => exact qCB HR305_5.out)
                   (case side2 => exact HC305_5.out)
                   (case side3 => exact qCB HR0_4.out)
                   (case side4 => exact HC0_4.out)
                   rintro e w44 ⟨rfl, hb⟩
                   refine ⟨_, rfl, ?_⟩
                   have n0_ := qW BK296 hb
                   have n1_ := qH hb
                   clear BK296
                   clear HB
                   have BK296 := n0_
                   have HB := n1_
                   clear n0_ n1_
                   (try clear hb)
                   (try clear hb2)
                   (try clear hk)
                   (try clear hi)
                   refine hK.out _ _ ⟨(blk_cell BK296.out 0).trans rfl, (blk_cell BK296.out 1).trans rfl, (blk_cell BK296.out 2).trans rfl, (blk_cell BK296.out 3).trans rfl, (blk_cell BK296.out 4).trans rfl, ((HB.out.cell (zE w _ hw304_0)).trans hw304_0), ((HB.out.cell (zE w _ hw305_0)).trans hw305_0), ((HB.out.cell (zE w _ hw305_1)).trans hw305_1), ((HB.out.cell (zE w _ hw305_2)).trans hw305_2), ((HB.out.cell (zE w _ hw305_3)).trans hw305_3), ((HB.out.cell (zE w _ hw305_4)).trans hw305_4), ((HB.out.cell (zE w _ hw305_5)).trans hw305_5), ((HB.out.cell (zE w _ hw306_0)).trans hw306_0)⟩ (fun hHeld => ?_)
                   clear hK K
                   refine norm_ (a' := ?_) ?_ ?_
                   rotate_left
                   ·show Act.put _ (some 112) _ = _
                    simp only [Act.put, List.setIfInBounds_toArray, List.set_cons_zero, List.set_cons_succ, i64_w, i32_w]
                    rfl
                   refine pu_ (i := 19) (N := some 7) (bA 20 1048575) ?_
                   refine done_ (done_of HT_.out (by kernel_rfl)) ?_
                   try go_wp2
                   go_ret
                   exact ⟨qE, qB⟩
                 ·rw [zD c36] at H
                  exact absurd H (by simp)
                ·rw [zD c35] at H
                 have c35b0 := zG c35
                 clear c35
                 have H' := zA H
                 clear H
                 have z45_0 := bk5 BK296.out
                 have p303 : 0 ≤ (x5_3 : Int) := zB qA
                 have q303 : x5_3 < (l0_4.length : Int) := zB qA
                 obtain ⟨ad303, A303_0, c303_0, e303, hx303_0, hl303_0, hi303_0⟩ := at_LIns HR0_4.out x5_3 p303 q303
                 cases e303
                 replace hx303_0 := (HB.out.cell (zE w _ hx303_0)).trans hx303_0
                 have HR303_0 := zA hi303_0
                 have HC303_0 := zA hl303_0
                 clear hi303_0 hl303_0
                 replace p303 := eq_true p303
                 replace q303 := eq_true q303
                 go_wp2
                 go_roundg k4
                 case measure => have := HJ3.out; have := HK2.out; have := HK3.out; have := HK4.out; omega
                 case rel => exact ⟨(wrap64 (x5_3 + 1)), qT, H', ⟨by have := HJ3.out; have := HK2.out; have := HK3.out; have := HK4.out; omega⟩, ⟨qK BK296.out⟩, ⟨qB⟩⟩
               ·rw [zD c34] at H
                exact absurd H (by simp)
              ·rw [zD c33] at H
               exact absurd H (by simp)
           ·rw [zD c31] at H
            have c31b0 := zG c31
            clear c31
            obtain rfl := zI H
            have z46_0 := bk5 BK296.out
            go_wp2
            go_ret
            exact ⟨qE, qB⟩
 ·replace c3 := Bool.eq_false_iff.mpr c3
  subst c3
  have H1 : (some 70) = some r := by rw [zD (show ¬ (false = true) by decide)] at H; exact H
  clear H
  have H := H1
  clear H1
  obtain rfl := zI H
  go_enter Tryd.func10, Tryd.ntmps10
  go_wp2_with (first | ((with_reducible refine gate_dst (N := 1) rfl ?_); (try (refine gate_guard (by rfl) ?_; dsimp only)); refine box_event (by rfl) (N := 1) (by rfl) (cs := #[.string a0_0, .int .i64 a0_1, .int .i64 a0_2, .int .i64 a0_3, .slice A0_4 l0_4.length c0_4]) (t := 34) ?hr ?_; (case hr => go_simp <;> rfl); intro gb296 hg w47 hbox hb; have BK296 := zA (hbox); have GW296 := qG hg; have GE296 := GW296; replace HB := qH hb; clear hb hbox hg; have z48_0 := bk5 BK296.out) | ((with_reducible refine gate_callee (f := 13) rfl ?_); refine goesL_ (some 10) rfl rfl Tryd.func13 (by kernel_rfl) rfl #[.string a0_0] rfl qL ?_; (with_reducible refine (cubbyref07_Name.calls k a0_0 false _ A2.out).mono ?_); rintro e w' ⟨rfl, ⟨nd, rfl⟩⟩; refine ⟨_, rfl, ?_⟩))
  go_ret
  exact ⟨qE, qB⟩

mutual
def cubbylaw13_heavy.j0 : Nat → Bool → ByteArray → Int → Int → Int → List (List (SIns)) → Option (Bool)
 | 0, _, _, _, _, _, _ => none
 | k + 1, x15, x219000, x219001, x219002, x219003, x219004 => if x15 = true then (some true) else (cubbylaw13_heavy.l0 k 0 0 x219000 x219001 x219002 x219003 x219004)
def cubbylaw13_heavy.l0 : Nat → Int → Int → ByteArray → Int → Int → Int → List (List (SIns)) → Option (Bool)
 | 0, _, _, _, _, _, _, _ => none
 | k + 1, x3, x4, x219000, x219001, x219002, x219003, x219004 => if x4 < (x219004.length : Int) then (cubbylaw13_heavy.j2 k x3 x4 (decide (x3 ≤ 2000)) x219000 x219001 x219002 x219003 x219004) else (cubbylaw13_heavy.j2 k x3 x4 false x219000 x219001 x219002 x219003 x219004)
def cubbylaw13_heavy.j2 : Nat → Int → Int → Bool → ByteArray → Int → Int → Int → List (List (SIns)) → Option (Bool)
 | 0, _, _, _, _, _, _, _, _ => none
 | k + 1, x3, x4, x24, x219000, x219001, x219002, x219003, x219004 => if x24 = true then (if 0 ≤ x4 then (if x4 < (x219004.length : Int) then (cubbylaw13_heavy.l1 k (wrap64 (x3 + (mn ((rd_LIns x219004 x4).length : Int) 1048576))) x4 0 x219000 x219001 x219002 x219003 x219004) else (none)) else (none)) else (some (decide (x3 > 2000)))
def cubbylaw13_heavy.l1 : Nat → Int → Int → Int → ByteArray → Int → Int → Int → List (List (SIns)) → Option (Bool)
 | 0, _, _, _, _, _, _, _, _ => none
 | k + 1, x3, x4, x5, x219000, x219001, x219002, x219003, x219004 => if 0 ≤ x4 then (if x4 < (x219004.length : Int) then (if x5 < ((rd_LIns x219004 x4).length : Int) then (cubbylaw13_heavy.j4 k x3 x4 x5 (decide (x5 ≤ 2000)) x219000 x219001 x219002 x219003 x219004) else (cubbylaw13_heavy.j4 k x3 x4 x5 false x219000 x219001 x219002 x219003 x219004)) else (none)) else (none)
def cubbylaw13_heavy.j4 : Nat → Int → Int → Int → Bool → ByteArray → Int → Int → Int → List (List (SIns)) → Option (Bool)
 | 0, _, _, _, _, _, _, _, _, _ => none
 | k + 1, x3, x4, x5, x47, x219000, x219001, x219002, x219003, x219004 => if x47 = true then (if 0 ≤ x4 then (if x4 < (x219004.length : Int) then (if 0 ≤ x5 then (if x5 < ((rd_LIns x219004 x4).length : Int) then (if (((rd_TIns (rd_LIns x219004 x4) x5).f5).length : Int) > 50 then (some true) else (if (((rd_TIns (rd_LIns x219004 x4) x5).f4).size : Int) > 256 then (some true) else (cubbylaw13_heavy.l1 k x3 x4 (wrap64 (x5 + 1)) x219000 x219001 x219002 x219003 x219004))) else (none)) else (none)) else (none)) else (none)) else (cubbylaw13_heavy.l0 k x3 (wrap64 (x4 + 1)) x219000 x219001 x219002 x219003 x219004)
end
def cubbylaw13_heavy.f (k : Nat) (a0_0 : ByteArray) (a0_1 : Int) (a0_2 : Int) (a0_3 : Int) (l0_4 : List (List (SIns))) : Option (Bool) := if (l0_4.length : Int) > 50 then (cubbylaw13_heavy.j0 k true a0_0 a0_1 a0_2 a0_3 l0_4) else (cubbylaw13_heavy.j0 k (decide ((a0_0.size : Int) > 256)) a0_0 a0_1 a0_2 a0_3 l0_4)
set_option maxHeartbeats 8000000 in
set_option maxRecDepth 100000 in
theorem cubbylaw13_heavy.calls (k : Nat) (a0_0 : ByteArray) (a0_1 : Int) (a0_2 : Int) (a0_3 : Int) (A0_4 : Option Addr) (c0_4 : Nat) (l0_4 : List (List (SIns))) (r : Bool) (w : World) (hr0_4 : Kd.C (Kd.slice 31 kIns) w A0_4 l0_4.length l0_4) (hc0_4 : l0_4.length ≤ c0_4) (h : cubbylaw13_heavy.f k a0_0 a0_1 a0_2 a0_3 l0_4 = some r) :
 Calls Tryd.prog 8 #[.agg #[.string a0_0, .int .i64 a0_1, .int .i64 a0_2, .int .i64 a0_3, .slice A0_4 l0_4.length c0_4]] w fun e w' => e = .returned (.bool r) ∧ Below w.heap.size w w' := by
 have hu34 := Tryd.underlying34
 have HR0_4 := zA hr0_4
 have HC0_4 := zA hc0_4
 clear hr0_4 hc0_4
 have HB := zA (Below.refl w.heap.size w)
 have H := h; clear h; unfold cubbylaw13_heavy.f at H
 have HC2 := zA H
 clear H
 go_enter Tryd.func8, Tryd.ntmps8
 go_upto_region 1 with (first | ((with_reducible refine gate_dst (N := 1) rfl ?_); (try (refine gate_guard (by rfl) ?_; dsimp only)); refine box_event (by rfl) (N := 1) (by rfl) (cs := #[.string a0_0, .int .i64 a0_1, .int .i64 a0_2, .int .i64 a0_3, .slice A0_4 l0_4.length c0_4]) (t := 34) ?hr ?_; (case hr => go_simp <;> rfl); intro gb218 hg w3 hbox hb; have BK218 := zA (hbox); have GW218 := qG hg; have GE218 := GW218; replace HB := qH hb; clear hb hbox hg))
 (try simp only [Act.put, List.setIfInBounds_toArray, List.set_cons_zero, List.set_cons_succ])
 go_cut [15] (fun v15 wc => ∃ (kq : Nat) (x15_1 : Bool), v15 = .bool x15_1 ∧ Aside0 (cubbylaw13_heavy.j0 kq x15_1 a0_0 a0_1 a0_2 a0_3 l0_4 = some r) ∧ Aside0 (kq ≤ k) ∧ Aside0 (wc.heap[gb218]? = some (.cells #[.string a0_0, .int .i64 a0_1, .int .i64 a0_2, .int .i64 a0_3, (.slice A0_4 l0_4.length c0_4)] 34 (0, 0))) ∧ Aside0 (Below w.heap.size w wc))
 case first =>
  have H := HC2.out
  clear HC2
  by_cases c4 : (l0_4.length : Int) > 50
  ·rw [zC c4] at H
   have c4b0 : decide (50 < (l0_4.length : Int)) = true := zF c4
   have c4b1 : decide (50 < l0_4.length) = true := zF (by omega)
   clear c4
   (first | rw [c4b0] | (simp only [i64_w, i32_w]; rw [c4b0]) | skip)
   have H' := zA H
   clear H
   have z5_0 := bk5 BK218.out
   go_wp2
   go_meet
   case rel => exact ⟨_, (true), qT, H', ⟨qO⟩, ⟨qK BK218.out⟩, ⟨qB⟩⟩
  ·rw [zD c4] at H
   have c4b0 : decide (50 < (l0_4.length : Int)) = false := zG c4
   have c4b1 : decide (50 < l0_4.length) = false := zG (by omega)
   clear c4
   (first | rw [c4b0] | (simp only [i64_w, i32_w]; rw [c4b0]) | skip)
   have H' := zA H
   clear H
   have z6_0 := bk5 BK218.out
   go_wp2
   go_meet
   case rel => exact ⟨_, (decide ((a0_0.size : Int) > 256)), qT, H', ⟨qO⟩, ⟨qK BK218.out⟩, ⟨qB⟩⟩
 case rest =>
  clear HC2
  try clear p2; try clear c4; try clear c4b0 c4b1; try clear z5_0; try clear z6_0
  obtain ⟨kq, x15_1, rfl, HA, HJ1, BK218, HB⟩ := hcut
  cases kq with
  | zero => exact absurd HA.out (by simp [cubbylaw13_heavy.j0])
  | succ kj1 =>
   have H := HA.out
   clear HA
   simp only [cubbylaw13_heavy.j0] at H
   by_cases c7 : x15_1 = true
   ·subst c7
    have H1 : (some true) = some r := by rw [zC rfl] at H; exact H
    clear H
    have H := H1
    clear H1
    obtain rfl := zI H
    go_wp2
    go_ret
    exact ⟨qE, qB⟩
   ·replace c7 := Bool.eq_false_iff.mpr c7
    subst c7
    have H1 : (cubbylaw13_heavy.l0 kj1 0 0 a0_0 a0_1 a0_2 a0_3 l0_4) = some r := by rw [zD (show ¬ (false = true) by decide)] at H; exact H
    clear H
    have H := H1
    clear H1
    have H' := zA H
    clear H
    go_wp2
    go_loopg [3, 4] kj1 (fun kq v3 v4 w' => ∃ (x3_2 : Int) (x4_2 : Int), v3 = .int .i64 x3_2 ∧ v4 = .int .i64 x4_2 ∧ Aside0 (cubbylaw13_heavy.l0 kq x3_2 x4_2 a0_0 a0_1 a0_2 a0_3 l0_4 = some r) ∧ Aside0 (kq ≤ kj1) ∧ Aside0 (w'.heap[gb218]? = some (.cells #[.string a0_0, .int .i64 a0_1, .int .i64 a0_2, .int .i64 a0_3, (.slice A0_4 l0_4.length c0_4)] 34 (0, 0))) ∧ Aside0 (Below w.heap.size w w'))
    case atStart => exact ⟨(0), (0), qT, qT, H', ⟨Nat.le_refl _⟩, ⟨qK BK218.out⟩, ⟨qB⟩⟩
    case round =>
     clear H'
     try clear p2; try clear c4; try clear c4b0 c4b1; try clear c7; try clear z5_0; try clear z6_0
     obtain ⟨x3_2, x4_2, rfl, rfl, HA, HK2, BK218, HB⟩ := hrel
     cases gk with
     | zero => exact absurd HA.out (by simp [cubbylaw13_heavy.l0])
     | succ k2 =>
      have H := HA.out
      clear HA
      simp only [cubbylaw13_heavy.l0] at H
      have HC8 := zA H
      clear H
      go_upto_region 5 with (fail)
      go_cut [24] (fun v24 wc => ∃ (kq : Nat) (x24_7 : Bool), v24 = .bool x24_7 ∧ Aside0 (cubbylaw13_heavy.j2 kq x3_2 x4_2 x24_7 a0_0 a0_1 a0_2 a0_3 l0_4 = some r) ∧ Aside0 (kq ≤ k2) ∧ Aside0 (wc.heap[gb218]? = some (.cells #[.string a0_0, .int .i64 a0_1, .int .i64 a0_2, .int .i64 a0_3, (.slice A0_4 l0_4.length c0_4)] 34 (0, 0))) ∧ Aside0 (Below w.heap.size w wc))
      case first =>
       have H := HC8.out
       clear HC8
       by_cases c9 : x4_2 < (l0_4.length : Int)
       ·rw [zC c9] at H
        have c9b0 := zF c9
        clear c9
        (first | rw [c9b0] | (simp only [i64_w, i32_w]; rw [c9b0]) | skip)
        have H' := zA H
        clear H
        have z10_0 := bk5 BK218.out
        go_wp2
        go_meet
        case rel => exact ⟨_, (decide (x3_2 ≤ 2000)), qT, H', ⟨by have := HJ1.out; have := HK2.out; first | omega | exact Nat.le_refl _⟩, ⟨qK BK218.out⟩, ⟨qB⟩⟩
       ·rw [zD c9] at H
        have c9b0 := zG c9
        clear c9
        (first | rw [c9b0] | (simp only [i64_w, i32_w]; rw [c9b0]) | skip)
        have H' := zA H
        clear H
        have z11_0 := bk5 BK218.out
        go_wp2
        go_meet
        case rel => exact ⟨_, (false), qT, H', ⟨by have := HJ1.out; have := HK2.out; first | omega | exact Nat.le_refl _⟩, ⟨qK BK218.out⟩, ⟨qB⟩⟩
      case rest =>
       clear HC8
       try clear p2; try clear c4; try clear c4b0 c4b1; try clear c7; try clear c8; try clear c9; try clear c9b0; try clear z10_0; try clear z11_0; try clear z5_0; try clear z6_0
       obtain ⟨kq, x24_7, rfl, HA, HJ7, BK218, HB⟩ := hcut
       cases kq with
       | zero => exact absurd HA.out (by simp [cubbylaw13_heavy.j2])
       | succ kj7 =>
        have H := HA.out
        clear HA
        simp only [cubbylaw13_heavy.j2] at H
        by_cases c12 : x24_7 = true
        ·subst c12
         have H1 : (if 0 ≤ x4_2 then (if x4_2 < (l0_4.length : Int) then (cubbylaw13_heavy.l1 kj7 (wrap64 (x3_2 + (mn ((rd_LIns l0_4 x4_2).length : Int) 1048576))) x4_2 0 a0_0 a0_1 a0_2 a0_3 l0_4) else (none)) else (none)) = some r := by rw [zC rfl] at H; exact H
         clear H
         have H := H1
         clear H1
         by_cases c13 : 0 ≤ x4_2
         ·rw [zC c13] at H
          have c13b0 := zF c13
          clear c13
          by_cases c14 : x4_2 < (l0_4.length : Int)
          ·rw [zC c14] at H
           have c14b0 := zF c14
           clear c14
           obtain ⟨ji15, hji15⟩ : ∃ j_ : Int, (mn ((rd_LIns l0_4 x4_2).length : Int) 1048576) = j_ := ⟨_, rfl⟩
           replace H : (cubbylaw13_heavy.l1 kj7 (wrap64 (x3_2 + (ji15))) x4_2 0 a0_0 a0_1 a0_2 a0_3 l0_4) = some r := by first | (rw [hji15] at H; exact H) | (simp only [hji15] at H ⊢; exact H)
           have hji15_ : (if 1048576 < ((rd_LIns l0_4 x4_2).length : Int) then 1048576 else ((rd_LIns l0_4 x4_2).length : Int)) = ji15 := hji15
           have H' := zA H
           clear H
           have z16_0 := bk5 BK218.out
           have p219 : 0 ≤ (x4_2 : Int) := zB qA
           have q219 : x4_2 < (l0_4.length : Int) := zB qA
           obtain ⟨ad219, A219_0, c219_0, e219, hx219_0, hl219_0, hi219_0⟩ := at_LIns HR0_4.out x4_2 p219 q219
           cases e219
           replace hx219_0 := (HB.out.cell (zE w _ hx219_0)).trans hx219_0
           have HR219_0 := zA hi219_0
           have HC219_0 := zA hl219_0
           clear hi219_0 hl219_0
           replace p219 := eq_true p219
           replace q219 := eq_true q219
           go_wp2
           go_loopg [5] kj7 (fun kq v5 w' => ∃ (x5_4 : Int), v5 = .int .i64 x5_4 ∧ Aside0 (cubbylaw13_heavy.l1 kq (wrap64 (x3_2 + (ji15))) x4_2 x5_4 a0_0 a0_1 a0_2 a0_3 l0_4 = some r) ∧ Aside0 (kq ≤ kj7) ∧ Aside0 (w'.heap[gb218]? = some (.cells #[.string a0_0, .int .i64 a0_1, .int .i64 a0_2, .int .i64 a0_3, (.slice (some ad219) l0_4.length c0_4)] 34 (0, 0))) ∧ Aside0 (Below w.heap.size w w'))
           case atStart => exact ⟨(0), qT, H', ⟨Nat.le_refl _⟩, ⟨qK BK218.out⟩, ⟨qB⟩⟩
           case round =>
            clear H'
            try clear c1; try clear c2; try clear p2; try clear q2; try clear hx2; try clear c4; try clear c4b0 c4b1; try clear p6; try clear c7; try clear c8; try clear c9; try clear c9b0; try clear c12; try clear c13b0; try clear c14b0; try clear z10_0; try clear z11_0; try clear z16_0; try clear z5_0; try clear z6_0; try clear hx219_0; try clear p219; try clear q219
            obtain ⟨x5_4, rfl, HA, HK4, BK218, HB⟩ := hrel
            cases gk with
            | zero => exact absurd HA.out (by simp [cubbylaw13_heavy.l1])
            | succ k4 =>
             have H := HA.out
             clear HA
             simp only [cubbylaw13_heavy.l1] at H
             have HC17 := zA H
             clear H
             go_upto_region 9 with (fail)
             go_cut [47] (fun v47 wc => ∃ (kq : Nat) (x47_16 : Bool), v47 = .bool x47_16 ∧ Aside0 (cubbylaw13_heavy.j4 kq (wrap64 (x3_2 + (ji15))) x4_2 x5_4 x47_16 a0_0 a0_1 a0_2 a0_3 l0_4 = some r) ∧ Aside0 (kq ≤ k4) ∧ Aside0 (wc.heap[gb218]? = some (.cells #[.string a0_0, .int .i64 a0_1, .int .i64 a0_2, .int .i64 a0_3, (.slice (some ad219) l0_4.length c0_4)] 34 (0, 0))) ∧ Aside0 (Below w.heap.size w wc))
             case first =>
              have H := HC17.out
              clear HC17
              by_cases c18 : 0 ≤ x4_2
              ·rw [zC c18] at H
               have c18b0 := zF c18
               clear c18
               (first | rw [c18b0] | (simp only [i64_w, i32_w]; rw [c18b0]) | skip)
               by_cases c19 : x4_2 < (l0_4.length : Int)
               ·rw [zC c19] at H
                have c19b0 := zF c19
                clear c19
                by_cases c20 : x5_4 < ((rd_LIns l0_4 x4_2).length : Int)
                ·rw [zC c20] at H
                 have c20b0 := zF c20
                 clear c20
                 have H' := zA H
                 clear H
                 have z21_0 := bk5 BK218.out
                 have p220 : 0 ≤ (x4_2 : Int) := zB qA
                 have q220 : x4_2 < (l0_4.length : Int) := zB qA
                 obtain ⟨ad220, A220_0, c220_0, e220, hx220_0, hl220_0, hi220_0⟩ := at_LIns HR0_4.out x4_2 p220 q220
                 obtain rfl : ad219 = ad220 := (by injection e220)
                 replace hx220_0 := (HB.out.cell (zE w _ hx220_0)).trans hx220_0
                 have HR220_0 := zA hi220_0
                 have HC220_0 := zA hl220_0
                 clear hi220_0 hl220_0
                 replace p220 := eq_true p220
                 replace q220 := eq_true q220
                 go_wp2
                 go_meet
                 case rel => exact ⟨_, (decide (x5_4 ≤ 2000)), qT, H', ⟨by have := HJ1.out; have := HK2.out; have := HJ7.out; have := HK4.out; first | omega | exact Nat.le_refl _⟩, ⟨qK BK218.out⟩, ⟨qB⟩⟩
                ·rw [zD c20] at H
                 have c20b0 := zG c20
                 clear c20
                 have H' := zA H
                 clear H
                 have z22_0 := bk5 BK218.out
                 have p220 : 0 ≤ (x4_2 : Int) := zB qA
                 have q220 : x4_2 < (l0_4.length : Int) := zB qA
                 obtain ⟨ad220, A220_0, c220_0, e220, hx220_0, hl220_0, hi220_0⟩ := at_LIns HR0_4.out x4_2 p220 q220
                 obtain rfl : ad219 = ad220 := (by injection e220)
                 replace hx220_0 := (HB.out.cell (zE w _ hx220_0)).trans hx220_0
                 have HR220_0 := zA hi220_0
                 have HC220_0 := zA hl220_0
                 clear hi220_0 hl220_0
                 replace p220 := eq_true p220
                 replace q220 := eq_true q220
                 go_wp2
                 go_meet
                 case rel => exact ⟨_, (false), qT, H', ⟨by have := HJ1.out; have := HK2.out; have := HJ7.out; have := HK4.out; first | omega | exact Nat.le_refl _⟩, ⟨qK BK218.out⟩, ⟨qB⟩⟩
               ·rw [zD c19] at H
                exact absurd H (by simp)
              ·rw [zD c18] at H
               exact absurd H (by simp)
             case rest =>
              clear HC17
              try clear c1; try clear c2; try clear p2; try clear q2; try clear hx2; try clear c4; try clear c4b0 c4b1; try clear p6; try clear c7; try clear c8; try clear c9; try clear c9b0; try clear c12; try clear c13b0; try clear c14b0; try clear c18; try clear c18b0; try clear c19; try clear c19b0; try clear c20; try clear c20b0; try clear c21; try clear p21; try clear q21; try clear hx21; try clear c22; try clear p22; try clear q22; try clear hx22; try clear z10_0; try clear z11_0; try clear z16_0; try clear z21_0; try clear z22_0; try clear z5_0; try clear z6_0; try clear hx219_0; try clear hx220_0; try clear p219; try clear p220; try clear q219; try clear q220
              obtain ⟨kq, x47_16, rfl, HA, HJ16, BK218, HB⟩ := hcut
              cases kq with
              | zero => exact absurd HA.out (by simp [cubbylaw13_heavy.j4])
              | succ kj16 =>
               have H := HA.out
               clear HA
               simp only [cubbylaw13_heavy.j4] at H
               by_cases c23 : x47_16 = true
               ·subst c23
                have H1 : (if 0 ≤ x4_2 then (if x4_2 < (l0_4.length : Int) then (if 0 ≤ x5_4 then (if x5_4 < ((rd_LIns l0_4 x4_2).length : Int) then (if (((rd_TIns (rd_LIns l0_4 x4_2) x5_4).f5).length : Int) > 50 then (some true) else (if (((rd_TIns (rd_LIns l0_4 x4_2) x5_4).f4).size : Int) > 256 then (some true) else (cubbylaw13_heavy.l1 kj16 (wrap64 (x3_2 + (ji15))) x4_2 (wrap64 (x5_4 + 1)) a0_0 a0_1 a0_2 a0_3 l0_4))) else (none)) else (none)) else (none)) else (none)) = some r := by rw [zC rfl] at H; exact H
                clear H
                have H := H1
                clear H1
                by_cases c24 : 0 ≤ x4_2
                ·rw [zC c24] at H
                 have c24b0 := zF c24
                 clear c24
                 by_cases c25 : x4_2 < (l0_4.length : Int)
                 ·rw [zC c25] at H
                  have c25b0 := zF c25
                  clear c25
                  by_cases c26 : 0 ≤ x5_4
                  ·rw [zC c26] at H
                   have c26b0 := zF c26
                   clear c26
                   by_cases c27 : x5_4 < ((rd_LIns l0_4 x4_2).length : Int)
                   ·rw [zC c27] at H
                    have c27b0 := zF c27
                    clear c27
                    by_cases c28 : (((rd_TIns (rd_LIns l0_4 x4_2) x5_4).f5).length : Int) > 50
                    ·rw [zC c28] at H
                     have c28b0 : decide (50 < (((rd_TIns (rd_LIns l0_4 x4_2) x5_4).f5).length : Int)) = true := zF c28
                     have c28b1 : decide (50 < ((rd_TIns (rd_LIns l0_4 x4_2) x5_4).f5).length) = true := zF (by omega)
                     clear c28
                     obtain rfl := zI H
                     have z29_0 := bk5 BK218.out
                     have p221 : 0 ≤ (x4_2 : Int) := zB qA
                     have q221 : x4_2 < (l0_4.length : Int) := zB qA
                     obtain ⟨ad221, A221_0, c221_0, e221, hx221_0, hl221_0, hi221_0⟩ := at_LIns HR0_4.out x4_2 p221 q221
                     obtain rfl : ad219 = ad221 := (by injection e221)
                     replace hx221_0 := (HB.out.cell (zE w _ hx221_0)).trans hx221_0
                     have HR221_0 := zA hi221_0
                     have HC221_0 := zA hl221_0
                     clear hi221_0 hl221_0
                     replace p221 := eq_true p221
                     replace q221 := eq_true q221
                     have p222 : 0 ≤ (x5_4 : Int) := zB qA
                     have q222 : x5_4 < ((rd_LIns l0_4 x4_2).length : Int) := zB qA
                     obtain ⟨ad222, A222_5, c222_5, e222, hx222_0, hx222_1, hx222_2, hx222_3, hx222_4, hx222_5, hl222_5, hi222_5⟩ := at_TIns HR221_0.out x5_4 p222 q222
                     cases e222
                     replace hx222_0 := (HB.out.cell (zE w _ hx222_0)).trans hx222_0
                     replace hx222_1 := (HB.out.cell (zE w _ hx222_1)).trans hx222_1
                     replace hx222_2 := (HB.out.cell (zE w _ hx222_2)).trans hx222_2
                     replace hx222_3 := (HB.out.cell (zE w _ hx222_3)).trans hx222_3
                     replace hx222_4 := (HB.out.cell (zE w _ hx222_4)).trans hx222_4
                     replace hx222_5 := (HB.out.cell (zE w _ hx222_5)).trans hx222_5
                     have HR222_5 := zA hi222_5
                     have HC222_5 := zA hl222_5
                     clear hi222_5 hl222_5
                     replace p222 := eq_true p222
                     replace q222 := eq_true q222
                     go_wp2
                     go_ret
                     exact ⟨by first | rfl | (simp [errW_none, errW_some] <;> rfl) | (simp only [← hji15]; first | rfl | (simp [errW_none, errW_some] <;> rfl)) | (simp [*, errW_none, errW_some] <;> rfl), qB⟩
                    ·rw [zD c28] at H
                     have c28b0 : decide (50 < (((rd_TIns (rd_LIns l0_4 x4_2) x5_4).f5).length : Int)) = false := zG c28
                     have c28b1 : decide (50 < ((rd_TIns (rd_LIns l0_4 x4_2) x5_4).f5).length) = false := zG (by omega)
                     clear c28
                     by_cases c30 : (((rd_TIns (rd_LIns l0_4 x4_2) x5_4).f4).size : Int) > 256
                     ·rw [zC c30] at H
                      have c30b0 : decide (256 < (((rd_TIns (rd_LIns l0_4 x4_2) x5_4).f4).size : Int)) = true := zF c30
                      have c30b1 : decide (256 < ((rd_TIns (rd_LIns l0_4 x4_2) x5_4).f4).size) = true := zF (by omega)
                      clear c30
                      obtain rfl := zI H
                      have z31_0 := bk5 BK218.out
                      have p221 : 0 ≤ (x4_2 : Int) := zB qA
                      have q221 : x4_2 < (l0_4.length : Int) := zB qA
                      obtain ⟨ad221, A221_0, c221_0, e221, hx221_0, hl221_0, hi221_0⟩ := at_LIns HR0_4.out x4_2 p221 q221
                      obtain rfl : ad219 = ad221 := (by injection e221)
                      replace hx221_0 := (HB.out.cell (zE w _ hx221_0)).trans hx221_0
                      have HR221_0 := zA hi221_0
                      have HC221_0 := zA hl221_0
                      clear hi221_0 hl221_0
                      replace p221 := eq_true p221
                      replace q221 := eq_true q221
                      have p222 : 0 ≤ (x5_4 : Int) := zB qA
                      have q222 : x5_4 < ((rd_LIns l0_4 x4_2).length : Int) := zB qA
                      obtain ⟨ad222, A222_5, c222_5, e222, hx222_0, hx222_1, hx222_2, hx222_3, hx222_4, hx222_5, hl222_5, hi222_5⟩ := at_TIns HR221_0.out x5_4 p222 q222
                      cases e222
                      replace hx222_0 := (HB.out.cell (zE w _ hx222_0)).trans hx222_0
                      replace hx222_1 := (HB.out.cell (zE w _ hx222_1)).trans hx222_1
                      replace hx222_2 := (HB.out.cell (zE w _ hx222_2)).trans hx222_2
                      replace hx222_3 := (HB.out.cell (zE w _ hx222_3)).trans hx222_3
                      replace hx222_4 := (HB.out.cell (zE w _ hx222_4)).trans hx222_4
                      replace hx222_5 := (HB.out.cell (zE w _ hx222_5)).trans hx222_5
                      have HR222_5 := zA hi222_5
                      have HC222_5 := zA hl222_5
                      clear hi222_5 hl222_5
                      replace p222 := eq_true p222
                      replace q222 := eq_true q222
                      have p223 : 0 ≤ (x4_2 : Int) := zB qA
                      have q223 : x4_2 < (l0_4.length : Int) := zB qA
                      obtain ⟨ad223, A223_0, c223_0, e223, hx223_0, hl223_0, hi223_0⟩ := at_LIns HR0_4.out x4_2 p223 q223
                      obtain rfl : ad219 = ad223 := (by injection e223)
                      replace hx223_0 := (HB.out.cell (zE w _ hx223_0)).trans hx223_0
                      have HR223_0 := zA hi223_0
                      have HC223_0 := zA hl223_0
                      clear hi223_0 hl223_0
                      replace p223 := eq_true p223
                      replace q223 := eq_true q223
                      have ea_ := zI (hx221_0.symm.trans hx223_0)
                      injection ea_ with ea_ en_ ec_
                      subst ea_
                      subst ec_
                      clear en_
                      have p224 : 0 ≤ (x5_4 : Int) := zB qA
                      have q224 : x5_4 < ((rd_LIns l0_4 x4_2).length : Int) := zB qA
                      obtain ⟨ad224, A224_5, c224_5, e224, hx224_0, hx224_1, hx224_2, hx224_3, hx224_4, hx224_5, hl224_5, hi224_5⟩ := at_TIns HR223_0.out x5_4 p224 q224
                      cases e224
                      replace hx224_0 := (HB.out.cell (zE w _ hx224_0)).trans hx224_0
                      replace hx224_1 := (HB.out.cell (zE w _ hx224_1)).trans hx224_1
                      replace hx224_2 := (HB.out.cell (zE w _ hx224_2)).trans hx224_2
                      replace hx224_3 := (HB.out.cell (zE w _ hx224_3)).trans hx224_3
                      replace hx224_4 := (HB.out.cell (zE w _ hx224_4)).trans hx224_4
                      replace hx224_5 := (HB.out.cell (zE w _ hx224_5)).trans hx224_5
                      have HR224_5 := zA hi224_5
                      have HC224_5 := zA hl224_5
                      clear hi224_5 hl224_5
                      replace p224 := eq_true p224
                      replace q224 := eq_true q224
                      go_wp2
                      go_ret
                      exact ⟨by first | rfl | (simp [errW_none, errW_some] <;> rfl) | (simp only [← hji15]; first | rfl | (simp [errW_none, errW_some] <;> rfl)) | (simp [*, errW_none, errW_some] <;> rfl), qB⟩
                     ·rw [zD c30] at H
                      have c30b0 : decide (256 < (((rd_TIns (rd_LIns l0_4 x4_2) x5_4).f4).size : Int)) = false := zG c30
                      have c30b1 : decide (256 < ((rd_TIns (rd_LIns l0_4 x4_2) x5_4).f4).size) = false := zG (by omega)
                      clear c30
                      have H' := zA H
                      clear H
                      have z32_0 := bk5 BK218.out
                      have p221 : 0 ≤ (x4_2 : Int) := zB qA
                      have q221 : x4_2 < (l0_4.length : Int) := zB qA
                      obtain ⟨ad221, A221_0, c221_0, e221, hx221_0, hl221_0, hi221_0⟩ := at_LIns HR0_4.out x4_2 p221 q221
                      obtain rfl : ad219 = ad221 := (by injection e221)
                      replace hx221_0 := (HB.out.cell (zE w _ hx221_0)).trans hx221_0
                      have HR221_0 := zA hi221_0
                      have HC221_0 := zA hl221_0
                      clear hi221_0 hl221_0
                      replace p221 := eq_true p221
                      replace q221 := eq_true q221
                      have p222 : 0 ≤ (x5_4 : Int) := zB qA
                      have q222 : x5_4 < ((rd_LIns l0_4 x4_2).length : Int) := zB qA
                      obtain ⟨ad222, A222_5, c222_5, e222, hx222_0, hx222_1, hx222_2, hx222_3, hx222_4, hx222_5, hl222_5, hi222_5⟩ := at_TIns HR221_0.out x5_4 p222 q222
                      cases e222
                      replace hx222_0 := (HB.out.cell (zE w _ hx222_0)).trans hx222_0
                      replace hx222_1 := (HB.out.cell (zE w _ hx222_1)).trans hx222_1
                      replace hx222_2 := (HB.out.cell (zE w _ hx222_2)).trans hx222_2
                      replace hx222_3 := (HB.out.cell (zE w _ hx222_3)).trans hx222_3
                      replace hx222_4 := (HB.out.cell (zE w _ hx222_4)).trans hx222_4
                      replace hx222_5 := (HB.out.cell (zE w _ hx222_5)).trans hx222_5
                      have HR222_5 := zA hi222_5
                      have HC222_5 := zA hl222_5
                      clear hi222_5 hl222_5
                      replace p222 := eq_true p222
                      replace q222 := eq_true q222
                      have p223 : 0 ≤ (x4_2 : Int) := zB qA
                      have q223 : x4_2 < (l0_4.length : Int) := zB qA
                      obtain ⟨ad223, A223_0, c223_0, e223, hx223_0, hl223_0, hi223_0⟩ := at_LIns HR0_4.out x4_2 p223 q223
                      obtain rfl : ad219 = ad223 := (by injection e223)
                      replace hx223_0 := (HB.out.cell (zE w _ hx223_0)).trans hx223_0
                      have HR223_0 := zA hi223_0
                      have HC223_0 := zA hl223_0
                      clear hi223_0 hl223_0
                      replace p223 := eq_true p223
                      replace q223 := eq_true q223
                      have ea_ := zI (hx221_0.symm.trans hx223_0)
                      injection ea_ with ea_ en_ ec_
                      subst ea_
                      subst ec_
                      clear en_
                      have p224 : 0 ≤ (x5_4 : Int) := zB qA
                      have q224 : x5_4 < ((rd_LIns l0_4 x4_2).length : Int) := zB qA
                      obtain ⟨ad224, A224_5, c224_5, e224, hx224_0, hx224_1, hx224_2, hx224_3, hx224_4, hx224_5, hl224_5, hi224_5⟩ := at_TIns HR223_0.out x5_4 p224 q224
                      cases e224
                      replace hx224_0 := (HB.out.cell (zE w _ hx224_0)).trans hx224_0
                      replace hx224_1 := (HB.out.cell (zE w _ hx224_1)).trans hx224_1
                      replace hx224_2 := (HB.out.cell (zE w _ hx224_2)).trans hx224_2
                      replace hx224_3 := (HB.out.cell (zE w _ hx224_3)).trans hx224_3
                      replace hx224_4 := (HB.out.cell (zE w _ hx224_4)).trans hx224_4
                      replace hx224_5 := (HB.out.cell (zE w _ hx224_5)).trans hx224_5
                      have HR224_5 := zA hi224_5
                      have HC224_5 := zA hl224_5
                      clear hi224_5 hl224_5
                      replace p224 := eq_true p224
                      replace q224 := eq_true q224
                      go_wp2
                      go_roundg kj16
                      case measure => have := HJ1.out; have := HK2.out; have := HJ7.out; have := HK4.out; have := HJ16.out; omega
                      case rel => exact ⟨(wrap64 (x5_4 + 1)), qT, H', ⟨by have := HJ1.out; have := HK2.out; have := HJ7.out; have := HK4.out; have := HJ16.out; omega⟩, ⟨qK BK218.out⟩, ⟨qB⟩⟩
                   ·rw [zD c27] at H
                    exact absurd H (by simp)
                  ·rw [zD c26] at H
                   exact absurd H (by simp)
                 ·rw [zD c25] at H
                  exact absurd H (by simp)
                ·rw [zD c24] at H
                 exact absurd H (by simp)
               ·replace c23 := Bool.eq_false_iff.mpr c23
                subst c23
                have H1 : (cubbylaw13_heavy.l0 kj16 (wrap64 (x3_2 + (ji15))) (wrap64 (x4_2 + 1)) a0_0 a0_1 a0_2 a0_3 l0_4) = some r := by rw [zD (show ¬ (false = true) by decide)] at H; exact H
                clear H
                have H := H1
                clear H1
                have H' := zA H
                clear H
                go_wp2
                go_roundg kj16
                case measure => have := HJ1.out; have := HK2.out; have := HJ7.out; have := HK4.out; have := HJ16.out; omega
                case rel => exact ⟨((wrap64 (x3_2 + (ji15)))), (wrap64 (x4_2 + 1)), (by first | rfl | (simp; done) | (simp only [← hji15] <;> (first | rfl | simp)) | (simp [*]; done)), qT, H', ⟨by have := HJ1.out; have := HK2.out; have := HJ7.out; have := HK4.out; have := HJ16.out; omega⟩, ⟨qK BK218.out⟩, ⟨qB⟩⟩
          ·rw [zD c14] at H
           exact absurd H (by simp)
         ·rw [zD c13] at H
          exact absurd H (by simp)
        ·replace c12 := Bool.eq_false_iff.mpr c12
         subst c12
         have H1 : (some (decide (x3_2 > 2000))) = some r := by rw [zD (show ¬ (false = true) by decide)] at H; exact H
         clear H
         have H := H1
         clear H1
         obtain rfl := zI H
         go_wp2
         go_ret
         exact ⟨qE, qB⟩
end Go.Proofs.YthidcafbhjahdaaDoor.Q
namespace Go.Proofs.YthidcafbhjahdaaDoor.Q
open Go.RowKit Go.Proofs.YthidcafbhjahdaaDoorW.PrintWords Go.Proofs.YthidcafbhjahdaaDoorW.PrintLast Go.Proofs.YthidcafbhjahdaaDoorW.PrintMore
set_option linter.unusedVariables false
set_option linter.unusedSimpArgs false
def spoil (regs slots nb : Int) (x : SIns) : SIns := if x.f0 = 12 then ⟨x.f0, x.f1, nb, x.f3, x.f4, x.f5⟩ else if x.f0 = 11 then ⟨x.f0, x.f1, 5, x.f3, x.f4, x.f5⟩ else if x.f0 = 21 then ⟨x.f0, x.f1, slots, x.f3, x.f4, x.f5⟩ else if x.f0 = 1 ∨ x.f0 = 22 then ⟨x.f0, max regs slots, x.f2, x.f3, x.f4, x.f5⟩ else ⟨x.f0, x.f1, regs, x.f3, x.f4, x.f5⟩
def wantE (x : SIns) : Int := if x.f0 = 12 then 74 else if x.f0 = 11 then 192 else 73
def SpoilOk (l : List (List SIns)) (i k : Int) : Prop := (l.length : Int) ≠ 0 ∧ 0 ≤ i ∧ i < (l.length : Int) ∧ ((rd_LIns l i).length : Int) ≠ 0 ∧ 0 ≤ k ∧ k < ((rd_LIns l i).length : Int) ∧ l.length ≤ 1000000 ∧ ∀ b ∈ l, b.length ≤ 1000000
instance (l : List (List SIns)) (i k : Int) : Decidable (SpoilOk l i k) := by unfold SpoilOk; infer_instance
def spot1 (l : List (List SIns)) (a1 : Int) : Int := Int.tmod (wrap64 a1) (l.length : Int)
def spot2 (l : List (List SIns)) (a1 a2 : Int) : Int := Int.tmod (wrap64 a2) ((rd_LIns l (Int.tmod (wrap64 a1) (l.length : Int))).length : Int)
def cubbylaw13_MachSpoilt.f (k : Nat) (a0_0 : ByteArray) (a0_1 : Int) (a0_2 : Int) (a0_3 : Int) (l0_4 : List (List SIns)) (a1 : Int) (a2 : Int) : Option Bool :=
 (cubbylaw13_heavy.f k a0_0 a0_1 a0_2 a0_3 l0_4).bind fun t1 => (if t1 = true then some true else
   (mach_Check.f k a0_0 a0_1 a0_2 a0_3 l0_4).bind fun t2 => (cubbyref13_Check.f k a0_0 a0_1 a0_2 a0_3 l0_4).bind fun t3 =>
   (if t2 = t3 then (if t2 = 0 then (if SpoilOk l0_4 (spot1 l0_4 a1) (spot2 l0_4 a1 a2) then
     (mach_Check.f k a0_0 a0_1 a0_2 a0_3 (l0_4.set (spot1 l0_4 a1).toNat ((rd_LIns l0_4 (spot1 l0_4 a1)).set (spot2 l0_4 a1 a2).toNat (spoil a0_2 a0_3 (l0_4.length : Int) (rd_TIns (rd_LIns l0_4 (spot1 l0_4 a1)) (spot2 l0_4 a1 a2)))))).bind fun t4 => some (t4 == wantE (rd_TIns (rd_LIns l0_4 (spot1 l0_4 a1)) (spot2 l0_4 a1 a2))) else none)
    else some true) else some false))
def cubbylaw13_MachSpoilt.T15 : Bool × List (List Nat × List Nat) := (true, [([], []), ([0], [0]), ([], []), ([], []), ([3], [3]), ([], []), ([4, 5], [4, 5]), ([6], [6]), ([2, 7], [2, 7]), ([8], [8]), ([1, 9, 8], [1, 9]), ([0, 1, 2, 3, 4, 5, 6, 7, 8, 9, 10], []), ([11, 10, 10, 0, 1, 2, 3, 4, 5, 6, 7, 8, 9, 10], [10, 11])])
def cubbylaw13_MachSpoilt.B15 : List Nat := [0, 1, 0, 0, 8, 0, 56, 120, 252, 508, 1023, 2047, 4095]
theorem cubbylaw13_MachSpoilt.tab15 : rtab .any (opsOf Tryd.f4 15) = cubbylaw13_MachSpoilt.T15 := by kernel_rfl
theorem cubbylaw13_MachSpoilt.bits15 : waitsOk cubbylaw13_MachSpoilt.T15.2 cubbylaw13_MachSpoilt.B15 = true := by kernel_rfl
def cubbylaw13_MachSpoilt.T31 : Bool × List (List Nat × List Nat) := (true, [([], []), ([0], [0]), ([], []), ([1, 2], [1, 2]), ([3], [3]), ([], []), ([], []), ([4, 5, 0, 1, 2, 3, 4, 5, 6], [4, 5]), ([7, 6, 0, 1, 2, 3, 4, 5, 6], [6, 7])])
def cubbylaw13_MachSpoilt.B31 : List Nat := [0, 1, 0, 7, 15, 0, 0, 127, 255]
theorem cubbylaw13_MachSpoilt.tab31 : rtab .any (opsOf Tryd.f4 31) = cubbylaw13_MachSpoilt.T31 := by kernel_rfl
theorem cubbylaw13_MachSpoilt.bits31 : waitsOk cubbylaw13_MachSpoilt.T31.2 cubbylaw13_MachSpoilt.B31 = true := by kernel_rfl
structure Blk (P : Prop) : Prop where
 out : P
structure SpoSt (w0 w : World) (gf gg : Nat) (cf : Array Value) (nm : ByteArray) (pp rg sl : Int) (vG : Value) (rows : List (List (List Value))) : Prop where
 bf : w.heap[gf]? = some (.cells cf 34 (0, 0))
 bg : w.heap[gg]? = some (.cells #[.string nm, .int .i64 pp, .int .i64 rg, .int .i64 sl, vG] 34 (0, 0))
 hs : Kd.S (Kd.slice 31 (Kd.raw 6)) 28 w w0.heap.size (fun _ => True) vG rows
 hB : Below w0.heap.size w0 w
 hg : w0.heap.size ≤ gg ∧ w0.heap.size ≤ gf ∧ gf ≠ gg
theorem SpoSt.below {w0 w w1 : World} {gf gg : Nat} {cf : Array Value} {nm : ByteArray} {pp rg sl : Int} {vG : Value} {rows : List (List (List Value))} (h : SpoSt w0 w gf gg cf nm pp rg sl vG rows) (hb : Below w.heap.size w w1) : SpoSt w0 w1 gf gg cf nm pp rg sl vG rows :=
 ⟨blk_below h.bf hb, blk_below h.bg hb, Kd.S_below h.hs hb, below_step h.hB hb, h.hg⟩
def insCells (x : SIns) (A5 : Option Addr) (c5 : Nat) : List Value := [.int .i64 x.f0, .int .i64 x.f1, .int .i64 x.f2, .int .i64 x.f3, .string x.f4, .slice A5 x.f5.length c5]
theorem SpoSt.spot {w0 w : World} {gf gg : Nat} {cf : Array Value} {nm : ByteArray} {pp rg sl : Int} {vG : Value} {rows : List (List (List Value))} {l : List (List SIns)} (h : SpoSt w0 w gf gg cf nm pp rg sl vG rows) (hy : SaysAll kIns w0 l rows)
 (i j : Int) (i0 : 0 ≤ i) (i1 : i < (l.length : Int)) (j0 : 0 ≤ j) (j1 : j < ((rd_LIns l i).length : Int)) :
 ∃ (gv cG gi ci : Nat) (A5 : Option Addr) (c5 : Nat), vG = .slice (some ⟨gv, 0, none⟩) l.length cG ∧ w.cell? ⟨gv, i.toNat, none⟩ = some (.slice (some ⟨gi, 0, none⟩) (rd_LIns l i).length ci) ∧
  (∀ (m : Nat) (u : Value), (insCells (rd_TIns (rd_LIns l i) j) A5 c5)[m]? = some u → w.cell? ⟨gi, j.toNat * 6 + m, none⟩ = some u) ∧ (∀ m, w.frozen? ⟨gi, j.toNat * 6 + m, none⟩ = false) ∧
  (rd_TIns (rd_LIns l i) j).f5.length ≤ c5 ∧ (Kd.int .i64).C w0 A5 (rd_TIns (rd_LIns l i) j).f5.length (rd_TIns (rd_LIns l i) j).f5 ∧
  ∀ (x' : SIns) (cs' : List Value), kIns.K w0 x' cs' → ∃ rows', SpoSt w0 (w.setCells gi (j.toNat * 6) cs') gf gg cf nm pp rg sl vG rows' ∧ SaysAll kIns w0 (l.set i.toNat ((rd_LIns l i).set j.toNat x')) rows' := by
 have hrl := hy.len
 have hil : i.toNat < l.length := by omega
 obtain ⟨gv, cG, ev, -⟩ := Kd.S_form h.hs (by omega)
 rw [hrl] at ev
 subst ev
 obtain ⟨oki, c, hcl, ⟨v, rfl, hR⟩, hcc, hoki, hback⟩ := Kd.S_borrow h.hs ([] : List (List Value)) i i0 i1
 have hcell := hcc 0 v rfl
 rw [add_at] at hcell
 have hri : rows[i.toNat]? = some (rows.getD i.toNat []) := by rw [List.getD_eq_getElem?_getD, List.getElem?_eq_getElem (by omega), Option.getD_some]
 have hli : l[i.toNat]? = some (rd_LIns l i) := by unfold rd_LIns; rw [List.getD_eq_getElem?_getD, List.getElem?_eq_getElem (by omega), Option.getD_some]
 have hs := hy.at_ i.toNat _ _ hli hri
 generalize rows.getD i.toNat [] = ri at hR hri hs hback
 have hrj := hs.len
 have hjl : j.toNat < ri.length := by omega
 obtain ⟨gi, ci, ev, -⟩ := Kd.R_form hR (by omega)
 subst ev
 obtain ⟨cj, hcjl, hM, hccj, hfr⟩ := Kd.R_elem hR ([] : List Value) j j0 (by omega)
 have hrij : ri[j.toNat]? = some (ri.getD j.toNat []) := by rw [List.getD_eq_getElem?_getD, List.getElem?_eq_getElem (by omega), Option.getD_some]
 have hlj : (rd_LIns l i)[j.toNat]? = some (rd_TIns (rd_LIns l i) j) := by unfold rd_TIns; rw [List.getD_eq_getElem?_getD, List.getElem?_eq_getElem (by omega), Option.getD_some]
 have hK := hs.at_ j.toNat _ _ hlj hrij
 rw [← hM.1] at hK
 obtain ⟨A5, c5, ec, h5, g5⟩ := kIns_open hK
 subst ec
 refine ⟨gv, cG, gi, ci, A5, c5, rfl, ?_, fun m u hu => hccj m u hu, fun m => hfr m, h5, g5, fun x' cs' hx' => ?_⟩
 ·have e_ : 0 + (i.toNat * 1 + 0) = i.toNat := by omega
  have hcell' : w.cell? ⟨gv, 0 + (i.toNat * 1 + 0), none⟩ = _ := hcell
  rw [e_, hrj] at hcell'
  exact hcell'
 ·have hl6 : cs'.length = 6 := kIns.K_len hx'
  have hseg : List.take 0 (insCells (rd_TIns (rd_LIns l i) j) A5 c5) ++ cs' ++ List.drop (0 + cs'.length) (insCells (rd_TIns (rd_LIns l i) j) A5 c5) = cs' := by rw [hl6]; simp [insCells]
  obtain ⟨hR', hg⟩ := Kd.R_seg hR j j0 (by omega) (c := insCells (rd_TIns (rd_LIns l i) j) A5 c5) (seg := cs') (j := 0) (x' := cs') (okp := fun _ => False) hcjl hccj (by rw [hl6]; exact Nat.le_refl 6) ⟨hseg, by rw [hseg]; exact hl6, by rw [hseg]; exact kIns.K_one hx'⟩ (fun _ hk => hk.elim)
  rw [Nat.add_zero] at hR' hg
  have hg' : w.grownBy (w.setCells gi (j.toNat * 6) cs') (some gi) := hg
  have ho : (Value.slice (some ⟨gi, 0, none⟩) ri.length ci).ownBlock = some gi := by simp [Value.ownBlock]
  have hlt := Kd.R_lt hR gi ho
  refine ⟨rows.set i.toNat (ri.set j.toNat cs'), ⟨?_, ?_, ?_, ?_, h.hg⟩, hy.set _ (hs.set _ hx')⟩
  ·exact (hg'.block gf (blk_lt h.bf) (fun e => Kd.R_ne hR h.bf (by decide) (e.trans ho.symm))).trans h.bf
  ·exact (hg'.block gg (blk_lt h.bg) (fun e => Kd.R_ne hR h.bg (by decide) (e.trans ho.symm))).trans h.bg
  ·refine hback hg' (fun k hk => ?_) ⟨_, rfl, hR'⟩
   injection hk with hk
   subst hk
   exact hR.1 _ ho
  ·exact h.hB.grown hg' (below_size h.hB) (fun k hk => by injection hk with hk; subst hk; exact Kd.R_base hR _ ho)
set_option maxHeartbeats 8000000 in
set_option maxRecDepth 100000 in
theorem cubbylaw13_MachSpoilt.calls (k : Nat) (a0_0 : ByteArray) (a0_1 : Int) (a0_2 : Int) (a0_3 : Int) (A0_4 : Option Addr) (c0_4 : Nat) (l0_4 : List (List (SIns))) (a1 : Int) (a2 : Int) (r : Bool) (w : World) (hL : LaidW w) (hr0_4 : Kd.C (Kd.slice 31 kIns) w A0_4 l0_4.length l0_4) (hc0_4 : l0_4.length ≤ c0_4) (h : cubbylaw13_MachSpoilt.f k a0_0 a0_1 a0_2 a0_3 l0_4 a1 a2 = some r) :
 Calls Tryd.prog 4 #[.agg #[.string a0_0, .int .i64 a0_1, .int .i64 a0_2, .int .i64 a0_3, .slice A0_4 l0_4.length c0_4], .int .u8 a1, .int .u8 a2] w fun e w' => e = .returned (.bool r) ∧ Below w.heap.size w w' := by
 have HR := zA hr0_4
 have HC := zA hc0_4
 have HLd := zA hL
 have HB := zA (Below.refl w.heap.size w)
 have H := h
 clear hr0_4 hc0_4 h hL
 unfold cubbylaw13_MachSpoilt.f at H
 replace H := qb H; obtain ⟨t1, A1, H⟩ := H
 have hu24 := Tryd.underlying34
 have hu31 := Tryd.underlying31
 go_enter Tryd.func4, Tryd.ntmps4
 go_wp2_with (first
  | ((with_reducible refine gate_dst (N := 3) rfl ?_); refine box_event (by rfl) (N := 3) (by rfl) (cs := #[.string a0_0, .int .i64 a0_1, .int .i64 a0_2, .int .i64 a0_3, .slice A0_4 l0_4.length c0_4]) (t := 34) ?hr ?_; (case hr => go_simp <;> rfl); intro gf hg w1 hbox hb; have GF := zA (Nat.le_of_eq hg.symm); have BF := zA hbox; replace HB := zA (below_step HB.out hb); clear hb hbox hg; have z1 := bk5 BF.out)
  | ((with_reducible refine gate_callee (f := 8) rfl ?_); refine goesL_ (some 16) rfl rfl Tryd.func8 (by kernel_rfl) rfl #[.agg #[.string a0_0, .int .i64 a0_1, .int .i64 a0_2, .int .i64 a0_3, .slice A0_4 l0_4.length c0_4]] rfl qL ?_; (with_reducible refine (cubbylaw13_heavy.calls k a0_0 a0_1 a0_2 a0_3 _ _ l0_4 t1 _ ?side1 ?side2 A1.out).mono ?_); (case side1 => exact Kd.C_below HR.out HB.out); (case side2 => exact HC.out); rintro e w2 ⟨rfl, hb⟩; refine ⟨_, rfl, ?_⟩; replace HB := zA (below_step HB.out hb); replace BF := zA (blk_below BF.out hb); clear z1 hb A1; have z1 := bk5 BF.out; refine Blk.out ?_))
 refine Blk.mk ?_
 cases t1 with
 | true =>
  rw [zC rfl] at H
  cases H
  go_wp2_with fail
  go_ret
  exact ⟨rfl, HB.out⟩
 | false =>
  rw [zD Bool.false_ne_true] at H
  ·skip
   replace H := qb H; obtain ⟨t2, A2, H⟩ := H
   replace H := qb H; obtain ⟨t3, A3, H⟩ := H
   go_wp2_with (first
    | ((with_reducible refine gate_callee (f := 9) rfl ?_); refine goesL_ (some 18) rfl rfl Tryd.func9 (by kernel_rfl) rfl #[.agg #[.string a0_0, .int .i64 a0_1, .int .i64 a0_2, .int .i64 a0_3, .slice A0_4 l0_4.length c0_4]] rfl qL ?_; (with_reducible refine (mach_Check.calls k a0_0 a0_1 a0_2 a0_3 _ _ l0_4 t2 _ ?side0 ?side1 ?side2 A2.out).mono ?_); (case side0 => exact HLd.out.below HB.out); (case side1 => exact Kd.C_below HR.out HB.out); (case side2 => exact HC.out); rintro e w3 ⟨rfl, hb⟩; refine ⟨_, rfl, ?_⟩; replace HB := zA (below_step HB.out hb); replace BF := zA (blk_below BF.out hb); clear z1 hb A2; have z1 := bk5 BF.out)
    | ((with_reducible refine gate_callee (f := 10) rfl ?_); refine goesL_ (some 21) rfl rfl Tryd.func10 (by kernel_rfl) rfl #[.agg #[.string a0_0, .int .i64 a0_1, .int .i64 a0_2, .int .i64 a0_3, .slice A0_4 l0_4.length c0_4]] rfl qL ?_; (with_reducible refine (cubbyref13_Check.calls k a0_0 a0_1 a0_2 a0_3 _ _ l0_4 t3 _ ?side1 ?side2 A3.out).mono ?_); (case side1 => exact Kd.C_below HR.out HB.out); (case side2 => exact HC.out); rintro e w4 ⟨rfl, hb⟩; refine ⟨_, rfl, ?_⟩; replace HB := zA (below_step HB.out hb); replace BF := zA (blk_below BF.out hb); clear z1 hb A3; have z1 := bk5 BF.out; refine Blk.out ?_))
   refine Blk.mk ?_
   by_cases c3 : t2 = t3
   case neg =>
    rw [zD c3] at H
    cases H
    obtain ⟨c3b0, c3b1⟩ := qn c3
    go_wp2_with fail
    go_ret
    exact ⟨rfl, HB.out⟩
   rw [zC c3] at H
   obtain ⟨c3b0, c3b1⟩ := qe c3
   by_cases c4 : t2 = 0
   case neg =>
    rw [zD c4] at H
    cases H
    obtain ⟨c4b0, c4b1⟩ := qn c4
    go_wp2_with fail
    go_ret
    exact ⟨rfl, HB.out⟩
   rw [zC c4] at H
   obtain ⟨c4b0, c4b1⟩ := qe c4
   by_cases c5 : SpoilOk l0_4 (spot1 l0_4 a1) (spot2 l0_4 a1 a2)
   case neg =>
    rw [zD c5] at H
    exact absurd H (by simp)
   rw [zC c5] at H
   obtain ⟨n0, i0, i1, n1, k0, k1, L1, L2⟩ := c5
   replace H := qb H; obtain ⟨t4, A4, H⟩ := H
   replace H := zI H
   have n0b := (qn n0)
   have n1b := (qn n1)
   simp only [spot1, spot2] at i0 i1 n1 k0 k1 n1b A4 H
   obtain ⟨adr, Ab, cb, ea, hx, hlb, hib⟩ := at_LIns HR.out _ i0 i1
   cases ea
   replace hx := (HB.out.cell (zE w _ hx)).trans hx
   go_wp2_with (first
    | ((with_reducible refine gate_dst (N := 10) rfl ?_); refine box_event (by rfl) (N := 10) (by rfl) (cs := #[.string (⟨#[]⟩ : ByteArray), .int .i64 0, .int .i64 0, .int .i64 0, .slice none 0 0]) (t := 34) ?hr ?_; (case hr => go_simp <;> rfl); intro gg hg w5 hbox_ hb_; have hbox := zA hbox_; have hb := zA hb_; have HG := zA (Nat.le_of_eq hg.symm); clear hbox_ hb_ hg; have z5 := bk5 hbox.out))
   generalize Int.tmod (wrap64 a1) (l0_4.length : Int) = i at i0 i1 n1 n1b k0 k1 A4 H hx hlb hib ⊢
   generalize Int.tmod (wrap64 a2) ((rd_LIns l0_4 i).length : Int) = j at k0 k1 A4 H ⊢
   generalize hw : (((((w5.setCell ⟨gg, 0, none⟩ (.string a0_0)).setCell ⟨gg, 1, none⟩ (.int .i64 a0_1)).setCell ⟨gg, 2, none⟩ (.int .i64 a0_2)).setCell ⟨gg, 3, none⟩ (.int .i64 a0_3)).setCell ⟨gg, 4, none⟩ (.slice none 0 0)) = w6
   have HS := zA (show SpoSt w w6 gf gg #[.string a0_0, .int .i64 a0_1, .int .i64 a0_2, .int .i64 a0_3, .slice (some adr) l0_4.length c0_4] a0_0 a0_1 a0_2 a0_3 (.slice none 0 0) [] by
    have hgx := HG.out
    have hlt := HB.out.1
    have hbl := show Below _ _ w6 by rw [← hw]; exact (below_set (below_set (below_set (below_set (below_set hb.out hgx) hgx) hgx) hgx) hgx)
    refine ⟨blk_below BF.out hbl, ?_, Kd.S_nil _ _ _ _ _, below_step HB.out hbl, Nat.le_trans (below_size HB.out) hgx, GF.out, fun e => ?_⟩
    ·rw [← hw]; exact blk_put (blk_put (blk_put (blk_put (blk_put hbox.out 0 _ rfl) 1 _ rfl) 2 _ rfl) 3 _ rfl) 4 _ rfl
    ·have := blk_lt BF.out; omega)
   clear hw hbox hb HG z5 z1 BF HB GF hx hlb hib n0b n1b
   have H' := zA H
   clear H
   go_loopg [11] l0_4.length (fun kq v11 w' => ∃ (n : Nat) (vG : Value) (rows : List (List (List Value))), v11 = .int .i64 (n : Int) ∧ Aside0 (kq + n = l0_4.length) ∧ Aside0 (SaysAll kIns w (l0_4.take n) rows) ∧ Aside0 (SpoSt w w' gf gg #[.string a0_0, .int .i64 a0_1, .int .i64 a0_2, .int .i64 a0_3, .slice (some adr) l0_4.length c0_4] a0_0 a0_1 a0_2 a0_3 vG rows))
   case atStart => exact ⟨0, _, [], by first | rfl | simp, ⟨by omega⟩, ⟨by rw [List.take_zero]; exact SaysAll.nil _ _⟩, HS⟩
   case round =>
    clear HS
    obtain ⟨n, vG, rows, rfl, HK, HY, HS⟩ := hrel
    have z1 := bk5 HS.out.bf
    cases gk with
    | zero =>
     have d1 : ¬ ((n : Int) < (l0_4.length : Int)) := by have := HK.out; omega
     have d1b := zG d1
     have hn : n = l0_4.length := by have := HK.out; omega
     subst hn
     replace HY := zA (by have h_ := HY.out; rwa [List.take_length] at h_ : SaysAll kIns w l0_4 rows)
     have hll : rows.length = l0_4.length := HY.out.len
     obtain ⟨gv, cG, gi, ci, A5, c5, eG, hc1, hc2, hfz, h5, g5, -⟩ := HS.out.spot HY.out i j i0 i1 k0 k1
     subst eG
     generalize hxx : rd_TIns (rd_LIns l0_4 i) j = x at A4 H' hc2 h5 g5
     obtain ⟨x0, x1, x2, x3, x4, x5⟩ := x
     dsimp only at h5 g5
     have y0 := hc2 0 _ rfl
     have y1 := hc2 1 _ rfl
     have y2 := hc2 2 _ rfl
     have y3 := hc2 3 _ rfl
     have y4 := hc2 4 _ rfl
     have y5 := hc2 5 _ rfl
     dsimp only [Nat.add_zero] at y0 y1 y2 y3 y4 y5
     have z2 := bk5 HS.out.bg
     clear hc2 hfz
     go_upto_block 2 with (first
      | ((with_reducible refine gate_dst (N := 13) rfl ?_); refine box_event (by rfl) (N := 13) (by rfl) (cs := #[.int .i64 0, .int .i64 0, .int .i64 0, .int .i64 0, .string (⟨#[]⟩ : ByteArray), .slice none 0 0]) (t := 31) ?hr ?_; (case hr => go_simp <;> rfl); intro gx hg w7 hbox_ hb_; have hbox := zA hbox_; have hb := zA hb_; have HG := zA (Nat.le_of_eq hg.symm); clear hbox_ hb_ hg y0 y1 y2 y3 y4 y5 z1 z2 hc1; have z5 := bk6 hbox.out))
     generalize hw : ((((((w7.setCell ⟨gx, 0, none⟩ (.int .i64 x0)).setCell ⟨gx, 1, none⟩ (.int .i64 x1)).setCell ⟨gx, 2, none⟩ (.int .i64 x2)).setCell ⟨gx, 3, none⟩ (.int .i64 x3)).setCell ⟨gx, 4, none⟩ (.string x4)).setCell ⟨gx, 5, none⟩ (.slice A5 x5.length c5)) = w8
     have hgx := HG.out
     have BX := zA (show w8.heap[gx]? = some (.cells #[.int .i64 x0, .int .i64 x1, .int .i64 x2, .int .i64 x3, .string x4, .slice A5 x5.length c5] 31 (0, 0)) by rw [← hw]; exact (blk_put (blk_put (blk_put (blk_put (blk_put (blk_put hbox.out 0 _ rfl) 1 _ rfl) 2 _ rfl) 3 _ rfl) 4 _ rfl) 5 _ rfl))
     have hbl : Below wr.heap.size wr w8 := by rw [← hw]; exact (below_set (below_set (below_set (below_set (below_set (below_set hb.out hgx) hgx) hgx) hgx) hgx) hgx)
     have HX := zA (show w.heap.size ≤ gx from Nat.le_trans (below_size HS.out.hB) hgx)
     have hgf : gf ≠ gx := by have := blk_lt HS.out.bf; omega
     have hgg : gg ≠ gx := by have := blk_lt HS.out.bg; omega
     have HN := zA (And.intro hgf hgg)
     have HX2 := zA (Kd.S_below (Kd.S_elderB HS.out.hs gx hgx) hbl)
     replace HS := zA (HS.out.below hbl)
     clear hbl hw z5 hgx HG hbox hb hgf hgg
     have z1 := bk5 HS.out.bf
     have z6 := bk6 BX.out
     have hset : ∀ (m : Nat) (u : Value), SpoSt w (w8.setCell ⟨gx, m, none⟩ u) gf gg #[.string a0_0, .int .i64 a0_1, .int .i64 a0_2, .int .i64 a0_3, .slice (some adr) l0_4.length c0_4] a0_0 a0_1 a0_2 a0_3 (.slice (some ⟨gv, 0, none⟩) l0_4.length cG) rows := fun m u =>
      ⟨blk_far HS.out.bf (fun e => HN.out.1 e) _, blk_far HS.out.bg (fun e => HN.out.2 e) _, Kd.S_mono (Kd.S_far (p := ⟨gx, m, none⟩) HX2.out (fun _ hk => hk.2) u) (fun _ _ => trivial), below_set HS.out.hB HX.out, HS.out.hg⟩
     have HP := zA hset
     clear hset HX2
     go_cut [14] (fun v14 wc => v14 = .int .i64 (wantE ⟨x0, x1, x2, x3, x4, x5⟩) ∧ Aside0 (SpoSt w wc gf gg #[.string a0_0, .int .i64 a0_1, .int .i64 a0_2, .int .i64 a0_3, .slice (some adr) l0_4.length c0_4] a0_0 a0_1 a0_2 a0_3 (.slice (some ⟨gv, 0, none⟩) l0_4.length cG) rows) ∧ Aside0 (wc.heap[gx]? = some (.cells (insCells (spoil a0_2 a0_3 (l0_4.length : Int) ⟨x0, x1, x2, x3, x4, x5⟩) A5 c5).toArray 31 (0, 0))))
     case first =>
      by_cases e12 : x0 = 12
      ·subst e12
       go_wp2_with fail
       go_meet
       case rel => exact ⟨by rfl, ⟨HP.out _ _⟩, ⟨blk_put BX.out 2 _ rfl⟩⟩
      obtain ⟨q12a, q12b⟩ := qn e12
      by_cases e11 : x0 = 11
      ·subst e11
       go_wp2_with fail
       go_meet
       case rel => exact ⟨by rfl, ⟨HP.out _ _⟩, ⟨blk_put BX.out 2 _ rfl⟩⟩
      obtain ⟨q11a, q11b⟩ := qn e11
      by_cases e21 : x0 = 21
      ·subst e21
       go_wp2_with fail
       go_meet
       case rel => exact ⟨by rfl, ⟨HP.out _ _⟩, ⟨blk_put BX.out 2 _ rfl⟩⟩
      obtain ⟨q21a, q21b⟩ := qn e21
      by_cases e1 : x0 = 1
      ·subst e1
       go_wp2_with fail
       go_meet
       case rel => exact ⟨by rfl, ⟨HP.out _ _⟩, ⟨blk_put BX.out 1 _ rfl⟩⟩
      obtain ⟨q1a, q1b⟩ := qn e1
      by_cases e22 : x0 = 22
      ·subst e22
       go_wp2_with fail
       go_meet
       case rel => exact ⟨by rfl, ⟨HP.out _ _⟩, ⟨blk_put BX.out 1 _ rfl⟩⟩
      obtain ⟨q22a, q22b⟩ := qn e22
      go_wp2_with fail
      go_meet
      case rel => exact ⟨by unfold wantE; simp only [zD e12, zD e11], ⟨HP.out _ _⟩, ⟨by unfold spoil; simp only [zD e12, zD e11, zD e21, zD (show ¬ (x0 = 1 ∨ x0 = 22) by omega)]; exact blk_put BX.out 2 _ rfl⟩⟩
     case rest =>
      clear HS BX HP z1 z6
      obtain ⟨rfl, HS, BX⟩ := hcut
      go_upto_region 31 with fail
      obtain ⟨x', hx'⟩ : ∃ x' : SIns, spoil a0_2 a0_3 (l0_4.length : Int) ⟨x0, x1, x2, x3, x4, x5⟩ = x' := ⟨_, rfl⟩
      have hf5 : x'.f5 = x5 := by rw [← hx']; unfold spoil; (repeat' split) <;> rfl
      rw [hx'] at BX A4
      have hK : kIns.K w x' (insCells x' A5 c5) := kIns_mk w x' (by rw [hf5]; exact h5) (by rw [hf5]; exact g5)
      have BX := zA (show wc.heap[gx]? = some (.cells #[.int .i64 x'.f0, .int .i64 x'.f1, .int .i64 x'.f2, .int .i64 x'.f3, .string x'.f4, .slice A5 x'.f5.length c5] 31 (0, 0)) from BX.out)
      have n0_ := zA (blk_drew BX.out)
      have n1_ := zA (HS.out.below (below_drew (Below.refl _ _)))
      obtain ⟨gv2, cG2, gi2, ci2, A6, c6, eG2, hc1, hc2, hfz, -, -, hback⟩ := n1_.out.spot HY.out i j i0 i1 k0 k1
      cases eG2
      have q0 := hc2 0 _ rfl
      have q1 := hc2 1 _ rfl
      have q2 := hc2 2 _ rfl
      have q3 := hc2 3 _ rfl
      have q4 := hc2 4 _ rfl
      have q5 := hc2 5 _ rfl
      rw [Nat.add_zero] at q0
      clear hc2 BX HS
      obtain ⟨rows', HS2, HY2⟩ := hback x' _ hK
      clear hback
      refine start_ (n := 9) (S := fun w' => w'.cell? ⟨gg, 4, none⟩ = some (.slice (some ⟨gv, 0, none⟩) l0_4.length cG) ∧ w'.cell? ⟨gv, i.toNat, none⟩ = some (.slice (some ⟨gi2, 0, none⟩) (rd_LIns l0_4 i).length ci2) ∧ w'.cell? ⟨gx, 0, none⟩ = some (.int .i64 x'.f0) ∧ w'.cell? ⟨gx, 1, none⟩ = some (.int .i64 x'.f1) ∧ w'.cell? ⟨gx, 2, none⟩ = some (.int .i64 x'.f2) ∧ w'.cell? ⟨gx, 3, none⟩ = some (.int .i64 x'.f3) ∧ w'.cell? ⟨gx, 4, none⟩ = some (.string x'.f4) ∧ w'.cell? ⟨gx, 5, none⟩ = some (.slice A5 x'.f5.length c5)) (ds := [8]) (bA 9 0) (by kernel_rfl) rfl rfl ⟨(blk_cell n1_.out.bg 4).trans rfl, hc1, (blk_cell n0_.out 0).trans rfl, (blk_cell n0_.out 1).trans rfl, (blk_cell n0_.out 2).trans rfl, (blk_cell n0_.out 3).trans rfl, (blk_cell n0_.out 4).trans rfl, (blk_cell n0_.out 5).trans rfl⟩ (fun hHeld => ?_); refine with_tabW cubbylaw13_MachSpoilt.tab31 cubbylaw13_MachSpoilt.bits31 (fun HT_ HW_ => ?_)
      generalize wc.drew = w10 at n0_ n1_ hHeld hc1 hfz HS2 q0 q1 q2 q3 q4 q5 ⊢
      refine pu_ (i := 0) (N := some 105) (bA 9 1) ?_
      refine tk_ (i := 1) (N := some 106) (bA 9 3) ?_
      refine pu_ (i := 2) (N := some 107) (bA 9 7) ?_
      refine pu_ (i := 3) (N := some 108) (bA 9 15) ?_
      refine tk_ (i := 4) (N := some 109) (bA 9 31) ?_
      refine pu_ (i := 5) (N := some 110) (bA 9 63) ?_
      refine tk_ (i := 6) (N := some 111) (bA 9 127) ?_
      refine pu_ (i := 7) (N := some 112) (bA 9 255) ?_
      refine last_ (i := 8) (N := none) (bA 9 511) rfl rfl (one_of HT_.out (by kernel_rfl)) (by decide) (fun K hK => ?_)
      have f0 := hfz 0
      have f1 := hfz 1
      have f2 := hfz 2
      have f3 := hfz 3
      have f4 := hfz 4
      have f5 := hfz 5
      rw [Nat.add_zero] at f0
      refine skip_ (w1 := ?_) (by rfl) rfl ?_ ?_
      rotate_left
      ·go_simp
       rfl
      refine hK.out _ _ ?_
      clear hK K
      refine done_ (done_of HT_.out (by kernel_rfl)) ?_
      generalize hw : ((((((w10.setCell ⟨gi2, j.toNat * 6, none⟩ (.int .i64 x'.f0)).setCell ⟨gi2, j.toNat * 6 + 1, none⟩ (.int .i64 x'.f1)).setCell ⟨gi2, j.toNat * 6 + 2, none⟩ (.int .i64 x'.f2)).setCell ⟨gi2, j.toNat * 6 + 3, none⟩ (.int .i64 x'.f3)).setCell ⟨gi2, j.toNat * 6 + 4, none⟩ (.string x'.f4)).setCell ⟨gi2, j.toNat * 6 + 5, none⟩ (.slice A5 x5.length c5)) = w11
      have e_ : w10.setCells gi2 (j.toNat * 6) (insCells x' A5 c5) = w11 := by rw [← hw]; unfold insCells; rw [hf5]; simp only [World.setCells, Nat.add_assoc, Nat.reduceAdd]
      have HS3 := zA (show SpoSt w w11 gf gg #[.string a0_0, .int .i64 a0_1, .int .i64 a0_2, .int .i64 a0_3, .slice (some adr) l0_4.length c0_4] a0_0 a0_1 a0_2 a0_3 (.slice (some ⟨gv, 0, none⟩) l0_4.length cG) rows' by rw [← e_]; exact HS2)
      clear hw e_ HS2 hHeld n0_ n1_ hc1 hfz q0 q1 q2 q3 q4 q5 f0 f1 f2 f3 f4 f5
      have z2 := bk5 HS3.out.bg
      obtain ⟨l', hl'⟩ : ∃ l', l0_4.set i.toNat ((rd_LIns l0_4 i).set j.toNat x') = l' := ⟨_, rfl⟩
      rw [hl'] at A4 HY2
      have hll : l'.length = l0_4.length := by rw [← hl', List.length_set]
      have hC := HY2.read HS3.out.hB (Kd.S_reads' HS3.out.hs).2.2
      rw [HY2.len] at hC
      have hcall := zA (mach_Check.calls k a0_0 a0_1 a0_2 a0_3 (some ⟨gv, 0, none⟩) cG l' t4 w11 (HLd.out.below HS3.out.hB) hC (by rw [hll]; exact (Kd.S_reads' HS3.out.hs).2.1) A4.out)
      clear hC
      rw [hll] at hcall
      go_wp2_with ((with_reducible refine gate_callee (f := 9) rfl ?_); refine goesL_ (some 114) rfl rfl Tryd.func9 (by kernel_rfl) rfl #[.agg #[.string a0_0, .int .i64 a0_1, .int .i64 a0_2, .int .i64 a0_3, .slice (some ⟨gv, 0, none⟩) l0_4.length cG]] rfl qL ?_; (with_reducible refine hcall.out.mono ?_); rintro e w12 ⟨rfl, hb⟩; refine ⟨_, rfl, ?_⟩; have HB := zA (below_step HS3.out.hB hb); clear hb hcall HS3 z2; refine Blk.out ?_)
      refine Blk.mk ?_
      go_wp2_with fail
      go_ret
      exact ⟨by rw [← H'.out]; rfl, HB.out⟩
    | succ k1 =>
     have d1 : ((n : Int) < (l0_4.length : Int)) := by have := HK.out; omega
     have d1b := zF d1
     obtain ⟨adn, An, cn, en, hxn, hln, hin⟩ := at_LIns HR.out (n : Int) (by omega) (by omega)
     cases en
     rw [Int.toNat_natCast] at hxn
     have hnb : (rd_LIns l0_4 (n : Int)).length ≤ 1000000 := L2 _ (by unfold rd_LIns; rw [Int.toNat_natCast, List.getD_eq_getElem?_getD, List.getElem?_eq_getElem (by omega : n < l0_4.length), Option.getD_some]; exact List.getElem_mem _)
     go_wp2_with (first
      | ((with_reducible refine gate_dst (N := 56) rfl ?_); refine Kd.R_lit (Kd.raw 6) _ 31 (by rfl) (N := 56) (by rfl) (xs := ([] : List (List Value))) (inner := []) (ok := fun _ => True) (okp := fun _ => True) ?hr ?hp (fun _ hk => hk) trivial (Below.refl _ _) (Nat.le_refl _) (by simp) ?_; (case hr => go_simp <;> rfl); (case hp => exact (Reps.none _ _)); intro v12 w7 ho_ hb_ hg_ hnew_; have ho := zA ho_; have hb := zA hb_; clear ho_ hb_ hg_ hnew_ z1))
     have n0_ := zA (Kd.R_drew ho.out)
     have n1_ := zA (below_drew hb.out)
     obtain ⟨rn, HSn, hrn⟩ := Says.of_reads hin (below_step HS.out.hB n1_.out)
     have n2_ := zA (HS.out.below n1_.out)
     have hxm := (n2_.out.hB.cell (zE w _ hxn)).trans hxn
     clear ho hb
     refine start_ (n := 13) (S := fun w' => w'.cell? ⟨gg, 4, none⟩ = some vG ∧ w'.cell? ⟨gf, 4, none⟩ = some (.slice (some adr) l0_4.length c0_4) ∧ w'.cell? (adr.add n) = some (.slice An (rd_LIns l0_4 (n : Int)).length cn)) (ds := [12]) (bA 13 0) (by kernel_rfl) rfl rfl ⟨(blk_cell n2_.out.bg 4).trans rfl, (blk_cell n2_.out.bf 4).trans rfl, hxm⟩ (fun hHeld => ?_); refine with_tabW cubbylaw13_MachSpoilt.tab15 cubbylaw13_MachSpoilt.bits15 (fun HT_ HW_ => ?_)
     generalize w7.drew = w8 at n0_ n1_ n2_ hHeld hxm hrn ⊢
     refine pu_ (i := 0) (N := some 57) (bA 13 1) ?_
     refine tk_ (i := 1) (N := some 58) (bA 13 3) ?_
     refine pu_ (i := 2) (N := some 59) (bA 13 7) ?_
     refine pu_ (i := 3) (N := some 60) (bA 13 15) ?_
     refine tk_ (i := 4) (N := some 61) (bA 13 31) ?_
     refine pu_ (i := 5) (N := some 62) (bA 13 63) ?_
     refine pu_ (i := 6) (N := some 63) (bA 13 127) ?_
     refine tk_ (i := 7) (N := some 64) (bA 13 255) ?_
     refine one_ (i := 8) (N := some 65) (bA 13 511) rfl rfl (one_of HT_.out (by kernel_rfl)) (by decide) (fun K hK => ?_)
     refine Kd.R_append_rows_step (Kd.raw 6) (w0 := wr) wr.heap.size (by rfl) (.tmp 59) (.tmp 64) 28 31 (.agg #[(.int .i64 0), (.int .i64 0), (.int .i64 0), (.int .i64 0), (.string ⟨#[]⟩), (.slice none 0 0)]) 72 rfl Tryd.underlying28 info31 rfl (by decide) (by omega) v12 ([] : List (List Value)) rn An (rd_LIns l0_4 (n : Int)).length cn (fun _ => True) (fun _ => False) rfl rfl n0_.out hrn (fun _ _ h => h) (fun _ h => h.elim) (fun _ _ => trivial) n1_.out (below_size n1_.out) (by simp only [List.length_nil]; omega) ?_
     intro v70 w9 ho hb _ _
     rw [List.nil_append] at ho
     obtain ⟨A70, c70, e70⟩ := Kd.R_slice ho
     subst e70
     have n3_ := zA ho
     have n4_ := zA hb
     have n5_ := zA (HS.out.below hb)
     have n6_ := zA (HS.out.below (below_alloc hb (.cells #[.slice A70 rn.length c70] 28)))
     clear n0_ n1_ n2_ hHeld hrn hxm ho hb
     refine hK.out _ _ ⟨(blk_cell n5_.out.bg 4).trans rfl, (blk_cell n5_.out.bf 4).trans rfl, (n5_.out.hB.cell (zE w _ hxn)).trans hxn⟩ (fun hHeld => ?_)
     clear hK K
     refine norm_ (a' := ?_) ?_ ?_
     rotate_left
     ·show Act.put _ (some 65) _ = _
      simp only [Act.put, List.setIfInBounds_toArray, List.set_cons_zero, List.set_cons_succ, i64_w, i32_w]
      rfl
     refine one_ (i := 9) (N := some 66) (bA 13 1023) rfl rfl (one_of HT_.out (by kernel_rfl)) (by decide) (fun K hK => ?_)
     refine value_ (v := .slice (some ⟨w9.heap.size, 0, none⟩) 1 1) (w1 := w9.alloc (.cells #[.slice A70 rn.length c70] 28)) rfl rfl (by first | (go_simp; done) | (go_simp; with_reducible rfl)) ?_
     refine hK.out _ _ ⟨(blk_cell n6_.out.bg 4).trans rfl, (blk_cell n6_.out.bf 4).trans rfl, (n6_.out.hB.cell (zE w _ hxn)).trans hxn⟩ (fun hHeld => ?_)
     clear hK K
     refine norm_ (a' := ?_) ?_ ?_
     rotate_left
     ·show Act.put _ (some 66) _ = _
      simp only [Act.put, List.setIfInBounds_toArray, List.set_cons_zero, List.set_cons_succ, i64_w, i32_w]
      rfl
     have hrl : rows.length ≤ 1000000 := by rw [HY.out.len, List.length_take]; omega
     refine one_ (i := 10) (N := some 67) (bA 13 2047) rfl rfl (one_of HT_.out (by kernel_rfl)) (by decide) (fun K hK => ?_)
     refine Kd.S_append_step (Kd.slice 31 (Kd.raw 6)) (w0 := w) w.heap.size (by rfl) (.tmp 58) (.tmp 66) 22 28 (.slice none 0 0) 24 rfl Tryd.underlying22 info28 rfl (by decide) (by omega) vG rows rn [.slice A70 rn.length c70] (fun _ => True) (fun q => wr.heap.size ≤ q) rfl rfl ⟨_, rfl, Kd.R_lower (Kd.R_mono (Kd.R_bound n3_.out) (fun q hq => hq.2.1)) (below_size HS.out.hB)⟩ (fun q hq => ⟨trivial, fun e => by have := Kd.S_lt HS.out.hs q e.symm; omega⟩) (fun _ _ => trivial) (Kd.S_mono (Kd.S_old HS.out.hs n4_.out) (fun q hq => ⟨trivial, by omega⟩)) n5_.out.hB (below_size n5_.out.hB) (by omega) ?_
     intro v72 w10 ho hb hg _
     obtain ⟨A72, c72, e72⟩ := Kd.S_slice ho
     subst e72
     rw [show (rows ++ [rn]).length = rows.length + 1 by simp] at ho ⊢
     have bf10 := zA ((hg.block gf (blk_lt n5_.out.bf) (Kd.S_ne n5_.out.hs n5_.out.bf (by decide))).trans n5_.out.bf)
     have bg10 := zA ((hg.block gg (blk_lt n5_.out.bg) (Kd.S_ne n5_.out.hs n5_.out.bg (by decide))).trans n5_.out.bg)
     have hs10 := zA ho
     have hB10 := zA hb
     clear n3_ n4_ n5_ n6_ hHeld ho hb hg
     refine hK.out _ _ ⟨(blk_cell bg10.out 4).trans rfl, (blk_cell bf10.out 4).trans rfl, (hB10.out.cell (zE w _ hxn)).trans hxn⟩ (fun hHeld => ?_)
     clear hK K
     refine norm_ (a' := ?_) ?_ ?_
     rotate_left
     ·show Act.put _ (some 67) _ = _
      simp only [Act.put, List.setIfInBounds_toArray, List.set_cons_zero, List.set_cons_succ, i64_w, i32_w]
      rfl
     refine pu_ (i := 11) (N := some 68) (bA 13 4095) ?_
     refine last_ (i := 12) (N := none) (bA 13 8191) rfl rfl (one_of HT_.out (by kernel_rfl)) (by decide) (fun K hK => ?_)
     have z3 := bk5 bg10.out
     refine skip_ (w1 := ?_) (by rfl) rfl ?_ ?_
     rotate_left
     ·go_simp
      rfl
     refine hK.out _ _ ?_
     clear hK K
     refine done_ (done_of HT_.out (by kernel_rfl)) ?_
     go_wp2_with fail
     generalize hw : w10.setCell ⟨gg, 4, none⟩ (.slice A72 (rows.length + 1) c72) = w11
     have HS' := zA (show SpoSt w w11 gf gg #[.string a0_0, .int .i64 a0_1, .int .i64 a0_2, .int .i64 a0_3, .slice (some adr) l0_4.length c0_4] a0_0 a0_1 a0_2 a0_3 (.slice A72 (rows.length + 1) c72) (rows ++ [rn]) by
      rw [← hw]
      exact ⟨blk_far bf10.out (fun e => HS.out.hg.2.2 e) _, blk_put bg10.out 4 _ rfl, Kd.S_set hs10.out bg10.out (by decide) 4 _, below_set hB10.out HS.out.hg.1, HS.out.hg⟩)
     have hrd : rd_LIns l0_4 (n : Int) = l0_4[n]'(by omega) := by unfold rd_LIns; rw [Int.toNat_natCast, List.getD_eq_getElem?_getD, List.getElem?_eq_getElem (by omega : n < l0_4.length), Option.getD_some]
     go_roundg k1
     case measure => omega
     case rel => exact ⟨n + 1, _, rows ++ [rn], by first | rfl | rw [Go.Proofs.YthidcafbhjahdaaDoor.Plain.wrap_nat (by omega)], ⟨by have := HK.out; omega⟩, ⟨by rw [List.take_succ_eq_append_getElem (by omega)]; exact HY.out.snoc (hrd ▸ HSn)⟩, HS'⟩
end Go.Proofs.YthidcafbhjahdaaDoor.Q
namespace Go.Proofs.YthidcafbhjahdaaDoor.RMachSpoilt
open Go Go.RowKit Go.Proofs.YthidcafbhjahdaaDoorW.PrintWords Go.Proofs.YthidcafbhjahdaaDoor.Q
set_option linter.unusedVariables false
def GIns (x : SIns) : Prop := (Lit.int .i64 (x.f0)).wf = true ∧ (Lit.int .i64 (x.f1)).wf = true ∧ (Lit.int .i64 (x.f2)).wf = true ∧ (Lit.int .i64 (x.f3)).wf = true ∧ (x.f4).size ≤ 140737488351232 ∧ ((x.f5).length * 8 ≤ 140737488351232 ∧ (x.f5).length ≤ maxLen ∧ ∀ y1 ∈ (x.f5), (Lit.int .i64 (y1)).wf = true)
def MachSpoilt.Pure : Prop := ∀ (a0_0 : ByteArray) (a0_1 : Int) (a0_2 : Int) (a0_3 : Int) (l0_4 : List (List (SIns))) (a1 : Int) (a2 : Int), (a0_0).size ≤ 140737488351232 → (Lit.int .i64 (a0_1)).wf = true → (Lit.int .i64 (a0_2)).wf = true → (Lit.int .i64 (a0_3)).wf = true → ((l0_4).length * 24 ≤ 140737488351232 ∧ (l0_4).length ≤ maxLen ∧ ∀ y1 ∈ (l0_4), ((y1).length * 72 ≤ 140737488351232 ∧ (y1).length ≤ maxLen ∧ ∀ y2 ∈ (y1), GIns (y2))) → (Lit.int .u8 (a1)).wf = true → (Lit.int .u8 (a2)).wf = true → ∃ k, cubbylaw13_MachSpoilt.f k a0_0 a0_1 a0_2 a0_3 l0_4 a1 a2 = some true
end Go.Proofs.YthidcafbhjahdaaDoor.RMachSpoilt
namespace Go.Proofs.YthidcafbhjahdaaDoor.Plain
open Go Go.RowKit Go.Proofs.YthidcafbhjahdaaDoorW.PrintWords Go.Proofs.YthidcafbhjahdaaDoorW.PrintMore
theorem scan {α : Type} (g : Nat → Nat → Option α) (n : Nat) (R : Nat → α) (hend : Ev (fun k => g k n) (R n)) (hstep : ∀ i, i < n → Ev (fun k => g k (i + 1)) (R (i + 1)) → Ev (fun k => g k i) (R i)) : ∀ i, i ≤ n → Ev (fun k => g k i) (R i) := by
 have h : ∀ d i, i + d = n → Ev (fun k => g k i) (R i) := by
  intro d
  induction d with
  | zero =>
   intro i hi
   obtain rfl : i = n := by omega
   exact hend
  | succ d ih =>
   intro i hi
   exact hstep i (by omega) (ih (i + 1) (by omega))
 intro i hi
 exact h (n - i) i (by omega)
theorem seek {α : Type} (g : Nat → Nat → Option α) (n : Nat) (bad : Nat → Prop) (e r : α) (hbad : ∀ i, i < n → bad i → Ev (fun k => g k i) e) (hgo : ∀ i, i < n → ¬ bad i → ∀ r', Ev (fun k => g k (i + 1)) r' → Ev (fun k => g k i) r')
 (hr : (∃ i, i < n ∧ bad i) → r = e) (hend : (∀ i, i < n → ¬ bad i) → Ev (fun k => g k n) r) : Ev (fun k => g k 0) r := by
 by_cases h : ∃ i, i < n ∧ bad i
 ·obtain rfl := hr h
  obtain ⟨m, hm, hb⟩ := h
  refine scan g m (fun _ => r) (hbad m hm hb) ?_ 0 (Nat.zero_le _)
  intro i hi hE
  by_cases c : bad i
  ·exact hbad i (by omega) c
  ·exact hgo i (by omega) c _ hE
 ·have hn : ∀ i, i < n → ¬ bad i := fun i hi hb => h ⟨i, hi, hb⟩
  refine scan g n (fun _ => r) (hend hn) ?_ 0 (Nat.zero_le _)
  intro i hi hE
  exact hgo i hi (hn i hi) _ hE
end Go.Proofs.YthidcafbhjahdaaDoor.Plain
namespace Go.Proofs.YthidcafbhjahdaaDoor.PlainIr
open Go Go.RowKit Go.Proofs.YthidcafbhjahdaaDoorW.PrintWords Go.Proofs.YthidcafbhjahdaaDoorW.PrintMore Go.Proofs.YthidcafbhjahdaaDoor.Q Go.Proofs.YthidcafbhjahdaaDoor.Plain
set_option linter.unusedVariables false
set_option linter.unusedSimpArgs false
theorem op_cases {op : Int} (h : 1 ≤ op ∧ op ≤ 14) : op = 1 ∨ op = 2 ∨ op = 3 ∨ op = 4 ∨ op = 5 ∨ op = 6 ∨ op = 7 ∨ op = 8 ∨ op = 9 ∨ op = 10 ∨ op = 11 ∨ op = 12 ∨ op = 13 ∨ op = 14 := by omega
theorem shape_none {op : Int} (h : ¬ (1 ≤ op ∧ op ≤ 14)) : ir_shape.f op = some ⟨#[]⟩ := by
 unfold ir_shape.f
 split
 ·have : op = 0 := by omega
  subst this
  rfl
 ·rfl
theorem nil_toList : (⟨#[]⟩ : ByteArray).toList = [] := by decide +kernel
def uses (op a b : Int) (args : List Int) : List Int :=
 if op = 2 ∨ op = 8 ∨ op = 10 ∨ op = 13 ∨ op = 14 then [a] else if (3 ≤ op ∧ op ≤ 7) ∨ op = 9 then [a, b] else if op = 11 then args else []
def defOf (op d : Int) : Int := if (1 ≤ op ∧ op ≤ 8) ∨ op = 11 then d else -1
def lastOp (op : Int) : Bool := decide (12 ≤ op ∧ op ≤ 14)
def targets7 (op d a b : Int) : List Int := if op = 12 then [a] else if op = 13 then [b, d] else []
structure Sh (op : Int) (s : ByteArray) : Prop where
 ne : ¬ s.toList = []
 size : s.size = 3
 b0 : bt s 0 = 114 ↔ ((1 ≤ op ∧ op ≤ 8) ∨ op = 11)
 b1 : bt s 1 = 114 ↔ ((2 ≤ op ∧ op ≤ 10) ∨ op = 13 ∨ op = 14)
 b2 : bt s 2 = 114 ↔ ((3 ≤ op ∧ op ≤ 7) ∨ op = 9)
 f0 : bt s 0 = 32 ↔ (op = 9 ∨ op = 10 ∨ op = 12 ∨ op = 14)
 f1 : bt s 1 = 32 ↔ op = 11
 f2 : bt s 2 = 32 ↔ (op = 1 ∨ op = 2 ∨ op = 8 ∨ op = 10 ∨ op = 11 ∨ op = 12 ∨ op = 14)
 n0 : ¬ bt s 0 = 110
 n1 : bt s 1 = 110 ↔ op = 1
 n2 : ¬ bt s 2 = 110
theorem shape_some {op : Int} (h : 1 ≤ op ∧ op ≤ 14) : ∃ s, ir_shape.f op = some s ∧ Sh op s := by
 rcases op_cases h with rfl | rfl | rfl | rfl | rfl | rfl | rfl | rfl | rfl | rfl | rfl | rfl | rfl | rfl
 all_goals exact ⟨_, rfl, by decide +kernel, rfl, by decide +kernel, by decide +kernel, by decide +kernel, by decide +kernel, by decide +kernel, by decide +kernel, by decide +kernel, by decide +kernel, by decide +kernel⟩
theorem refdef_eq (op d a b : Int) (nm : ByteArray) (args : List Int) : cubbyref07_Def.f op d a b nm args = some (defOf op d) := by
 unfold cubbyref07_Def.f defOf
 by_cases h : (1 ≤ op ∧ op ≤ 8) ∨ op = 11
 ·rw [zC h]
  repeat' split
  all_goals first | rfl | omega
 ·rw [zD h]
  repeat' split
  all_goals first | rfl | omega
theorem last_eq (op : Int) : ir_Last.f op = some (lastOp op) := by
 unfold ir_Last.f lastOp
 split
 ·rw [Option.some.injEq, decide_eq_decide]
  omega
 ·rw [zG (by omega)]
theorem reflast_eq (op : Int) : cubbyref07_Last.f op = some (lastOp op) := by
 unfold cubbyref07_Last.f lastOp
 split
 ·rw [zF (by omega)]
 ·split
  ·rw [zF (by omega)]
  ·by_cases h : op = 14
   ·rw [zF (by omega), beq_iff_eq.2 h]
   ·rw [zG (by omega), beq_eq_false_iff_ne.2 h]
theorem targets_eq (op d a b : Int) (nm : ByteArray) (args : List Int) : ir_Targets.f op d a b nm args = some (targets7 op d a b) := by
 unfold ir_Targets.f targets7
 split
 ·rfl
 ·split <;> rfl
theorem reftargets_eq (op d a b : Int) (nm : ByteArray) (args : List Int) : cubbyref07_Targets.f op d a b nm args = some (targets7 op d a b) := by
 unfold cubbyref07_Targets.f targets7
 simp only [zJ]
 split
 ·rw [zC (by simp)]; rfl
 ·split
  ·rw [zC (by simp)]; rfl
  ·rfl
theorem refuses_j1 (k : Nat) (op : Int) (c : Bool) (d a b : Int) (nm : ByteArray) (args : List Int) (ha : args.length ≤ 17592186043904) (hc : c = decide ((3 ≤ op ∧ op ≤ 7) ∨ op = 9)) (h : ¬ (op = 2 ∨ op = 8 ∨ op = 10 ∨ op = 13 ∨ op = 14)) :
 cubbyref07_Uses.j1 (k + 1) [] op c op d a b nm args = some (uses op a b args) := by
 simp only [cubbyref07_Uses.j1, zJ]
 unfold uses
 rw [zD h]
 by_cases h2 : (3 ≤ op ∧ op ≤ 7) ∨ op = 9
 ·rw [zC (by rw [hc]; exact zF h2), zC (by simp), zC h2]
  rfl
 ·rw [zD (by rw [hc]; simpa using h2), zD h2]
  split
  ·rw [zC (by simp; omega)]
   rfl
  ·rfl
theorem refuses_ev (op d a b : Int) (nm : ByteArray) (args : List Int) (ha : args.length ≤ 17592186043904) : Ev (fun k => cubbyref07_Uses.f k op d a b nm args) (uses op a b args) := by
 refine ⟨2, fun k hk => ?_⟩
 obtain ⟨k, rfl⟩ : ∃ m, k = m + 2 := ⟨k - 2, by omega⟩
 show cubbyref07_Uses.f (k + 2) op d a b nm args = some (uses op a b args)
 unfold cubbyref07_Uses.f
 simp only [zJ]
 have yes : (op = 2 ∨ op = 8 ∨ op = 10 ∨ op = 13 ∨ op = 14) → cubbyref07_Uses.j0 (k + 2) [] op true op d a b nm args = some (uses op a b args) := fun h => by
  simp only [cubbyref07_Uses.j0, if_true]
  rw [zC (by simp)]
  unfold uses
  rw [zC h]
  rfl
 by_cases h1 : op = 2
 ·rw [zC h1, beq_iff_eq.2 h1]
  exact yes (.inl h1)
 rw [zD h1]
 by_cases h2 : op = 8
 ·rw [zC h2, beq_iff_eq.2 h2]
  exact yes (by omega)
 rw [zD h2]
 by_cases h3 : op = 10
 ·rw [zC h3, beq_iff_eq.2 h3]
  exact yes (by omega)
 rw [zD h3]
 by_cases h4 : op = 14
 ·rw [zC h4, beq_iff_eq.2 h4]
  exact yes (by omega)
 rw [zD h4]
 by_cases h5 : op = 13
 ·rw [beq_iff_eq.2 h5]
  exact yes (by omega)
 rw [beq_eq_false_iff_ne.2 h5]
 simp only [cubbyref07_Uses.j0]
 rw [zD (by simp)]
 have g : ∀ c, c = decide ((3 ≤ op ∧ op ≤ 7) ∨ op = 9) → cubbyref07_Uses.j1 (k + 1) [] op c op d a b nm args = some (uses op a b args) := fun c hc => refuses_j1 k op c d a b nm args ha hc (by omega)
 repeat' split
 all_goals
  refine g _ ?_
  first
  | (rename_i h; rw [beq_iff_eq.2 h, zF (by omega)])
  | (by_cases h9 : op = 9
     ·rw [beq_iff_eq.2 h9, zF (by omega)]
     ·rw [beq_eq_false_iff_ne.2 h9, zG (by omega)])
end Go.Proofs.YthidcafbhjahdaaDoor.PlainIr
namespace Go.Proofs.YthidcafbhjahdaaDoor.PlainName
open Go Go.RowKit Go.Proofs.YthidcafbhjahdaaDoorW.PrintWords Go.Proofs.YthidcafbhjahdaaDoorW.PrintMore Go.Proofs.YthidcafbhjahdaaDoor.Q Go.Proofs.YthidcafbhjahdaaDoor.Plain
set_option linter.unusedVariables false
set_option linter.unusedSimpArgs false
def lowD (x : UInt8) : Bool := decide ((97 ≤ x.toNat ∧ x.toNat ≤ 122) ∨ (48 ≤ x.toNat ∧ x.toNat ≤ 57))
def nameOk (s : ByteArray) : Bool := decide (1 ≤ s.size ∧ s.size ≤ 12 ∧ 97 ≤ bt s 0) && s.data.toList.all lowD
theorem cut_has (x : UInt8) : nameCut.data.toList.contains x = lowD x := by
 have h : ∀ n, n < 256 → nameCut.data.toList.contains (UInt8.ofNat n) = lowD (UInt8.ofNat n) := by decide +kernel
 have := h x.toNat x.toNat_lt
 rwa [UInt8.ofNat_toNat] at this
theorem dw_nil {p : UInt8 → Bool} : ∀ {l : List UInt8}, l.dropWhile p = [] ↔ ∀ x, x ∈ l → p x = true
 | [] => by simp
 | a :: t => by
  rw [List.dropWhile_cons]
  by_cases h : p a = true
  ·rw [zC h, dw_nil (l := t)]
   constructor
   ·intro g x hx
    rcases List.mem_cons.1 hx with rfl | hx
    ·exact h
    ·exact g x hx
   ·exact fun g x hx => g x (List.mem_cons_of_mem _ hx)
  ·rw [zD h]
   constructor
   ·intro g
    exact absurd g (by simp)
   ·intro g
    exact absurd (g a List.mem_cons_self) h
theorem trim_nil (l cs : List UInt8) : Lib.trimS l cs = [] ↔ l.all (cs.contains ·) = true := by
 unfold Lib.trimS Lib.trimLeftS Lib.trimRightS
 constructor
 ·intro h
  rw [dw_nil] at h
  rw [List.all_eq_true]
  intro x hx
  have h2 : x ∈ l.reverse := List.mem_reverse.2 hx
  rw [← List.takeWhile_append_dropWhile (p := fun x => cs.contains x) (l := l.reverse)] at h2
  rcases List.mem_append.1 h2 with h3 | h3
  ·exact (List.all_eq_true.1 (List.all_takeWhile (p := fun x => cs.contains x) (l := l.reverse))) x h3
  ·exact h x (List.mem_reverse.2 h3)
 ·intro h
  have h1 : l.reverse.dropWhile (cs.contains ·) = [] := by
   rw [dw_nil]
   intro x hx
   exact List.all_eq_true.1 h x (List.mem_reverse.1 hx)
  rw [h1]
  rfl
theorem size_list (s : ByteArray) : s.data.toList.length = s.size := by simp
theorem bt_get {s : ByteArray} {j : Nat} (h : j < s.data.toList.length) : bt s (j : Int) = ((s.data.toList[j]).toNat : Int) := by
 have hs := size_list s
 unfold bt
 rw [dif_pos (by omega)]
 rfl
theorem name_eq (s : ByteArray) : ir_Name.f s = some (nameOk s) := by
 have hs := size_list s
 unfold ir_Name.f
 rw [toList_data]
 by_cases h0 : s.data.toList = []
 ·have : s.size = 0 := by
   rw [h0] at hs
   exact hs.symm
  rw [zC h0]
  unfold nameOk
  rw [zG (by omega)]
  rfl
 ·have h1 : 0 < s.size := by
   rw [← hs]
   exact List.length_pos_iff.2 h0
  rw [zD h0]
  by_cases h2 : (s.size : Int) > 12
  ·rw [zC h2]
   unfold nameOk
   rw [zG (by omega)]
   rfl
  ·rw [zD h2, zC (by omega)]
   by_cases h3 : bt s 0 < 97
   ·rw [zC h3]
    unfold nameOk
    rw [zG (by omega)]
    rfl
   ·rw [zD h3]
    unfold strings_Trim.f
    rw [zC ⟨by omega, rfl⟩]
    simp only [zJ]
    rw [toList_data]
    unfold nameOk
    rw [zF (by omega), Bool.true_and, List.toList_toArray]
    congr 1
    have hc : s.data.toList.all (nameCut.data.toList.contains ·) = s.data.toList.all lowD := by
     congr 1
     funext x
     exact cut_has x
    have ht := trim_nil s.data.toList nameCut.data.toList
    rw [hc] at ht
    by_cases ha : s.data.toList.all lowD = true
    ·rw [ha]
     exact beq_iff_eq.2 (ht.2 ha)
    ·rw [Bool.not_eq_true _ |>.mp ha]
     exact beq_eq_false_iff_ne.2 fun e => ha (ht.1 e)
def restOk (s : ByteArray) (j : Nat) : Bool := (s.data.toList.drop j).all lowD && decide (j = 0 → 97 ≤ bt s 0)
theorem refname_loop (s : ByteArray) (hl : s.size ≤ 12) : ∀ (d j : Nat), s.size - j = d → j ≤ s.size → (j = 0 → 0 < s.size) → Ev (fun k => cubbyref07_Name.l0 k s (j : Int)) (restOk s j) := by
 have hs := size_list s
 intro d
 induction d with
 | zero =>
  intro j hd hj h0
  have : restOk s j = true := by
   unfold restOk
   rw [List.drop_eq_nil_of_le (by omega)]
   simp
   omega
  rw [this]
  exact Ev.step (f := fun _ => some true) (fun k => by simp only [cubbyref07_Name.l0]; rw [zD (by omega)]) (Ev.now _)
 | succ d ih =>
  intro j hd hj h0
  have hlt : j < s.data.toList.length := by omega
  have hb := bt_get hlt
  have hR : restOk s j = (lowD (s.data.toList[j]) && decide (j = 0 → 97 ≤ bt s 0) && restOk s (j + 1)) := by
   unfold restOk
   rw [drop_cons hlt]
   simp
   cases lowD s.data.toList[j] <;> cases (List.drop (j + 1) s.data.toList).all lowD <;> simp
  have hlow : lowD (s.data.toList[j]) = decide ((97 ≤ bt s (j : Int) ∧ bt s (j : Int) ≤ 122) ∨ (48 ≤ bt s (j : Int) ∧ bt s (j : Int) ≤ 57)) := by
   unfold lowD
   rw [hb]
   apply decide_eq_decide.2
   omega
  have hj0 : j = 0 → bt s (j : Int) = bt s 0 := by
   rintro rfl
   rfl
  rw [hR, hlow]
  have hstep : ∀ k, cubbyref07_Name.l0 (k + 1) s (j : Int) = (if (97 ≤ bt s (j : Int) ∧ bt s (j : Int) ≤ 122) ∨ ((48 ≤ bt s (j : Int) ∧ bt s (j : Int) ≤ 57) ∧ j ≠ 0) then cubbyref07_Name.l0 k s ((j + 1 : Nat) : Int) else some false) := by
   intro k
   simp only [cubbyref07_Name.l0]
   rw [zC (by omega : (j : Int) < (s.size : Int)), zC (by omega : (0 : Int) ≤ (j : Int)), wrap_nat (by omega)]
   repeat' split
   all_goals first
    | rfl
    | omega
  by_cases c : (97 ≤ bt s (j : Int) ∧ bt s (j : Int) ≤ 122) ∨ ((48 ≤ bt s (j : Int) ∧ bt s (j : Int) ≤ 57) ∧ j ≠ 0)
  ·refine Ev.step (fun k => (hstep k).trans (zC c)) ?_
   rw [zF (by omega), zF (by intro h; have := hj0 h; omega), Bool.true_and, Bool.true_and]
   exact ih (j + 1) (by omega) (by omega) (by omega)
  ·refine Ev.step (f := fun _ => some false) (fun k => (hstep k).trans (zD c)) ?_
   have : (decide ((97 ≤ bt s (j : Int) ∧ bt s (j : Int) ≤ 122) ∨ (48 ≤ bt s (j : Int) ∧ bt s (j : Int) ≤ 57)) && decide (j = 0 → 97 ≤ bt s 0)) = false := by
    by_cases c1 : (97 ≤ bt s (j : Int) ∧ bt s (j : Int) ≤ 122) ∨ (48 ≤ bt s (j : Int) ∧ bt s (j : Int) ≤ 57)
    ·rw [zG (p := (j = 0 → 97 ≤ bt s 0)) (fun h => by
      have h9 : j = 0 := by omega
      have := hj0 h9
      have := h h9
      omega), Bool.and_false]
    ·rw [zG c1, Bool.false_and]
   rw [this, Bool.false_and]
   exact Ev.now _
theorem refname_ev (s : ByteArray) : Ev (fun k => cubbyref07_Name.f k s) (nameOk s) := by
 have hyes : (s.size < 1 ∨ 12 < s.size) → Ev (fun k => cubbyref07_Name.j0 k s true) (nameOk s) := fun h => by
  have : nameOk s = false := by
   unfold nameOk
   rw [zG (by omega)]
   rfl
  rw [this]
  exact Ev.step (f := fun _ => some false) (fun k => by simp only [cubbyref07_Name.j0, if_true]) (Ev.now _)
 by_cases h1 : (s.size : Int) < 1
 ·exact Ev.congr (fun k => by unfold cubbyref07_Name.f; rw [zC h1]) (hyes (by omega))
 refine Ev.congr (f := fun k => cubbyref07_Name.j0 k s (decide ((s.size : Int) > 12))) (fun k => by unfold cubbyref07_Name.f; rw [zD h1]) ?_
 by_cases h2 : (s.size : Int) > 12
 ·rw [zF h2]
  exact hyes (by omega)
 ·rw [zG h2]
  refine Ev.step (f := fun k => cubbyref07_Name.l0 k s ((0 : Nat) : Int)) (fun k => by simp only [cubbyref07_Name.j0]; rw [zD (by simp)]; rfl) ?_
  have := refname_loop s (by omega) s.size 0 (by omega) (by omega) (by omega)
  have hR : restOk s 0 = nameOk s := by
   unfold restOk nameOk
   rw [List.drop_zero, Bool.and_comm]
   congr 1
   apply decide_eq_decide.2
   constructor
   ·intro h
    exact ⟨by omega, by omega, h rfl⟩
   ·intro h _
    exact h.2.2
  rw [← hR]
  exact this
end Go.Proofs.YthidcafbhjahdaaDoor.PlainName
namespace Go.Proofs.YthidcafbhjahdaaDoor.PlainOne
open Go Go.RowKit Go.Proofs.YthidcafbhjahdaaDoorW.PrintWords Go.Proofs.YthidcafbhjahdaaDoorW.PrintMore Go.Proofs.YthidcafbhjahdaaDoor.Q Go.Proofs.YthidcafbhjahdaaDoor.Plain Go.Proofs.YthidcafbhjahdaaDoor.PlainIr Go.Proofs.YthidcafbhjahdaaDoor.PlainName
set_option linter.unusedVariables false
set_option linter.unusedSimpArgs false
def hasD (op : Int) : Prop := (1 ≤ op ∧ op ≤ 8) ∨ op = 11
instance (op : Int) : Decidable (hasD op) := by unfold hasD; infer_instance
def bareP (op d a b : Int) (nm : ByteArray) (args : List Int) : Prop :=
 (op = 11 ∨ (nm.toList = ([] : List UInt8) ∧ args.length = 0)) ∧ ((op = 9 ∨ op = 10 ∨ op = 12 ∨ op = 14) → d = 0) ∧ (op = 11 → a = 0) ∧ ((op = 1 ∨ op = 2 ∨ op = 8 ∨ op = 10 ∨ op = 11 ∨ op = 12 ∨ op = 14) → b = 0)
instance (op d a b : Int) (nm : ByteArray) (args : List Int) : Decidable (bareP op d a b nm args) := by unfold bareP; infer_instance
def e5 (op : Int) (args : List Int) : Int := if op = 11 ∧ 4 < args.length then 192 else 0
def e4 (op : Int) (nm : ByteArray) (args : List Int) : Int := if op = 11 ∧ nameOk nm = false then 70 else e5 op args
def e3 (blocks op d a b : Int) (nm : ByteArray) (args : List Int) : Int := if (targets7 op d a b).any (oddReg blocks) = true then 74 else e4 op nm args
def e2 (blocks op d a b : Int) (nm : ByteArray) (args : List Int) : Int := if op = 1 ∧ (a < 0 ∨ 65536 ≤ a) then 81 else e3 blocks op d a b nm args
def e1 (regs blocks op d a b : Int) (nm : ByteArray) (args : List Int) : Int := if (hasD op ∧ oddReg regs d = true) ∨ (uses op a b args).any (oddReg regs) = true then 73 else e2 blocks op d a b nm args
def oneE (regs blocks op d a b : Int) (nm : ByteArray) (args : List Int) (last : Bool) : Int := if (1 ≤ op ∧ op ≤ 14) ∧ lastOp op = last ∧ bareP op d a b nm args then e1 regs blocks op d a b nm args else 72
theorem odd_iff (m n : Int) : oddReg m n = true ↔ n < 0 ∨ m ≤ n := by
 unfold oddReg
 exact decide_eq_true_iff
theorem any_odd {m : Int} {l : List Int} : l.any (oddReg m) = true ↔ ∃ i : Nat, i < l.length ∧ oddReg m (rd l (i : Int)) = true := by
 rw [List.any_eq_true]
 constructor
 ·rintro ⟨x, hx, h⟩
  obtain ⟨i, hi, rfl⟩ := List.mem_iff_getElem.1 hx
  exact ⟨i, hi, by rw [rd_get hi]; exact h⟩
 ·rintro ⟨i, hi, h⟩
  rw [rd_get hi] at h
  exact ⟨_, List.getElem_mem hi, h⟩

theorem refwithin_ev (l : List Int) (most : Int) (hl : l.length ≤ 4611686018427387904) : Ev (fun k => cubbyref07_within.f k l most) (!(l.any (oddReg most))) := by
 show Ev (fun k => cubbyref07_within.l0 k l most ((0 : Nat) : Int)) _
 refine seek (fun k i => cubbyref07_within.l0 k l most (i : Int)) l.length (fun i => oddReg most (rd l (i : Int)) = true) false _ ?_ ?_ ?_ ?_
 ·intro i hi hb
  rw [odd_iff] at hb
  refine Ev.step (f := fun _ => some false) (fun k => ?_) (Ev.now _)
  simp only [cubbyref07_within.l0]
  rw [zC (by omega), zC (by omega)]
  split
  ·rfl
  ·rw [zC (by omega)]
 ·intro i hi hb r' hE
  rw [odd_iff] at hb
  refine Ev.step (fun k => ?_) hE
  simp only [cubbyref07_within.l0]
  rw [zC (by omega), zC (by omega), zD (by omega), zD (by omega), wrap_nat (by omega)]
 ·intro h
  rw [any_odd.2 h]
  rfl
 ·intro h
  have : l.any (oddReg most) = false := by
   rw [← Bool.not_eq_true, any_odd]
   rintro ⟨i, hi, hb⟩
   exact h i hi hb
  rw [this]
  exact Ev.step (f := fun _ => some true) (fun k => by simp only [cubbyref07_within.l0]; rw [zD (by omega)]) (Ev.now _)
theorem refbare_ev (op d a b : Int) (nm : ByteArray) (args : List Int) (h : 1 ≤ op ∧ op ≤ 14) : Ev (fun k => cubbyref07_bare.f k op d a b nm args) (decide (bareP op d a b nm args)) := by
 have h3 : ∀ B, (B = true ↔ op = 10 ∨ op = 12 ∨ op = 14) → (op = 10 ∨ op = 11 ∨ op = 12 ∨ op = 14) → Ev (fun k => cubbyref07_bare.j3 k op B op d a b nm args) (if op = 11 then decide (a = 0 ∧ b = 0) else decide (d = 0 ∧ b = 0)) := by
  intro B hB ho
  refine Ev.step (f := fun _ => some _) (fun k => ?_) (Ev.now _)
  simp only [cubbyref07_bare.j3]
  by_cases c : op = 11
  ·rw [zD (by rw [hB]; omega), zC c, zC c]
   by_cases c1 : a = 0
   ·rw [zC c1]
    simp [c1]
    rfl
   ·rw [zD c1]
    simp [c1]
  ·rw [zC (by rw [hB]; omega), zD c]
   by_cases c1 : d = 0
   ·rw [zC c1]
    simp [c1]
    rfl
   ·rw [zD c1]
    simp [c1]
 have h2 : ∀ B, (B = true ↔ (3 ≤ op ∧ op ≤ 7) ∨ op = 13) → ¬ (op = 1 ∨ op = 2 ∨ op = 8) → Ev (fun k => cubbyref07_bare.j2 k op B op d a b nm args) (if (3 ≤ op ∧ op ≤ 7) ∨ op = 13 then true else if op = 9 then decide (d = 0) else if op = 11 then decide (a = 0 ∧ b = 0) else decide (d = 0 ∧ b = 0)) := by
  intro B hB ho
  by_cases c : (3 ≤ op ∧ op ≤ 7) ∨ op = 13
  ·rw [zC c]
   exact Ev.step (f := fun _ => some true) (fun k => by simp only [cubbyref07_bare.j2]; rw [zC (hB.2 c)]) (Ev.now _)
  ·rw [zD c]
   by_cases c1 : op = 9
   ·rw [zC c1]
    exact Ev.step (f := fun _ => some (d == 0)) (fun k => by simp only [cubbyref07_bare.j2]; rw [zD (by rw [hB]; exact c), zC c1]) (Ev.now _)
   ·rw [zD c1]
    by_cases c2 : op = 10
    ·exact Ev.step (fun k => by simp only [cubbyref07_bare.j2]; rw [zD (by rw [hB]; exact c), zD c1, zC c2]) (h3 (op == 10) (by rw [beq_iff_eq]; omega) (by omega))
    ·by_cases c3 : op = 14
     ·exact Ev.step (fun k => by simp only [cubbyref07_bare.j2]; rw [zD (by rw [hB]; exact c), zD c1, zD c2, zC c3]) (h3 (op == 14) (by rw [beq_iff_eq]; omega) (by omega))
     ·exact Ev.step (fun k => by simp only [cubbyref07_bare.j2]; rw [zD (by rw [hB]; exact c), zD c1, zD c2, zD c3]) (h3 (op == 12) (by rw [beq_iff_eq]; omega) (by omega))
 have h1 : ∀ B, (B = true ↔ op = 1 ∨ op = 2 ∨ op = 8) → Ev (fun k => cubbyref07_bare.j1 k op B op d a b nm args) (if op = 1 ∨ op = 2 ∨ op = 8 then decide (b = 0) else if (3 ≤ op ∧ op ≤ 7) ∨ op = 13 then true else if op = 9 then decide (d = 0) else if op = 11 then decide (a = 0 ∧ b = 0) else decide (d = 0 ∧ b = 0)) := by
  intro B hB
  by_cases c : op = 1 ∨ op = 2 ∨ op = 8
  ·rw [zC c]
   exact Ev.step (f := fun _ => some (b == 0)) (fun k => by simp only [cubbyref07_bare.j1]; rw [zC (hB.2 c)]) (Ev.now _)
  ·rw [zD c]
   have hn : ¬ B = true := by rw [hB]; exact c
   by_cases c3 : op = 3
   ·exact Ev.step (fun k => by simp only [cubbyref07_bare.j1]; rw [zD hn, zC c3]) (h2 (op == 3) (by rw [beq_iff_eq]; omega) c)
   by_cases c4 : op = 4
   ·exact Ev.step (fun k => by simp only [cubbyref07_bare.j1]; rw [zD hn, zD c3, zC c4]) (h2 (op == 4) (by rw [beq_iff_eq]; omega) c)
   by_cases c5 : op = 5
   ·exact Ev.step (fun k => by simp only [cubbyref07_bare.j1]; rw [zD hn, zD c3, zD c4, zC c5]) (h2 (op == 5) (by rw [beq_iff_eq]; omega) c)
   by_cases c6 : op = 6
   ·exact Ev.step (fun k => by simp only [cubbyref07_bare.j1]; rw [zD hn, zD c3, zD c4, zD c5, zC c6]) (h2 (op == 6) (by rw [beq_iff_eq]; omega) c)
   by_cases c7 : op = 7
   ·exact Ev.step (fun k => by simp only [cubbyref07_bare.j1]; rw [zD hn, zD c3, zD c4, zD c5, zD c6, zC c7]) (h2 (op == 7) (by rw [beq_iff_eq]; omega) c)
   ·exact Ev.step (fun k => by simp only [cubbyref07_bare.j1]; rw [zD hn, zD c3, zD c4, zD c5, zD c6, zD c7]) (h2 (op == 13) (by rw [beq_iff_eq]; omega) c)
 have h0 : Ev (fun k => cubbyref07_bare.j0 k false op d a b nm args) (if op = 1 ∨ op = 2 ∨ op = 8 then decide (b = 0) else if (3 ≤ op ∧ op ≤ 7) ∨ op = 13 then true else if op = 9 then decide (d = 0) else if op = 11 then decide (a = 0 ∧ b = 0) else decide (d = 0 ∧ b = 0)) := by
  by_cases c1 : op = 1
  ·exact Ev.step (fun k => by simp only [cubbyref07_bare.j0]; rw [zD Bool.false_ne_true, zC c1]) (h1 (op == 1) (by rw [beq_iff_eq]; omega))
  by_cases c2 : op = 2
  ·exact Ev.step (fun k => by simp only [cubbyref07_bare.j0]; rw [zD Bool.false_ne_true, zD c1, zC c2]) (h1 (op == 2) (by rw [beq_iff_eq]; omega))
  ·exact Ev.step (fun k => by simp only [cubbyref07_bare.j0]; rw [zD Bool.false_ne_true, zD c1, zD c2]) (h1 (op == 8) (by rw [beq_iff_eq]; omega))
 have hsame : (op = 11 ∨ (nm.toList = ([] : List UInt8) ∧ args.length = 0)) → (if op = 1 ∨ op = 2 ∨ op = 8 then decide (b = 0) else if (3 ≤ op ∧ op ≤ 7) ∨ op = 13 then true else if op = 9 then decide (d = 0) else if op = 11 then decide (a = 0 ∧ b = 0) else decide (d = 0 ∧ b = 0)) = decide (bareP op d a b nm args) := by
  intro hb
  unfold bareP
  repeat' split
  all_goals first
   | (apply decide_eq_decide.2; constructor <;> intro hx <;> first | omega | (refine ⟨hb, ?_, ?_, ?_⟩ <;> omega))
   | (symm; apply zF; refine ⟨hb, ?_, ?_, ?_⟩ <;> omega)
 by_cases c : op = 11
 ·rw [← hsame (.inl c)]
  exact Ev.congr (fun k => by unfold cubbyref07_bare.f; rw [zC c]) h0
 ·by_cases c1 : nm.toList = ([] : List UInt8)
  ·refine Ev.congr (fun k => by unfold cubbyref07_bare.f; rw [zD c, zC c1]) ?_
   by_cases c2 : (args.length : Int) > 0
   ·rw [zF c2, zG (by unfold bareP; omega)]
    exact Ev.step (f := fun _ => some false) (fun k => by simp only [cubbyref07_bare.j0]; rw [zC trivial]) (Ev.now _)
   ·rw [zG c2, ← hsame (.inr ⟨c1, by omega⟩)]
    exact h0
  ·refine Ev.congr (fun k => by unfold cubbyref07_bare.f; rw [zD c, zD c1]) ?_
   rw [zG (p := bareP op d a b nm args) (by
    unfold bareP
    rintro ⟨h4 | h4, _⟩
    ·exact c h4
    ·exact c1 h4.1)]
   exact Ev.step (f := fun _ => some false) (fun k => by simp only [cubbyref07_bare.j0]; rw [zC trivial]) (Ev.now _)
theorem uses_short {op a b : Int} {args : List Int} (ha : args.length ≤ 17592186043904) : (uses op a b args).length ≤ 4611686018427387904 := by
 unfold uses
 repeat' split
 all_goals first | omega | simp
theorem targets_short (op d a b : Int) : (targets7 op d a b).length ≤ 4611686018427387904 := by
 unfold targets7
 repeat' split
 all_goals simp
theorem defOf_iff {op d : Int} : (defOf op d = -1 ↔ ¬ hasD op ∨ d = -1) ∧ (hasD op → defOf op d = d) := by
 unfold defOf hasD
 constructor
 ·split <;> omega
 ·intro h
  rw [zC h]
section
variable (op d a b : Int) (nm : ByteArray) (args : List Int)
theorem r4 (B : Bool) : Ev (fun k => cubbyref07_One.j4 k B op d a b nm args) (if B = true then 70 else e5 op args) := by
 refine Ev.step (f := fun _ => some _) (fun k => ?_) (Ev.now _)
 simp only [cubbyref07_One.j4]
 unfold e5
 repeat' split
 all_goals first | rfl | omega
theorem r3 (blocks : Int) (B : Bool) : Ev (fun k => cubbyref07_One.j3 k blocks B op d a b nm args) (if B = true then 81 else e3 blocks op d a b nm args) := by
 cases B
 ·rw [zD Bool.false_ne_true]
  refine Ev.step (fun k => by simp only [cubbyref07_One.j3]; rw [zD Bool.false_ne_true, reftargets_eq, zJ]) (Ev.bind (refwithin_ev (targets7 op d a b) blocks (targets_short op d a b)) ?_)
  unfold e3
  by_cases c : (targets7 op d a b).any (oddReg blocks) = true
  ·rw [zC c, c]
   exact Ev.congr (f := fun _ => some 74) (fun k => by rw [zD (by decide)]) (Ev.now _)
  ·rw [zD c, (Bool.not_eq_true _).mp c]
   unfold e4
   by_cases c1 : op = 11
   ·refine Ev.congr (fun k => by rw [zC (by decide), zC c1]) (Ev.bind (refname_ev nm) ?_)
    have := r4 op d a b nm args (!nameOk nm)
    cases hn : nameOk nm
    ·rw [hn] at this
     rw [zC ⟨c1, rfl⟩]
     exact this
    ·rw [hn] at this
     rw [zD (by simp)]
     exact this
   ·rw [zD (fun h => c1 h.1)]
    exact Ev.congr (fun k => by rw [zC (by decide), zD c1]) (r4 op d a b nm args false)
 ·exact Ev.step (f := fun _ => some 81) (fun k => by simp only [cubbyref07_One.j3]; rw [zC trivial]) (Ev.now _)
theorem r2 (blocks : Int) (B : Bool) : Ev (fun k => cubbyref07_One.j2 k blocks B op d a b nm args) (if B = true then 73 else e2 blocks op d a b nm args) := by
 cases B
 ·rw [zD Bool.false_ne_true]
  unfold e2
  by_cases c : op = 1
  ·by_cases c1 : a < 0
   ·rw [zC ⟨c, .inl c1⟩]
    exact Ev.step (fun k => by simp only [cubbyref07_One.j2]; rw [zD Bool.false_ne_true, zC c, zC c1]) (r3 op d a b nm args blocks true)
   ·refine Ev.step (fun k => by simp only [cubbyref07_One.j2]; rw [zD Bool.false_ne_true, zC c, zD c1]) ?_
    have := r3 op d a b nm args blocks (decide (a ≥ 65536))
    by_cases c2 : a ≥ 65536
    ·rw [zC ⟨c, .inr c2⟩]
     rw [zF c2] at this ⊢
     exact this
    ·rw [zD (by omega)]
     rw [zG c2] at this ⊢
     exact this
  ·rw [zD (by omega)]
   exact Ev.step (fun k => by simp only [cubbyref07_One.j2]; rw [zD Bool.false_ne_true, zD c]) (r3 op d a b nm args blocks false)
 ·exact Ev.step (f := fun _ => some 73) (fun k => by simp only [cubbyref07_One.j2]; rw [zC trivial]) (Ev.now _)
theorem r1 (h : 1 ≤ op ∧ op ≤ 14) (blocks : Int) (B : Bool) : Ev (fun k => cubbyref07_One.j1 k blocks B op d a b nm args) (if B = true ∨ (hasD op ∧ d = -1) then 73 else e2 blocks op d a b nm args) := by
 cases B
 ·have hd := (defOf_iff (op := op) (d := d)).1
  by_cases c : defOf op d = -1
  ·by_cases c9 : op = 9
   ·rw [zD (by unfold hasD; rintro (x | x) <;> first | exact absurd x (by decide) | omega)]
    exact Ev.step (fun k => by simp only [cubbyref07_One.j1]; rw [zD Bool.false_ne_true, refdef_eq, zJ, zC c, zC c9]) (r2 op d a b nm args blocks false)
   ·by_cases c10 : op = 10
    ·rw [zD (by unfold hasD; rintro (x | x) <;> first | exact absurd x (by decide) | omega)]
     exact Ev.step (fun k => by simp only [cubbyref07_One.j1]; rw [zD Bool.false_ne_true, refdef_eq, zJ, zC c, zD c9, zC c10]) (r2 op d a b nm args blocks false)
    ·refine Ev.step (fun k => by simp only [cubbyref07_One.j1]; rw [zD Bool.false_ne_true, refdef_eq, zJ, zC c, zD c9, zD c10, reflast_eq, zJ]) ?_
     have := r2 op d a b nm args blocks (!lastOp op)
     by_cases cl : 12 ≤ op ∧ op ≤ 14
     ·rw [zD (by unfold hasD; rintro (x | x) <;> first | exact absurd x (by decide) | omega)]
      rw [show lastOp op = true from zF cl] at this ⊢
      exact this
     ·rw [zC (.inr ⟨by unfold hasD; omega, by unfold hasD at hd; omega⟩)]
      rw [show lastOp op = false from zG cl] at this ⊢
      exact this
  ·rw [zD (by
    rintro (x | x)
    ·exact absurd x (by decide)
    ·exact c (hd.2 (.inr x.2)))]
   exact Ev.step (fun k => by simp only [cubbyref07_One.j1]; rw [zD Bool.false_ne_true, refdef_eq, zJ, zD c]) (r2 op d a b nm args blocks false)
 ·rw [zC (.inl rfl)]
  exact Ev.step (f := fun _ => some 73) (fun k => by simp only [cubbyref07_One.j1]; rw [zC trivial]) (Ev.now _)
theorem r0 (h : 1 ≤ op ∧ op ≤ 14) (ha : args.length ≤ 17592186043904) (regs blocks : Int) (B : Bool) : Ev (fun k => cubbyref07_One.j0 k regs blocks B op d a b nm args) (if B = true then 72 else e1 regs blocks op d a b nm args) := by
 cases B
 ·rw [zD Bool.false_ne_true]
  have hd := (defOf_iff (op := op) (d := d))
  have hj : Ev (fun k => (cubbyref07_Uses.f k op d a b nm args).bind fun t273 => (cubbyref07_within.f k t273 regs).bind fun t276 => cubbyref07_One.j1 k blocks (!t276) op d a b nm args) (if (uses op a b args).any (oddReg regs) = true ∨ (hasD op ∧ d = -1) then 73 else e2 blocks op d a b nm args) := by
   refine Ev.bind (refuses_ev op d a b nm args ha) (Ev.bind (refwithin_ev _ regs (uses_short ha)) ?_)
   have := r1 op d a b nm args h blocks ((uses op a b args).any (oddReg regs))
   rw [Bool.not_not]
   exact this
  by_cases c : defOf op d = -1
  ·refine Ev.step (fun k => by simp only [cubbyref07_One.j0]; rw [zD Bool.false_ne_true, refdef_eq, zJ, zC c]) ?_
   have e : e1 regs blocks op d a b nm args = (if (uses op a b args).any (oddReg regs) = true ∨ (hasD op ∧ d = -1) then 73 else e2 blocks op d a b nm args) := by
    unfold e1
    have h1 : ((hasD op ∧ oddReg regs d = true) ∨ (uses op a b args).any (oddReg regs) = true) ↔ ((uses op a b args).any (oddReg regs) = true ∨ (hasD op ∧ d = -1)) := by
     rw [odd_iff]
     have h2 := hd.1.1 c
     constructor
     ·rintro (⟨x, _⟩ | x)
      ·exact .inr ⟨x, by rcases h2 with h2 | h2; exact absurd x h2; exact h2⟩
      ·exact .inl x
     ·rintro (x | ⟨x, y⟩)
      ·exact .inr x
      ·exact .inl ⟨x, .inl (by omega)⟩
    simp only [h1]
   rw [e]
   exact hj
  ·have hh : hasD op := Decidable.byContradiction fun x => c (hd.1.2 (.inl x))
   have hdd := hd.2 hh
   have hne : d ≠ -1 := fun x => c (hd.1.2 (.inr x))
   by_cases c1 : d < 0
   ·have e : e1 regs blocks op d a b nm args = 73 := by
     unfold e1
     rw [zC (.inl ⟨hh, (odd_iff _ _).2 (.inl c1)⟩)]
    rw [e]
    have := r1 op d a b nm args h blocks true
    rw [zC (.inl rfl)] at this
    exact Ev.step (fun k => by simp only [cubbyref07_One.j0]; rw [zD Bool.false_ne_true, refdef_eq, zJ, zD c, zJ, zC (by omega)]) this
   ·by_cases c2 : d ≥ regs
    ·have e : e1 regs blocks op d a b nm args = 73 := by
      unfold e1
      rw [zC (.inl ⟨hh, (odd_iff _ _).2 (.inr c2)⟩)]
     rw [e]
     have := r1 op d a b nm args h blocks true
     rw [zC (.inl rfl)] at this
     exact Ev.step (fun k => by simp only [cubbyref07_One.j0]; rw [zD Bool.false_ne_true, refdef_eq, zJ, zD c, zJ, zD (by omega), zJ, zC (by omega)]) this
    ·have e : e1 regs blocks op d a b nm args = (if (uses op a b args).any (oddReg regs) = true ∨ (hasD op ∧ d = -1) then 73 else e2 blocks op d a b nm args) := by
      unfold e1
      have h1 : ((hasD op ∧ oddReg regs d = true) ∨ (uses op a b args).any (oddReg regs) = true) ↔ ((uses op a b args).any (oddReg regs) = true ∨ (hasD op ∧ d = -1)) := by
       rw [odd_iff]
       constructor
       ·rintro (⟨_, x⟩ | x)
        ·omega
        ·exact .inl x
       ·rintro (x | ⟨_, y⟩)
        ·exact .inr x
        ·exact absurd y hne
      simp only [h1]
     rw [e]
     exact Ev.step (fun k => by simp only [cubbyref07_One.j0]; rw [zD Bool.false_ne_true, refdef_eq, zJ, zD c, zJ, zD (by omega), zJ, zD (by omega)]) hj
 ·exact Ev.step (f := fun _ => some 72) (fun k => by simp only [cubbyref07_One.j0]; rw [zC trivial]) (Ev.now _)
theorem refone_ev (ha : args.length ≤ 17592186043904) (regs blocks : Int) (last : Bool) : Ev (fun k => cubbyref07_One.f k op d a b nm args regs blocks last) (oneE regs blocks op d a b nm args last) := by
 unfold oneE
 have hyes : Ev (fun k => cubbyref07_One.j0 k regs blocks true op d a b nm args) 72 := Ev.step (f := fun _ => some 72) (fun k => by simp only [cubbyref07_One.j0]; rw [zC trivial]) (Ev.now _)
 by_cases c0 : op < 1
 ·rw [zD (by omega)]
  exact Ev.congr (fun k => by unfold cubbyref07_One.f; rw [zC c0]) hyes
 by_cases c1 : op > 14
 ·rw [zD (by omega)]
  exact Ev.congr (fun k => by unfold cubbyref07_One.f; rw [zD c0, zC c1]) hyes
 have h : 1 ≤ op ∧ op ≤ 14 := by omega
 by_cases c2 : lastOp op = last
 ·refine Ev.congr (fun k => by unfold cubbyref07_One.f; rw [zD c0, zD c1, reflast_eq, zJ, zD (by simp [c2])]) (Ev.bind (refbare_ev op d a b nm args h) ?_)
  have := r0 op d a b nm args h ha regs blocks (!decide (bareP op d a b nm args))
  by_cases c3 : bareP op d a b nm args
  ·rw [zC ⟨h, c2, c3⟩]
   rw [zF c3] at this ⊢
   exact this
  ·rw [zD (fun x => c3 x.2.2)]
   rw [zG c3] at this ⊢
   exact this
 ·rw [zD (fun x => c2 x.2.1)]
  exact Ev.congr (fun k => by unfold cubbyref07_One.f; rw [zD c0, zD c1, reflast_eq, zJ, zC (by simpa using c2)]) hyes
end
end Go.Proofs.YthidcafbhjahdaaDoor.PlainOne
