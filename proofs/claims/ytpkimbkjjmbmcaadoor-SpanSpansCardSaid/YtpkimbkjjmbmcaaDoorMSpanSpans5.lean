/- SpanSpans: parts of the proofs, put together. -/
import Derived.OpenShut
import Derived.Laws.BitsAllLaws
import Derived.Lib.TrailingZeros
import Derived.Test.YtpkimbkjjmbmcaaDoorMSpanSpans1
import Derived.Test.YtpkimbkjjmbmcaaDoorMSpanSpans2
import Derived.Test.YtpkimbkjjmbmcaaDoorMSpanSpans3
import Derived.Test.YtpkimbkjjmbmcaaDoorMSpanSpans4
namespace Go.Proofs.YtpkimbkjjmbmcaaDoor.Q
open Go.RowKit Go.Proofs.YtpkimbkjjmbmcaaDoorW.PrintWords Go.Proofs.YtpkimbkjjmbmcaaDoorW.PrintLast Go.Proofs.YtpkimbkjjmbmcaaDoorW.PrintMore
attribute [local go_sem] max2_int min2_int max_two min_two max_three min_three max_four min_four
set_option linter.unusedVariables false
set_option linter.unusedSimpArgs false
def span_Spans_1.f (a0 : Int) (a1 : Int) (l2 : List (SSpan)) : Option ((List (SSpan))) := if 0 ≤ a0 then (if a0 < (l2.length : Int) then (if ((rd_TSpan l2 a0).f0) < 0 then ((some (l2.set (a0 : Int).toNat (⟨a1, a1⟩ : SSpan) : List (SSpan))).bind fun y534 => ((some (y534.set (a0 : Int).toNat (⟨mn ((rd_TSpan y534 a0).f0) a1, (rd_TSpan y534 a0).f1⟩ : SSpan) : List (SSpan))).bind fun y537 => (some (y537.set (a0 : Int).toNat (⟨(rd_TSpan y537 a0).f0, mx ((rd_TSpan y534 a0).f1) a1⟩ : SSpan))))) else ((some (l2.set (a0 : Int).toNat (⟨mn ((rd_TSpan l2 a0).f0) a1, (rd_TSpan l2 a0).f1⟩ : SSpan) : List (SSpan))).bind fun y541 => (some (y541.set (a0 : Int).toNat (⟨(rd_TSpan y541 a0).f0, mx ((rd_TSpan l2 a0).f1) a1⟩ : SSpan))))) else (none)) else (none)
def span_Spans_1.T2 : Bool × List (List Nat × List Nat) := (true, [([], []), ([], []), ([], []), ([], []), ([], []), ([], []), ([4, 5], [4, 5]), ([6], [6]), ([7], [7]), ([], []), ([8, 9], [8, 9]), ([], []), ([], []), ([11, 12], [11, 12]), ([13], [13]), ([14], [14]), ([], []), ([15, 16], [15, 16]), ([0, 1, 0, 1, 4, 5, 6, 7, 8, 9, 10, 15], [0, 1]), ([18, 0, 1, 4, 5, 6, 7, 8, 9, 10, 15], [18]), ([19, 10, 0, 1, 4, 5, 6, 7, 8, 9, 10, 15], [10, 19]), ([2, 3, 0, 1, 2, 3, 4, 5, 6, 7, 8, 9, 10, 11, 12, 13, 14, 15, 16, 17, 18, 19, 20], [2, 3]), ([21, 0, 1, 2, 3, 4, 5, 6, 7, 8, 9, 10, 11, 12, 13, 14, 15, 16, 17, 18, 19, 20], [21]), ([22, 17, 20, 0, 1, 2, 3, 4, 5, 6, 7, 8, 9, 10, 11, 12, 13, 14, 15, 16, 17, 18, 19, 20], [17, 22])])
def span_Spans_1.B2 : List Nat := [0, 0, 0, 0, 0, 0, 48, 112, 240, 0, 1008, 0, 0, 6144, 14336, 30720, 0, 129024, 65523, 327667, 851955, 2097151, 4194303, 8388607]
theorem span_Spans_1.tab2 : rtab .any (opsOf Tryd.f41 2) = span_Spans_1.T2 := by kernel_rfl
theorem span_Spans_1.bits2 : waitsOk span_Spans_1.T2.2 span_Spans_1.B2 = true := by kernel_rfl
set_option maxHeartbeats 8000000 in
set_option maxRecDepth 100000 in
theorem span_Spans_1.calls (a0 : Int) (a1 : Int) (P2_ : Nat → Prop) (u9000_ : Value) (l2 : List (SSpan)) (r : List (SSpan)) (w0 w : World) (gb : Nat) (hB : Below w0.heap.size w0 w) (hbk : w.heap[gb]? = some (.cells #[u9000_] 32 (0, 0))) (ho2 : Kd.R kSpan 28 w w0.heap.size P2_ u9000_ l2) (h : span_Spans_1.f a0 a1 l2 = some r) :
 Calls Tryd.prog 41 #[.int .i64 a0, .int .i64 a1, .pointer (some ⟨gb, 0, none⟩)] w fun e w' => e = .returned (.tuple #[]) ∧ w'.heap[gb]? = some (.cells #[u9000_] 32 (0, 0)) ∧ Kd.R kSpan 28 w' w0.heap.size (fun k_ => (P2_ k_ ∨ w.heap.size ≤ k_)) u9000_ r ∧ Below w0.heap.size w0 w' ∧ Kept w w' (fun k_ => P2_ k_) := by
 have huS := Tryd.underlying28
 have HO2 := zA (show Kd.R kSpan 28 w w0.heap.size (fun k_ => (P2_ k_ ∨ w.heap.size ≤ k_)) u9000_ l2 from Kd.R_mono ho2 (fun k_ hk => (.inl hk)))
 have BK := zA hbk
 clear hbk
 have HK := zA (Kept.refl w (fun k_ => P2_ k_))
 have HW0 := zA hB.size
 have HB := zA hB
 clear hB
 have H := h; clear h; unfold span_Spans_1.f at H
 by_cases c4 : 0 ≤ a0
 ·rw [zC c4] at H
  have c4b0 := zF c4
  clear c4
  by_cases c5 : a0 < (l2.length : Int)
  ·rw [zC c5] at H
   have c5b0 := zF c5
   clear c5
   by_cases c6 : ((rd_TSpan l2 a0).f0) < 0
   ·rw [zC c6] at H
    have c6b0 := zF c6
    clear c6
    obtain ⟨y534, hy534⟩ : ∃ y_ : List (SSpan), y_ = (l2.set (a0 : Int).toNat (⟨a1, a1⟩ : SSpan)) := ⟨_, rfl⟩
    replace H : ((some (y534.set (a0 : Int).toNat (⟨mn ((rd_TSpan y534 a0).f0) a1, (rd_TSpan y534 a0).f1⟩ : SSpan) : List (SSpan))).bind fun y537 => (some (y537.set (a0 : Int).toNat (⟨(rd_TSpan y537 a0).f0, mx ((rd_TSpan y534 a0).f1) a1⟩ : SSpan)))) = some r := by (try rw [hy534]); first | with_reducible exact H | exact (zJ _ _).symm.trans H | exact H
    have Ny534 := zA hy534
    clear hy534
    obtain ⟨ji8, hji8⟩ : ∃ j_ : Int, (mn ((rd_TSpan y534 a0).f0) a1) = j_ := ⟨_, rfl⟩
    replace H : ((some (y534.set (a0 : Int).toNat (⟨ji8, (rd_TSpan y534 a0).f1⟩ : SSpan) : List (SSpan))).bind fun y537 => (some (y537.set (a0 : Int).toNat (⟨(rd_TSpan y537 a0).f0, mx ((rd_TSpan y534 a0).f1) a1⟩ : SSpan)))) = some r := by first | (rw [hji8] at H; exact H) | (simp only [hji8] at H ⊢; exact H)
    have hji8_ : (if a1 < ((rd_TSpan y534 a0).f0) then a1 else ((rd_TSpan y534 a0).f0)) = ji8 := hji8
    obtain ⟨ji9, hji9⟩ : ∃ j_ : Int, (mx ((rd_TSpan y534 a0).f1) a1) = j_ := ⟨_, rfl⟩
    replace H : ((some (y534.set (a0 : Int).toNat (⟨ji8, (rd_TSpan y534 a0).f1⟩ : SSpan) : List (SSpan))).bind fun y537 => (some (y537.set (a0 : Int).toNat (⟨(rd_TSpan y537 a0).f0, ji9⟩ : SSpan)))) = some r := by first | (rw [hji9] at H; exact H) | (simp only [hji9] at H ⊢; exact H)
    have hji9_ : (if ((rd_TSpan y534 a0).f1) < a1 then a1 else ((rd_TSpan y534 a0).f1)) = ji9 := hji9
    obtain ⟨y537, hy537⟩ : ∃ y_ : List (SSpan), y_ = (y534.set (a0 : Int).toNat (⟨ji8, (rd_TSpan y534 a0).f1⟩ : SSpan)) := ⟨_, rfl⟩
    replace H : (some (y537.set (a0 : Int).toNat (⟨(rd_TSpan y537 a0).f0, ji9⟩ : SSpan))) = some r := by (try rw [hy537]); first | with_reducible exact H | exact (zJ _ _).symm.trans H | exact H
    have Ny537 := zA hy537
    clear hy537
    obtain ⟨y538, hy538⟩ : ∃ y_ : List (SSpan), y_ = (y537.set (a0 : Int).toNat (⟨(rd_TSpan y537 a0).f0, ji9⟩ : SSpan)) := ⟨_, rfl⟩
    replace H : (some y538) = some r := by (try rw [hy538]); first | with_reducible exact H | exact (zJ _ _).symm.trans H | exact H
    have Ny538 := zA hy538
    clear hy538
    obtain rfl := zI H
    obtain ⟨Ao12, co12, eo12⟩ := Kd.R_slice HO2.out
    subst eo12
    have p533 : 0 ≤ (a0 : Int) := zB qA
    have q533 : a0 < (l2.length : Int) := zB qA
    obtain ⟨ad533, e533, hx533_0, hx533_1⟩ := at_TSpan (Kd.R_reads' HO2.out).2.2 a0 p533 q533
    cases e533
    replace p533 := eq_true p533
    replace q533 := eq_true q533
    have p7 : 0 ≤ (a0 : Int) := zB qA
    have q7 : (a0 : Int) < ((l2.length : Int) : Int) := zB qA
    obtain ⟨go7, co7, eo7, gb7, gl7, cl7, HG7⟩ := Kd.R_form HO2.out (by omega)
    (first | cases eo7 | (injection eo7 with ea_ en_ ec_; (first | subst ea_ | (injection ea_ with ea_; subst ea_)); subst ec_; clear en_))
    have GB7 := zA gb7
    have GG7 := zA HG7
    clear gb7 gl7 HG7
    have HMgo7 := zA (show (P2_ go7 ∨ w.heap.size ≤ go7) from (HO2.out.1 _ rfl))
    (first | simp only [add_plain] at hx533_0 | skip)
    (first | simp only [add_plain] at hx533_1 | skip)
    obtain ⟨ce7, hcl7, hM7, hcc7, hfr7⟩ := Kd.R_elem HO2.out zSpan (a0 : Int) p7 q7
    obtain rfl := kSpan_openM hM7
    have hx7_0 : w.cell? ⟨go7, (a0 : Int).toNat * 2, none⟩ = some (.int .i64 ((rd_TSpan l2 a0).f0)) := hcc7 0 _ rfl
    have hx7_1 : w.cell? ⟨go7, (a0 : Int).toNat * 2 + 1, none⟩ = some (.int .i64 ((rd_TSpan l2 a0).f1)) := hcc7 1 _ rfl
    have hf7_0 : w.frozen? ⟨go7, (a0 : Int).toNat * 2, none⟩ = false := hfr7 0
    have hf7_1 : w.frozen? ⟨go7, (a0 : Int).toNat * 2 + 1, none⟩ = false := hfr7 1
    clear hcl7 hcc7 hfr7 hM7
    replace p7 := eq_true p7
    replace q7 := eq_true q7
    have HX13 := zA (show Kd.R kSpan 28 w w0.heap.size (fun k_ => (P2_ k_ ∨ w.heap.size ≤ k_)) (.slice (some ⟨go7, 0, none⟩) l2.length co12) l2 from (qR HO2.out))
    obtain ⟨ce13, hcl13, hM13, hcc13, hfr13⟩ := Kd.R_elem HX13.out zSpan (a0 : Int) (zB qA) (by have h_ : (a0 : Int) < ((l2.length : Int) : Int) := zB qA; first | exact h_ | (have e_ := (Kd.R_reads' HO2.out).1; omega) | simpa using h_)
    obtain rfl := kSpan_openM hM13
    have HP13 := Kd.R_seg HX13.out (a0 : Int) (zB qA) (by have h_ : (a0 : Int) < ((l2.length : Int) : Int) := zB qA; first | exact h_ | (have e_ := (Kd.R_reads' HO2.out).1; omega) | simpa using h_) (seg := [.int .i64 a1, .int .i64 a1]) (j := 0) hcl13 hcc13 (show 2 ≤ 2 from by decide) (x' := (⟨a1, a1⟩ : SSpan)) (kSpan_mkM _ _ _ (⟨a1, a1⟩ : SSpan) ) (fun _ hk => hk)
    have hx13_0 := hcc13 0 _ rfl
    (try simp only [show (kSpan).sz = 2 from rfl, Nat.mul_one, Nat.add_zero] at hx13_0)
    have hf13_0 := hfr13 0
    (try simp only [show (kSpan).sz = 2 from rfl, Nat.mul_one, Nat.add_zero] at hf13_0)
    have hx13_1 := hcc13 1 _ rfl
    (try simp only [show (kSpan).sz = 2 from rfl, Nat.mul_one, Nat.add_zero] at hx13_1)
    have hf13_1 := hfr13 1
    (try simp only [show (kSpan).sz = 2 from rfl, Nat.mul_one, Nat.add_zero] at hf13_1)
    clear hcl13 hcc13 hfr13 hM13
    have hcb : w.cell? ⟨gb, 0, none⟩ = some (.slice (some ⟨go7, 0, none⟩) l2.length co12) := (blk_cell BK.out 0).trans rfl
    have hne : Aside0 (some go7 ≠ some gb) := ⟨fun e_ => by obtain ⟨cells, hc_⟩ := Kd.R_typed HO2.out go7 rfl; exact blk_ne BK.out hc_ (by decide) (zI e_).symm⟩
    go_enter Tryd.func41, Tryd.ntmps41
    try go_wp2_with (first | ((with_reducible refine gate_store (t := 28) (p := 16) rfl ?_); refine store_event (t := 28) (p := 16) (v := ?vo_w14) (w1 := ((w.setCell ⟨go7, (a0 : Int).toNat * 2, none⟩ (.int .i64 a1)).setCell ⟨go7, (a0 : Int).toNat * 2 + 1, none⟩ (.int .i64 a1))) (by rfl) (by rfl) (by rfl) ?hr ?_; (case hr => go_simp <;> rfl); intro w14 hw; have hg : w.grownBy w14 (some go7) := (by rw [hw]; exact HP13.2); have hp_ : Kd.R kSpan 28 w14 w0.heap.size (fun k_ => (P2_ k_ ∨ w.heap.size ≤ k_)) (.slice (some ⟨go7, 0, none⟩) l2.length co12) y534 := (by rw [hw, Ny534.out]; exact HP13.1); clear HP13; replace HB := zA ((by rw [hw]; exact below_set (below_set (HB.out) GB7.out) GB7.out : Below w0.heap.size w0 w14)); replace HK := zA (Kept.of_grown (S := (fun k_ => P2_ k_)) hg (by repeat (first | (with_reducible first | exact HK.out | apply Kept.alloc | apply Kept.drewN | apply Kept.drew) | exact HK.out)) (fun k_ e_ => (HO2.out.1 k_ e_))); replace HO2 := zA (hp_); replace BK := zA (blk_grown BK.out hg (Ne.symm hne.out)); clear hcb; have hcb := (blk_cell BK.out 0).trans (rfl : _ = some (Value.slice (some ⟨go7, 0, none⟩) l2.length co12)); clear hg hw hp_))
    replace BK := zA (blk_drew BK.out)
    replace hcb := (blk_cell BK.out 0).trans (rfl : _ = some (Value.slice (some ⟨go7, 0, none⟩) l2.length co12))
    have n0_ := zA (Kd.R_drew HO2.out)
    have n1_ := zA (Kept.drew HK.out)
    have n2_ := zA (below_drew1 HB.out)
    clear HO2
    clear HK
    clear HB
    have HO2 := n0_
    have HK := n1_
    have HB := n2_
    clear n0_ n1_ n2_
    have p535 : 0 ≤ (a0 : Int) := zB qA
    have q535 : a0 < (y534.length : Int) := (by have h_ : (a0 : Int) < ((l2.length : Int) : Int) := zB qA; first | (have e_ := (Kd.R_reads' HO2.out).1; omega) | simpa only [Ny534.out, List.length_set] using h_)
    have ql535 : ((a0 : Int) < ((l2.length : Int) : Int)) = True := eq_true (zB qA)
    obtain ⟨ad535, e535, hx535_0, hx535_1⟩ := at_TSpan (Kd.R_reads' HO2.out).2.2 a0 p535 q535
    obtain rfl : (⟨go7, 0, none⟩ : Addr) = ad535 := (by injection e535)
    (first | simp only [add_plain] at hx535_0 | simp only [add_at] at hx535_0 | simp only [Addr.add, Nat.zero_add] at hx535_0 | skip)
    (first | simp only [add_plain] at hx535_1 | simp only [add_at] at hx535_1 | simp only [Addr.add, Nat.zero_add] at hx535_1 | skip)
    replace p535 := eq_true p535
    replace q535 := eq_true q535
    have p536 : 0 ≤ (a0 : Int) := zB qA
    have q536 : a0 < (y534.length : Int) := (by have h_ : (a0 : Int) < ((l2.length : Int) : Int) := zB qA; first | (have e_ := (Kd.R_reads' HO2.out).1; omega) | simpa only [Ny534.out, List.length_set] using h_)
    have ql536 : ((a0 : Int) < ((l2.length : Int) : Int)) = True := eq_true (zB qA)
    obtain ⟨ad536, e536, hx536_0, hx536_1⟩ := at_TSpan (Kd.R_reads' HO2.out).2.2 a0 p536 q536
    obtain rfl : (⟨go7, 0, none⟩ : Addr) = ad536 := (by injection e536)
    (first | simp only [add_plain] at hx536_0 | simp only [add_at] at hx536_0 | simp only [Addr.add, Nat.zero_add] at hx536_0 | skip)
    (first | simp only [add_plain] at hx536_1 | simp only [add_at] at hx536_1 | simp only [Addr.add, Nat.zero_add] at hx536_1 | skip)
    replace p536 := eq_true p536
    replace q536 := eq_true q536
    have p10 : 0 ≤ (a0 : Int) := zB qA
    have q10 : (a0 : Int) < ((l2.length : Int) : Int) := zB qA
    obtain ⟨ce10, hcl10, hM10, hcc10, hfr10⟩ := Kd.R_elem HO2.out zSpan (a0 : Int) p10 q10
    obtain rfl := kSpan_openM hM10
    have hx10_0 : World.cell? _ ⟨go7, (a0 : Int).toNat * 2, none⟩ = some (.int .i64 ((rd_TSpan y534 a0).f0)) := hcc10 0 _ rfl
    have hx10_1 : World.cell? _ ⟨go7, (a0 : Int).toNat * 2 + 1, none⟩ = some (.int .i64 ((rd_TSpan y534 a0).f1)) := hcc10 1 _ rfl
    have hf10_0 : World.frozen? _ ⟨go7, (a0 : Int).toNat * 2, none⟩ = false := hfr10 0
    have hf10_1 : World.frozen? _ ⟨go7, (a0 : Int).toNat * 2 + 1, none⟩ = false := hfr10 1
    clear hcl10 hcc10 hfr10 hM10
    replace p10 := eq_true p10
    replace q10 := eq_true q10
    obtain ⟨ce16, hcl16, hM16, hcc16, hfr16⟩ := Kd.R_elem HO2.out zSpan (a0 : Int) (zB qA) (by have h_ : (a0 : Int) < ((l2.length : Int) : Int) := zB qA; first | exact h_ | (have e_ := (Kd.R_reads' HO2.out).1; omega) | simpa using h_)
    obtain rfl := kSpan_openM hM16
    have HP16 := (Kd.R_seg HO2.out (a0 : Int) (zB qA) (by have h_ : (a0 : Int) < ((l2.length : Int) : Int) := zB qA; first | exact h_ | (have e_ := (Kd.R_reads' HO2.out).1; omega) | simpa using h_) (seg := [.int .i64 ji8]) (j := 0) hcl16 hcc16 (show 1 ≤ 2 from by decide) (x' := (⟨ji8, (rd_TSpan y534 a0).f1⟩ : SSpan)) (kSpan_mkM _ _ _ (⟨ji8, (rd_TSpan y534 a0).f1⟩ : SSpan) ) (fun _ hk => hk)).1
    rw [← Ny537.out] at HP16
    have HQ16 := zA HP16
    clear hcl16 hcc16 hfr16 hM16 HP16
    have p11 : 0 ≤ (a0 : Int) := zB qA
    have q11 : (a0 : Int) < ((l2.length : Int) : Int) := zB qA
    replace p11 := eq_true p11
    replace q11 := eq_true q11
    obtain ⟨ce17, hcl17, hM17, hcc17, hfr17⟩ := Kd.R_elem HQ16.out zSpan (a0 : Int) (zB qA) (by have h_ : (a0 : Int) < ((l2.length : Int) : Int) := zB qA; first | exact h_ | (have e_ := (Kd.R_reads' HO2.out).1; omega) | simpa using h_)
    obtain rfl := kSpan_openM hM17
    have HP17 := (Kd.R_seg HQ16.out (a0 : Int) (zB qA) (by have h_ : (a0 : Int) < ((l2.length : Int) : Int) := zB qA; first | exact h_ | (have e_ := (Kd.R_reads' HO2.out).1; omega) | simpa using h_) (seg := [.int .i64 ji9]) (j := 1) hcl17 hcc17 (show 2 ≤ 2 from by decide) (x' := (⟨(rd_TSpan y537 a0).f0, ji9⟩ : SSpan)) (kSpan_mkM _ _ _ (⟨(rd_TSpan y537 a0).f0, ji9⟩ : SSpan) ) (fun _ hk => hk)).1
    rw [← Ny538.out] at HP17
    have HQ17 := zA HP17
    clear hcl17 hcc17 hfr17 hM17 HP17
    refine start_ (n := 24) (S := fun w' => w'.cell? ⟨gb, 0, none⟩ = some (.slice (some ⟨go7, 0, none⟩) l2.length co12) ∧ w'.cell? ⟨go7, (a0).toNat * 2 + 1, none⟩ = some (.int .i64 ((rd_TSpan y534 a0).f1))) (ds := [23]) (bA 24 0) (by kernel_rfl) rfl rfl ⟨hcb, hx535_1⟩ (fun hHeld => ?_); refine with_tabW span_Spans_1.tab2 span_Spans_1.bits2 (fun HT_ HW_ => ?_)
    generalize w14.drew = w15 at HO2 HK HB HQ16 HQ17 hf10_0 hf10_1 hx10_0 hx10_1 hx535_0 hx535_1 hx536_0 hx536_1 BK hcb hHeld ⊢
    refine tk_ (i := 0) (N := some 17) (bA 24 1) ?_
    refine pu_ (i := 1) (N := some 18) (bA 24 3) ?_
    refine tk_ (i := 2) (N := some 19) (bA 24 7) ?_
    refine pu_ (i := 3) (N := some 20) (bA 24 15) ?_
    refine tk_ (i := 4) (N := some 21) (bA 24 31) ?_
    refine pu_ (i := 5) (N := some 22) (bA 24 63) ?_
    refine pu_ (i := 6) (N := some 23) (bA 24 127) ?_
    refine pu_ (i := 7) (N := some 24) (bA 24 255) ?_
    refine pu_ (i := 9) (N := some 26) (bA 24 767) ?_
    refine tk_ (i := 11) (N := some 28) (bA 24 2815) ?_
    refine pu_ (i := 12) (N := some 29) (bA 24 6911) ?_
    refine pu_ (i := 13) (N := some 30) (bA 24 15103) ?_
    refine pu_ (i := 14) (N := some 31) (bA 24 31487) ?_
    refine tk_ (i := 15) (N := some 32) (bA 24 64255) ?_
    refine pu_ (i := 16) (N := some 33) (bA 24 129791) ?_
    refine pu_ (i := 17) (N := some 34) (bA 24 260863) ?_
    refine one_ (i := 8) (N := some 25) (bA 24 261119) rfl rfl (one_of HT_.out (by kernel_rfl)) (by decide) (fun K hK => ?_)
    refine value_ (v := .int .i64 ((rd_TSpan y534 a0).f0)) (w1 := w15) rfl rfl (by first | (go_simp; done) | (go_simp; with_reducible rfl)) ?_
    refine hK.out _ _ hHeld (fun hHeld => ?_)
    clear hK K
    refine norm_ (a' := ?_) ?_ ?_
    rotate_left
    ·show Act.put _ (some 25) _ = _
     simp only [Act.put, List.setIfInBounds_toArray, List.set_cons_zero, List.set_cons_succ, i64_w, i32_w]
     rfl
    refine pu_ (i := 10) (N := some 27) (bA 24 262143) ?_
    refine pu_ (i := 18) (N := some 35) (bA 24 524287) ?_
    refine pu_ (i := 19) (N := some 36) (bA 24 1048575) ?_
    refine one_ (i := 20) (N := none) (bA 24 2097151) rfl rfl (one_of HT_.out (by kernel_rfl)) (by decide) (fun K hK => ?_)
    refine skip_ (w1 := ?_) (by rfl) rfl ?_ ?_
    rotate_left
    ·go_simp
     rfl
    refine hK.out _ _ ⟨(blk_cell (blk_far BK.out (fun e_ => hne.out (congrArg some (Eq.symm e_))) _) 0).trans rfl, (World.cell?_setCell_other _ _ _ _ (fun e_ => by have e2_ := congrArg Addr.off e_; simp at e2_)).trans hx535_1⟩ (fun hHeld => ?_)
    clear hK K
    refine pu_ (i := 21) (N := some 37) (bA 24 4194303) ?_
    refine pu_ (i := 22) (N := some 38) (bA 24 8388607) ?_
    refine last_ (i := 23) (N := none) (bA 24 16777215) rfl rfl (one_of HT_.out (by kernel_rfl)) (by decide) (fun K hK => ?_)
    refine skip_ (w1 := ?_) (by rfl) rfl ?_ ?_
    rotate_left
    ·go_simp
     rfl
    refine hK.out _ _ ?_
    clear hK K
    refine done_ (done_of HT_.out (by kernel_rfl)) ?_
    try go_wp2
    first | go_end0 | ((try simp only [Exit.inBlock, Exit.then]); refine bodyPost_ret (results_none rfl _ _ _) rfl ?_)
    exact ⟨by first | rfl | (simp [errW_none, errW_some] <;> rfl) | (simp only [← hji8, ← hji9]; first | rfl | (simp [errW_none, errW_some] <;> rfl)) | (simp [*, errW_none, errW_some] <;> rfl), (by repeat (first | exact BK.out | refine blk_far ?_ (fun e_ => hne.out (congrArg some (Eq.symm e_))) _)), qR HQ17.out, by repeat (first | (with_reducible first | exact HB.out | apply below_alloc | apply pw_below_drewN | apply below_drew1 | refine below_set ?_ GB7.out | refine below_set ?_ GB7.out) | exact HB.out), by repeat (first | (with_reducible first | exact HK.out | apply Kept.alloc | apply Kept.drewN | apply Kept.drew | refine Kept.setCell ?_ HMgo7.out _ | refine Kept.setCell ?_ HMgo7.out _) | exact HK.out)⟩
   ·rw [zD c6] at H
    have c6b0 := zG c6
    clear c6
    obtain ⟨ji18, hji18⟩ : ∃ j_ : Int, (mn ((rd_TSpan l2 a0).f0) a1) = j_ := ⟨_, rfl⟩
    replace H : ((some (l2.set (a0 : Int).toNat (⟨ji18, (rd_TSpan l2 a0).f1⟩ : SSpan) : List (SSpan))).bind fun y541 => (some (y541.set (a0 : Int).toNat (⟨(rd_TSpan y541 a0).f0, mx ((rd_TSpan l2 a0).f1) a1⟩ : SSpan)))) = some r := by first | (rw [hji18] at H; exact H) | (simp only [hji18] at H ⊢; exact H)
    have hji18_ : (if a1 < ((rd_TSpan l2 a0).f0) then a1 else ((rd_TSpan l2 a0).f0)) = ji18 := hji18
    obtain ⟨ji19, hji19⟩ : ∃ j_ : Int, (mx ((rd_TSpan l2 a0).f1) a1) = j_ := ⟨_, rfl⟩
    replace H : ((some (l2.set (a0 : Int).toNat (⟨ji18, (rd_TSpan l2 a0).f1⟩ : SSpan) : List (SSpan))).bind fun y541 => (some (y541.set (a0 : Int).toNat (⟨(rd_TSpan y541 a0).f0, ji19⟩ : SSpan)))) = some r := by first | (rw [hji19] at H; exact H) | (simp only [hji19] at H ⊢; exact H)
    have hji19_ : (if ((rd_TSpan l2 a0).f1) < a1 then a1 else ((rd_TSpan l2 a0).f1)) = ji19 := hji19
    obtain ⟨y541, hy541⟩ : ∃ y_ : List (SSpan), y_ = (l2.set (a0 : Int).toNat (⟨ji18, (rd_TSpan l2 a0).f1⟩ : SSpan)) := ⟨_, rfl⟩
    replace H : (some (y541.set (a0 : Int).toNat (⟨(rd_TSpan y541 a0).f0, ji19⟩ : SSpan))) = some r := by (try rw [hy541]); first | with_reducible exact H | exact (zJ _ _).symm.trans H | exact H
    have Ny541 := zA hy541
    clear hy541
    obtain ⟨y542, hy542⟩ : ∃ y_ : List (SSpan), y_ = (y541.set (a0 : Int).toNat (⟨(rd_TSpan y541 a0).f0, ji19⟩ : SSpan)) := ⟨_, rfl⟩
    replace H : (some y542) = some r := by (try rw [hy542]); first | with_reducible exact H | exact (zJ _ _).symm.trans H | exact H
    have Ny542 := zA hy542
    clear hy542
    obtain rfl := zI H
    obtain ⟨Ao22, co22, eo22⟩ := Kd.R_slice HO2.out
    subst eo22
    have p533 : 0 ≤ (a0 : Int) := zB qA
    have q533 : a0 < (l2.length : Int) := zB qA
    obtain ⟨ad533, e533, hx533_0, hx533_1⟩ := at_TSpan (Kd.R_reads' HO2.out).2.2 a0 p533 q533
    cases e533
    replace p533 := eq_true p533
    replace q533 := eq_true q533
    have hcb : w.cell? ⟨gb, 0, none⟩ = some (.slice (some ad533) l2.length co22) := (blk_cell BK.out 0).trans rfl
    go_enter Tryd.func41, Tryd.ntmps41
    try go_wp2
    replace BK := zA (blk_drew BK.out)
    replace hcb := (blk_cell BK.out 0).trans (rfl : _ = some (Value.slice (some ad533) l2.length co22))
    have n0_ := zA (Kd.R_drew HO2.out)
    have n1_ := zA (Kept.drew HK.out)
    have n2_ := zA (below_drew1 HB.out)
    clear HO2
    clear HK
    clear HB
    have HO2 := n0_
    have HK := n1_
    have HB := n2_
    clear n0_ n1_ n2_
    have p539 : 0 ≤ (a0 : Int) := zB qA
    have q539 : a0 < (l2.length : Int) := zB qA
    obtain ⟨ad539, e539, hx539_0, hx539_1⟩ := at_TSpan (Kd.R_reads' HO2.out).2.2 a0 p539 q539
    obtain rfl : ad533 = ad539 := (by injection e539)
    replace p539 := eq_true p539
    replace q539 := eq_true q539
    have p540 : 0 ≤ (a0 : Int) := zB qA
    have q540 : a0 < (l2.length : Int) := zB qA
    obtain ⟨ad540, e540, hx540_0, hx540_1⟩ := at_TSpan (Kd.R_reads' HO2.out).2.2 a0 p540 q540
    obtain rfl : ad533 = ad540 := (by injection e540)
    replace p540 := eq_true p540
    replace q540 := eq_true q540
    have p20 : 0 ≤ (a0 : Int) := zB qA
    have q20 : (a0 : Int) < ((l2.length : Int) : Int) := zB qA
    obtain ⟨go20, co20, eo20, gb20, gl20, cl20, HG20⟩ := Kd.R_form HO2.out (by omega)
    (first | cases eo20 | (injection eo20 with ea_ en_ ec_; (first | subst ea_ | (injection ea_ with ea_; subst ea_)); subst ec_; clear en_))
    have hne : Aside0 (some go20 ≠ some gb) := ⟨fun e_ => by obtain ⟨cells, hc_⟩ := Kd.R_typed HO2.out go20 rfl; exact blk_ne BK.out hc_ (by decide) (zI e_).symm⟩
    have GB20 := zA gb20
    have GG20 := zA HG20
    clear gb20 gl20 HG20
    have HMgo20 := zA (show (P2_ go20 ∨ w.heap.size ≤ go20) from (HO2.out.1 _ rfl))
    (first | simp only [add_plain] at hx533_0 | skip)
    (first | simp only [add_plain] at hx533_1 | skip)
    (first | simp only [add_plain] at hx539_0 | skip)
    (first | simp only [add_plain] at hx539_1 | skip)
    (first | simp only [add_plain] at hx540_0 | skip)
    (first | simp only [add_plain] at hx540_1 | skip)
    obtain ⟨ce20, hcl20, hM20, hcc20, hfr20⟩ := Kd.R_elem HO2.out zSpan (a0 : Int) p20 q20
    obtain rfl := kSpan_openM hM20
    have hx20_0 : World.cell? _ ⟨go20, (a0 : Int).toNat * 2, none⟩ = some (.int .i64 ((rd_TSpan l2 a0).f0)) := hcc20 0 _ rfl
    have hx20_1 : World.cell? _ ⟨go20, (a0 : Int).toNat * 2 + 1, none⟩ = some (.int .i64 ((rd_TSpan l2 a0).f1)) := hcc20 1 _ rfl
    have hf20_0 : World.frozen? _ ⟨go20, (a0 : Int).toNat * 2, none⟩ = false := hfr20 0
    have hf20_1 : World.frozen? _ ⟨go20, (a0 : Int).toNat * 2 + 1, none⟩ = false := hfr20 1
    clear hcl20 hcc20 hfr20 hM20
    replace p20 := eq_true p20
    replace q20 := eq_true q20
    obtain ⟨ce24, hcl24, hM24, hcc24, hfr24⟩ := Kd.R_elem HO2.out zSpan (a0 : Int) (zB qA) (by have h_ : (a0 : Int) < ((l2.length : Int) : Int) := zB qA; first | exact h_ | (have e_ := (Kd.R_reads' HO2.out).1; omega) | simpa using h_)
    obtain rfl := kSpan_openM hM24
    have HP24 := (Kd.R_seg HO2.out (a0 : Int) (zB qA) (by have h_ : (a0 : Int) < ((l2.length : Int) : Int) := zB qA; first | exact h_ | (have e_ := (Kd.R_reads' HO2.out).1; omega) | simpa using h_) (seg := [.int .i64 ji18]) (j := 0) hcl24 hcc24 (show 1 ≤ 2 from by decide) (x' := (⟨ji18, (rd_TSpan l2 a0).f1⟩ : SSpan)) (kSpan_mkM _ _ _ (⟨ji18, (rd_TSpan l2 a0).f1⟩ : SSpan) ) (fun _ hk => hk)).1
    rw [← Ny541.out] at HP24
    have HQ24 := zA HP24
    clear hcl24 hcc24 hfr24 hM24 HP24
    have p21 : 0 ≤ (a0 : Int) := zB qA
    have q21 : (a0 : Int) < ((l2.length : Int) : Int) := zB qA
    replace p21 := eq_true p21
    replace q21 := eq_true q21
    obtain ⟨ce25, hcl25, hM25, hcc25, hfr25⟩ := Kd.R_elem HQ24.out zSpan (a0 : Int) (zB qA) (by have h_ : (a0 : Int) < ((l2.length : Int) : Int) := zB qA; first | exact h_ | (have e_ := (Kd.R_reads' HO2.out).1; omega) | simpa using h_)
    obtain rfl := kSpan_openM hM25
    have HP25 := (Kd.R_seg HQ24.out (a0 : Int) (zB qA) (by have h_ : (a0 : Int) < ((l2.length : Int) : Int) := zB qA; first | exact h_ | (have e_ := (Kd.R_reads' HO2.out).1; omega) | simpa using h_) (seg := [.int .i64 ji19]) (j := 1) hcl25 hcc25 (show 2 ≤ 2 from by decide) (x' := (⟨(rd_TSpan y541 a0).f0, ji19⟩ : SSpan)) (kSpan_mkM _ _ _ (⟨(rd_TSpan y541 a0).f0, ji19⟩ : SSpan) ) (fun _ hk => hk)).1
    rw [← Ny542.out] at HP25
    have HQ25 := zA HP25
    clear hcl25 hcc25 hfr25 hM25 HP25
    refine start_ (n := 24) (S := fun w' => w'.cell? ⟨gb, 0, none⟩ = some (.slice (some ⟨go20, 0, none⟩) l2.length co22) ∧ w'.cell? ⟨go20, ((a0).toNat * 2) + 1, none⟩ = some (.int .i64 ((rd_TSpan l2 a0).f1))) (ds := [23]) (bA 24 0) (by kernel_rfl) rfl rfl ⟨hcb, hx539_1⟩ (fun hHeld => ?_); refine with_tabW span_Spans_1.tab2 span_Spans_1.bits2 (fun HT_ HW_ => ?_)
    generalize w.drew = w23 at HO2 HK HB GG20 HQ24 HQ25 hf20_0 hf20_1 hx20_0 hx20_1 hx533_0 hx533_1 hx539_0 hx539_1 hx540_0 hx540_1 BK hcb hHeld ⊢
    refine tk_ (i := 0) (N := some 17) (bA 24 1) ?_
    refine pu_ (i := 1) (N := some 18) (bA 24 3) ?_
    refine tk_ (i := 2) (N := some 19) (bA 24 7) ?_
    refine pu_ (i := 3) (N := some 20) (bA 24 15) ?_
    refine tk_ (i := 4) (N := some 21) (bA 24 31) ?_
    refine pu_ (i := 5) (N := some 22) (bA 24 63) ?_
    refine pu_ (i := 6) (N := some 23) (bA 24 127) ?_
    refine pu_ (i := 7) (N := some 24) (bA 24 255) ?_
    refine pu_ (i := 9) (N := some 26) (bA 24 767) ?_
    refine tk_ (i := 11) (N := some 28) (bA 24 2815) ?_
    refine pu_ (i := 12) (N := some 29) (bA 24 6911) ?_
    refine pu_ (i := 13) (N := some 30) (bA 24 15103) ?_
    refine pu_ (i := 14) (N := some 31) (bA 24 31487) ?_
    refine tk_ (i := 15) (N := some 32) (bA 24 64255) ?_
    refine pu_ (i := 16) (N := some 33) (bA 24 129791) ?_
    refine pu_ (i := 17) (N := some 34) (bA 24 260863) ?_
    refine one_ (i := 8) (N := some 25) (bA 24 261119) rfl rfl (one_of HT_.out (by kernel_rfl)) (by decide) (fun K hK => ?_)
    refine value_ (v := .int .i64 ((rd_TSpan l2 a0).f0)) (w1 := w23) rfl rfl (by first | (go_simp; done) | (go_simp; with_reducible rfl)) ?_
    refine hK.out _ _ hHeld (fun hHeld => ?_)
    clear hK K
    refine norm_ (a' := ?_) ?_ ?_
    rotate_left
    ·show Act.put _ (some 25) _ = _
     simp only [Act.put, List.setIfInBounds_toArray, List.set_cons_zero, List.set_cons_succ, i64_w, i32_w]
     rfl
    refine pu_ (i := 10) (N := some 27) (bA 24 262143) ?_
    refine pu_ (i := 18) (N := some 35) (bA 24 524287) ?_
    refine pu_ (i := 19) (N := some 36) (bA 24 1048575) ?_
    refine one_ (i := 20) (N := none) (bA 24 2097151) rfl rfl (one_of HT_.out (by kernel_rfl)) (by decide) (fun K hK => ?_)
    refine skip_ (w1 := ?_) (by rfl) rfl ?_ ?_
    rotate_left
    ·go_simp
     rfl
    refine hK.out _ _ ⟨(blk_cell (blk_far BK.out (fun e_ => hne.out (congrArg some (Eq.symm e_))) _) 0).trans rfl, (World.cell?_setCell_other _ _ _ _ (fun e_ => by have e2_ := congrArg Addr.off e_; simp at e2_)).trans hx539_1⟩ (fun hHeld => ?_)
    clear hK K
    refine pu_ (i := 21) (N := some 37) (bA 24 4194303) ?_
    refine pu_ (i := 22) (N := some 38) (bA 24 8388607) ?_
    refine last_ (i := 23) (N := none) (bA 24 16777215) rfl rfl (one_of HT_.out (by kernel_rfl)) (by decide) (fun K hK => ?_)
    refine skip_ (w1 := ?_) (by rfl) rfl ?_ ?_
    rotate_left
    ·go_simp
     rfl
    refine hK.out _ _ ?_
    clear hK K
    refine done_ (done_of HT_.out (by kernel_rfl)) ?_
    try go_wp2
    first | go_end0 | ((try simp only [Exit.inBlock, Exit.then]); refine bodyPost_ret (results_none rfl _ _ _) rfl ?_)
    exact ⟨by first | rfl | (simp [errW_none, errW_some] <;> rfl) | (simp only [← hji18, ← hji19]; first | rfl | (simp [errW_none, errW_some] <;> rfl)) | (simp [*, errW_none, errW_some] <;> rfl), (by repeat (first | exact BK.out | refine blk_far ?_ (fun e_ => hne.out (congrArg some (Eq.symm e_))) _)), qR HQ25.out, by repeat (first | (with_reducible first | exact HB.out | apply below_alloc | apply pw_below_drewN | apply below_drew1 | refine below_set ?_ GB20.out | refine below_set ?_ GB20.out) | exact HB.out), by repeat (first | (with_reducible first | exact HK.out | apply Kept.alloc | apply Kept.drewN | apply Kept.drew | refine Kept.setCell ?_ HMgo20.out _ | refine Kept.setCell ?_ HMgo20.out _) | exact HK.out)⟩
  ·rw [zD c5] at H
   exact absurd H (by simp)
 ·rw [zD c4] at H
  exact absurd H (by simp)
end Go.Proofs.YtpkimbkjjmbmcaaDoor.Q
namespace Go.Proofs.YtpkimbkjjmbmcaaDoor.Q
open Go.RowKit Go.Proofs.YtpkimbkjjmbmcaaDoorW.PrintWords Go.Proofs.YtpkimbkjjmbmcaaDoorW.PrintLast Go.Proofs.YtpkimbkjjmbmcaaDoorW.PrintMore
set_option linter.unusedVariables false
set_option linter.unusedSimpArgs false
structure SpSt (w0 w : World) (gb gt : Nat) (u : Value) (l : List SSpan) : Prop where
 bb : w.heap[gb]? = some (.cells #[u] 32 (0, 0))
 bt : w.heap[gt]? = some (.cells #[.func (.func 41) #[] #[.pointer (some ⟨gb, 0, none⟩)]] 74 (0, 0))
 hu : Kd.R kSpan 28 w w0.heap.size (fun _ => True) u l
 hB : Below w0.heap.size w0 w
theorem SpSt.below {w0 w w1 : World} {gb gt : Nat} {u : Value} {l : List SSpan} (hs : SpSt w0 w gb gt u l) (hb : Below w.heap.size w w1) : SpSt w0 w1 gb gt u l :=
 ⟨blk_below hs.bb hb, blk_below hs.bt hb, Kd.R_below hs.hu hb, below_step hs.hB hb⟩
theorem SpSt.net {w0 w : World} {gb gt : Nat} {u : Value} {l : List SSpan} (hs : SpSt w0 w gb gt u l) : ¬ some gt = u.ownBlock := fun e => ne_own hs.bt (Kd.R_typed hs.hu) (by decide) e.symm
theorem span_Spans_1.st {w0 w : World} {gb gt : Nat} {u : Value} {l : List SSpan} (a0 a1 : Int) (r : List SSpan) (h : span_Spans_1.f a0 a1 l = some r) (hs : SpSt w0 w gb gt u l) :
 Calls Tryd.prog 41 #[.int .i64 a0, .int .i64 a1, .pointer (some ⟨gb, 0, none⟩)] w fun e w' => e = .returned (.tuple #[]) ∧ SpSt w0 w' gb gt u r ∧ Kept w w' (fun k => some k = u.ownBlock) := by
 refine (span_Spans_1.calls a0 a1 (fun k => some k = u.ownBlock) u l r w0 w gb hs.hB hs.bb (Kd.R_tight rfl hs.hu) h).mono ?_
 rintro e w' ⟨rfl, hb', hu', hB', hk⟩
 exact ⟨rfl, ⟨hb', blk_kept hs.bt hk hs.net, Kd.R_mono hu' (fun _ _ => trivial), hB'⟩, hk⟩
def span_Spans_2.l0 : Nat → Int → List Int → Int → List SSpan → Option (List SSpan)
 | 0, _, _, _, _ => none
 | k + 1, n, l, j, o =>
  if j < (l.length : Int) then
   if 0 ≤ j then (span_Spans_1.f (rd l j) (wrap64 (2 * n)) o).bind fun b => span_Spans_2.l0 k n l (wrap64 (j + 1)) b
   else none
  else some o
def span_Spans_2.f (k : Nat) (n : Int) (l : List Int) (o : List SSpan) : Option (List SSpan) := span_Spans_2.l0 k n l 0 o
set_option maxHeartbeats 8000000 in
set_option maxRecDepth 100000 in
theorem span_Spans_2.st (k : Nat) (n : Int) (A : Option Addr) (c : Nat) (l : List Int) (o o' : List SSpan) (w0 w : World) (gb gt : Nat) (u : Value)
 (hl : Kd.F (Kd.int .i64) w (fun k => some k ≠ u.ownBlock) A l.length l) (h : span_Spans_2.f k n l o = some o') (hs : SpSt w0 w gb gt u o) :
 Calls Tryd.prog 42 #[.int .i64 n, .slice A l.length c, .pointer (some ⟨gt, 0, none⟩)] w fun e w' => e = .returned (.tuple #[]) ∧ SpSt w0 w' gb gt u o' ∧ Kept w w' (fun k => some k = u.ownBlock) := by
 have HL := zA hl
 have HS := zA hs
 have H' := zA (show span_Spans_2.l0 k n l 0 o = some o' from h)
 clear hl hs h
 go_enter Tryd.func42, Tryd.ntmps42
 go_wp2
 go_loopg [9] k (fun kq v9 w' => ∃ (j : Int) (o1 : List SSpan), v9 = .int .i64 j ∧ Aside0 (span_Spans_2.l0 kq n l j o1 = some o') ∧ Aside0 (kq ≤ k) ∧
  Aside0 (SpSt w0 w' gb gt u o1) ∧ Aside0 (Kd.F (Kd.int .i64) w' (fun k => some k ≠ u.ownBlock) A l.length l) ∧ Aside0 (Kept w w' (fun k => some k = u.ownBlock)))
 case atStart => exact ⟨0, o, by first | rfl | simp, H', ⟨Nat.le_refl _⟩, HS, HL, ⟨Kept.refl _ _⟩⟩
 case round =>
  clear H' HS HL
  obtain ⟨j, o1, rfl, HA, HK1, HS, HL, HK⟩ := hrel
  cases gk with
  | zero => exact absurd HA.out (by simp [span_Spans_2.l0])
  | succ k1 =>
   have H := HA.out
   clear HA
   simp only [span_Spans_2.l0] at H
   by_cases c3 : j < (l.length : Int)
   ·rw [zC c3] at H
    have c3b0 : decide (j < (l.length : Int)) = true := zF c3
    by_cases c4 : ¬ 0 ≤ j
    ·rw [zD c4] at H
     exact absurd H (by simp)
    replace c4 := Decidable.not_not.1 c4
    rw [zC c4] at H
    replace H := Option.bind_eq_some_iff.mp H
    obtain ⟨o2, ht, H⟩ := H
    have HT := zA ht
    have H' := zA H
    clear ht H
    obtain ⟨ad, ea, hx1⟩ := Kd.at_int (Kd.F_now HL.out) j c4 c3
    cases ea
    have ct : wr.cell? ⟨gt, 0, none⟩ = some _ := blk_cell HS.out.bt 0
    go_wp2_with fail
    refine (span_Spans_1.st (rd l j) (wrap64 (2 * n)) o2 HT.out HS.out).mono ?_
    rintro e w3 ⟨rfl, hs3, hk3⟩
    have HL3 := zA (Kd.F_kept HL.out hk3 (fun k hk => hk))
    have HK3 := zA (Kept.then_ HK.out hk3 (fun k hk => .inl hk))
    have HS3 := zA hs3
    clear hs3 hk3 HS HL HK ct hx1
    go_wp2_with fail
    go_roundg k1
    case measure => have := HK1.out; omega
    case rel => exact ⟨_, o2, by first | rfl | simp, H', ⟨by have := HK1.out; omega⟩, HS3, HL3, HK3⟩
   ·rw [zD c3] at H
    have c3b0 : decide (j < (l.length : Int)) = false := zG c3
    obtain rfl := zI H
    clear H
    go_wp2_with fail
    first | go_end0 | ((try simp only [Exit.inBlock, Exit.then]); refine bodyPost_ret (results_none rfl _ _ _) rfl ?_)
    exact ⟨rfl, HS.out, HK.out⟩
section
variable {P : Program} {ops : Array Oper} {Q : Exit → Act → World → Prop}
theorem runV_ {oi : Oper} {a : Act} {w : World} {f : FuncId} {fn : Func} {c : Operand} {xs : Array Operand} {ts : Array TypeId} (hf : P.funcs[f]? = some fn) (hname : (fn.name == "runtime.NumGoroutine") = false) (hb : fn.body.isSome = true) (caps args : Array Value)
 (hop : oi.op = .call { callee := .value c, args := xs, argTypes := ts }) (hc : a.eval c = .func (.func f) #[] caps) (hargs : xs.map a.eval ++ caps = args) :
 (execOp a.eval oi).run P w = .ok (.enter f args) w := by
 have he := enters_ hf hname hb args w
 unfold execOp
 simp [hop, resolve, Deferred.ofValue, invoke, hc, hargs, he]
theorem goesV_ {oi : Oper} {N : Option Tmp} {a : Act} {w : World} {K : Act → World → Prop} {f : FuncId} {fn : Func} {c : Operand} {xs : Array Operand} {ts : Array TypeId} (hf : P.funcs[f]? = some fn) (hname : (fn.name == "runtime.NumGoroutine") = false) (hb : fn.body.isSome = true) (caps args : Array Value)
 (hw : Region.wanted oi (yielded ops a.tmps) = true) (hN : oi.dst = N) (hop : oi.op = .call { callee := .value c, args := xs, argTypes := ts }) (hc : a.eval c = .func (.func f) #[] caps) (hargs : xs.map a.eval ++ caps = args)
 (h : Calls P f args w fun e w' => ∃ v, e = .returned v ∧ K (a.put N v) w') : if Region.wanted oi (yielded ops a.tmps) = true then Oper.wp P oi a w K Q else K (a.put N undef) w :=
 call_ f args hw hN (runV_ hf hname hb caps args hop hc hargs) h
theorem goesLV_ {rest : List Oper} {oi : Oper} {a : Act} {w : World} (N : Option Tmp) (hd : oi.dst = N) (hg : oi.guard = none) {f : FuncId} {fn : Func} {c : Operand} {xs : Array Operand} {ts : Array TypeId} (hf : P.funcs[f]? = some fn) (hname : (fn.name == "runtime.NumGoroutine") = false) (hb : fn.body.isSome = true) (caps args : Array Value)
 (hop : oi.op = .call { callee := .value c, args := xs, argTypes := ts }) (hc : a.eval c = .func (.func f) #[] caps) (hargs : xs.map a.eval ++ caps = args)
 (h : Calls P f args w fun e w' => ∃ v, e = .returned v ∧ wpList P ops Q rest (a.put N v) w') : wpList P ops Q (oi :: rest) a w := by
 refine wpList_plain hg fun K hK => ?_
 unfold Oper.wp
 rw [runV_ hf hname hb caps args hop hc hargs, Oper.upon_enter]
 refine h.mono fun e w'' hh => ?_
 obtain ⟨v, rfl, hk⟩ := hh
 subst hd
 exact hK _ _ hk
theorem qLV {P : Prop} (h : P := by (try simp only [List.map_toArray, List.map_cons, List.map_nil, List.append_toArray, List.cons_append, List.nil_append, Act.eval]); first | done | rfl) : P := h
end
structure SpSt3 (w0 w : World) (gb gt ga : Nat) (u : Value) (l : List SSpan) : Prop where
 st : SpSt w0 w gb gt u l
 ba : w.heap[ga]? = some (.cells #[.func (.func 42) #[] #[.pointer (some ⟨gt, 0, none⟩)]] 75 (0, 0))
theorem SpSt3.below {w0 w w1 : World} {gb gt ga : Nat} {u : Value} {l : List SSpan} (hs : SpSt3 w0 w gb gt ga u l) (hb : Below w.heap.size w w1) : SpSt3 w0 w1 gb gt ga u l :=
 ⟨hs.st.below hb, blk_below hs.ba hb⟩
theorem SpSt3.nea {w0 w : World} {gb gt ga : Nat} {u : Value} {l : List SSpan} (hs : SpSt3 w0 w gb gt ga u l) : ¬ some ga = u.ownBlock := fun e => ne_own hs.ba (Kd.R_typed hs.st.hu) (by decide) e.symm
theorem SpSt3.kept {w0 w w1 : World} {gb gt ga : Nat} {u : Value} {l l' : List SSpan} (hs : SpSt3 w0 w gb gt ga u l) (h1 : SpSt w0 w1 gb gt u l') (hk : Kept w w1 (fun k => some k = u.ownBlock)) : SpSt3 w0 w1 gb gt ga u l' :=
 ⟨h1, blk_kept hs.ba hk hs.nea⟩
def span_Spans_3.l0 : Nat → Int → Int → Int → Int → Int → ByteArray → List Int → List Int → Int → List SSpan → Option (List SSpan)
 | 0, _, _, _, _, _, _, _, _, _, _ => none
 | k + 1, n, x0, x1, x2, x3, x4, x5, l, j, o =>
  if j < (l.length : Int) then
   if 0 ≤ j then
    (span_Spans_1.f (rd l j) (wrap64 (wrap64 (2 * n) + 1)) o).bind fun o1 =>
    (ir_Def.f x0 x1 x2 x3 x4 x5).bind fun d =>
    if d = rd l j then span_Spans_3.l0 k n x0 x1 x2 x3 x4 x5 l (wrap64 (j + 1)) o1
    else (span_Spans_1.f (rd l j) (wrap64 (2 * n)) o1).bind fun o2 => span_Spans_3.l0 k n x0 x1 x2 x3 x4 x5 l (wrap64 (j + 1)) o2
   else none
  else (ir_Def.f x0 x1 x2 x3 x4 x5).bind fun d => if d ≥ 0 then span_Spans_1.f d (wrap64 (wrap64 (2 * n) + 1)) o else some o
def span_Spans_3.f (k : Nat) (n x0 x1 x2 x3 : Int) (x4 : ByteArray) (x5 l : List Int) (o : List SSpan) : Option (List SSpan) :=
 (ir_Uses.f k x0 x1 x2 x3 x4 x5).bind fun us => (span_Spans_2.f k n us o).bind fun o1 => span_Spans_3.l0 k n x0 x1 x2 x3 x4 x5 l 0 o1
def span_Spans_3.T1 : Bool × List (List Nat × List Nat) := (true, [([], []), ([], []), ([], []), ([2], [2]), ([0, 1, 3, 3], [0, 1, 3])])
def span_Spans_3.B1 : List Nat := [0, 0, 0, 4, 15]
theorem span_Spans_3.tab1 : rtab .any (opsOf Tryd.f44 1) = span_Spans_3.T1 := by kernel_rfl
theorem span_Spans_3.bits1 : waitsOk span_Spans_3.T1.2 span_Spans_3.B1 = true := by kernel_rfl
set_option maxHeartbeats 8000000 in
set_option maxRecDepth 100000 in
theorem span_Spans_3.st (k : Nat) (n x0 x1 x2 x3 : Int) (x4 : ByteArray) (A5 : Option Addr) (c5 : Nat) (x5 : List Int) (A : Option Addr) (c : Nat) (l : List Int) (o o' : List SSpan) (w0 w : World) (gb gt ga : Nat) (u : Value) (hL : LaidW w0)
 (h5 : Kd.F (Kd.int .i64) w (fun k => some k ≠ u.ownBlock) A5 x5.length x5) (h5c : x5.length ≤ c5)
 (hl : Kd.F (Kd.int .i64) w (fun k => some k ≠ u.ownBlock) A l.length l) (h : span_Spans_3.f k n x0 x1 x2 x3 x4 x5 l o = some o') (hs : SpSt3 w0 w gb gt ga u o) :
 Calls Tryd.prog 44 #[.int .i64 n, .agg #[.int .i64 x0, .int .i64 x1, .int .i64 x2, .int .i64 x3, .string x4, .slice A5 x5.length c5], .slice A l.length c, .pointer (some ⟨ga, 0, none⟩), .pointer (some ⟨gt, 0, none⟩)] w
  fun e w' => e = .returned (.tuple #[]) ∧ SpSt3 w0 w' gb gt ga u o' ∧ Kept w w' (fun k => some k = u.ownBlock) := by
 have HL := zA hl
 have H5 := zA h5
 have HC5 := zA h5c
 have HS := zA hs
 have HLd := zA hL
 have HK := zA (Kept.refl w (fun k => some k = u.ownBlock))
 have H := h
 clear hl hs h h5 h5c hL
 unfold span_Spans_3.f at H
 replace H := qb H; obtain ⟨us, A1, H⟩ := H
 replace H := qb H; obtain ⟨o1, A2, H⟩ := H
 have H' := zA H
 clear H
 have hu38 := Tryd.underlying38
 go_enter Tryd.func44, Tryd.ntmps44
 try go_wp2_with (first | ((with_reducible refine gate_dst (N := 6) rfl ?_); refine box_event (by rfl) (N := 6) (by rfl) (cs := #[.int .i64 x0, .int .i64 x1, .int .i64 x2, .int .i64 x3, .string x4, .slice A5 x5.length c5]) (t := 38) ?hr ?_; (case hr => go_simp <;> rfl); intro gx hg w1 hbox hb; have BX := zA hbox; replace HS := zA (HS.out.below hb); replace HL := zA (Kd.F_below HL.out hb); replace H5 := zA (Kd.F_below H5.out hb); replace HK := zA (Kept.below HK.out hb); clear hb hbox hg))
 have z1 := bk6 BX.out
 have n0_ := zA (blk_drew BX.out)
 have n1_ := zA (HS.out.below (below_drew (Below.refl _ _)))
 have n2_ := zA (Kd.F_drew HL.out)
 have n3_ := zA (Kd.F_drew H5.out)
 have n4_ := zA (Kept.drew HK.out)
 clear z1 BX HS HL H5 HK
 refine start_ (n := 5) (S := fun w' => w'.cell? ⟨ga, 0, none⟩ = some (.func (.func 42) #[] #[.pointer (some ⟨gt, 0, none⟩)]) ∧ w'.cell? ⟨gx, 0, none⟩ = some (.int .i64 x0) ∧ w'.cell? ⟨gx, 1, none⟩ = some (.int .i64 x1) ∧ w'.cell? ⟨gx, 2, none⟩ = some (.int .i64 x2) ∧ w'.cell? ⟨gx, 3, none⟩ = some (.int .i64 x3) ∧ w'.cell? ⟨gx, 4, none⟩ = some (.string x4) ∧ w'.cell? ⟨gx, 5, none⟩ = some (.slice A5 x5.length c5)) (ds := []) (bA 5 0) (by kernel_rfl) rfl rfl ⟨(blk_cell n1_.out.ba 0).trans rfl, (blk_cell n0_.out 0).trans rfl, (blk_cell n0_.out 1).trans rfl, (blk_cell n0_.out 2).trans rfl, (blk_cell n0_.out 3).trans rfl, (blk_cell n0_.out 4).trans rfl, (blk_cell n0_.out 5).trans rfl⟩ (fun hHeld => ?_); refine with_tabW span_Spans_3.tab1 span_Spans_3.bits1 (fun HT_ HW_ => ?_)
 generalize w1.drew = w2 at n0_ n1_ n2_ n3_ n4_ hHeld ⊢
 refine pu_ (i := 1) (N := some 12) (bA 5 2) ?_
 refine tk_ (i := 0) (N := some 11) (bA 5 3) ?_
 refine tk_ (i := 2) (N := some 13) (bA 5 7) ?_
 refine one_ (i := 3) (N := some 14) (bA 5 15) rfl rfl (one_of HT_.out (by kernel_rfl)) (by decide) (fun K hK => ?_)
 refine goes_ Tryd.func45 (by kernel_rfl) rfl #[.agg #[.int .i64 x0, .int .i64 x1, .int .i64 x2, .int .i64 x3, .string x4, .slice A5 x5.length c5]] (by rfl) rfl rfl qL ?_
 with_reducible refine (ir_Uses.calls k x0 x1 x2 x3 x4 _ _ x5 us _ ?side1 ?side2 A1.out (hL := ?side99)).mono ?_
 (case side1 => exact Kd.F_now n3_.out)
 (case side2 => exact HC5.out)
 (case side99 => exact LaidW.below HLd.out n1_.out.st.hB)
 rintro e w3 ⟨v0, rfl, ho, hb⟩
 refine ⟨_, rfl, ?_⟩
 obtain ⟨Au, cu, eu⟩ := Kd.R_slice ho
 subst eu
 have HU := zA (Kd.F_mono (Kd.R_F (Kd.R_bound ho)) (fun q hq => fun e_ => by have := Kd.R_lt n1_.out.st.hu q e_.symm; omega : ∀ q, _ → some q ≠ u.ownBlock))
 have BX := zA (blk_below n0_.out hb)
 have HS := zA (n1_.out.below hb)
 have HL := zA (Kd.F_below n2_.out hb)
 have H5 := zA (Kd.F_below n3_.out hb)
 have HK := zA (Kept.below n4_.out hb)
 clear n0_ n1_ n2_ n3_ n4_ hHeld ho hb
 refine hK.out _ _ ⟨(blk_cell HS.out.ba 0).trans rfl, (blk_cell BX.out 0).trans rfl, (blk_cell BX.out 1).trans rfl, (blk_cell BX.out 2).trans rfl, (blk_cell BX.out 3).trans rfl, (blk_cell BX.out 4).trans rfl, (blk_cell BX.out 5).trans rfl⟩ (fun hHeld => ?_)
 clear hK K
 refine norm_ (a' := ?_) ?_ ?_
 rotate_left
 ·show Act.put _ (some 14) _ = _
  simp only [Act.put, List.setIfInBounds_toArray, List.set_cons_zero, List.set_cons_succ, i64_w, i32_w]
  rfl
 refine one_ (i := 4) (N := some 15) (bA 5 31) rfl rfl (one_of HT_.out (by kernel_rfl)) (by decide) (fun K hK => ?_)
 refine goesV_ Tryd.func42 (by kernel_rfl) rfl #[.pointer (some ⟨gt, 0, none⟩)] #[.int .i64 n, .slice Au us.length cu, .pointer (some ⟨gt, 0, none⟩)] (by rfl) rfl rfl (by rfl) qLV ?_
 refine (span_Spans_2.st k n Au cu us o o1 w0 w3 gb gt u HU.out A2.out HS.out.st).mono ?_
 rintro e w4 ⟨rfl, hs4, hk4⟩
 refine ⟨_, rfl, ?_⟩
 have nx : ¬ some gx = u.ownBlock := fun e => ne_own BX.out (Kd.R_typed HS.out.st.hu) (by decide) e.symm
 replace BX := zA (blk_kept BX.out hk4 nx)
 replace HS := zA (HS.out.kept hs4 hk4)
 replace HL := zA (Kd.F_kept HL.out hk4 (fun k hk => hk))
 replace H5 := zA (Kd.F_kept H5.out hk4 (fun k hk => hk))
 replace HK := zA (Kept.then_ HK.out hk4 (fun k hk => .inl hk))
 clear hs4 hk4 HU hHeld A1 A2
 refine hK.out _ _ ⟨(blk_cell HS.out.ba 0).trans rfl, (blk_cell BX.out 0).trans rfl, (blk_cell BX.out 1).trans rfl, (blk_cell BX.out 2).trans rfl, (blk_cell BX.out 3).trans rfl, (blk_cell BX.out 4).trans rfl, (blk_cell BX.out 5).trans rfl⟩ (fun hHeld => ?_)
 clear hK K hHeld
 refine norm_ (a' := ?_) ?_ ?_
 rotate_left
 ·show Act.put _ (some 15) _ = _
  simp only [Act.put, List.setIfInBounds_toArray, List.set_cons_zero, List.set_cons_succ, i64_w, i32_w]
  rfl
 refine done_ (done_of HT_.out (by kernel_rfl)) ?_
 go_wp2
 go_loopg [18] k (fun kq v18 w' => ∃ (j : Int) (o2 : List SSpan), v18 = .int .i64 j ∧ Aside0 (span_Spans_3.l0 kq n x0 x1 x2 x3 x4 x5 l j o2 = some o') ∧ Aside0 (kq ≤ k) ∧
  Aside0 (SpSt3 w0 w' gb gt ga u o2) ∧ Aside0 (Kd.F (Kd.int .i64) w' (fun k => some k ≠ u.ownBlock) A l.length l) ∧ Aside0 (Kd.F (Kd.int .i64) w' (fun k => some k ≠ u.ownBlock) A5 x5.length x5) ∧
  Aside0 (w'.heap[gx]? = some (.cells #[.int .i64 x0, .int .i64 x1, .int .i64 x2, .int .i64 x3, .string x4, .slice A5 x5.length c5] 38 (0, 0))) ∧ Aside0 (Kept w w' (fun k => some k = u.ownBlock)))
 case atStart => exact ⟨0, o1, by first | rfl | simp, H', ⟨Nat.le_refl _⟩, HS, HL, H5, BX, HK⟩
 case round =>
  clear H' HS HL H5 BX HK
  obtain ⟨j, o2, rfl, HA, HK1, HS, HL, H5, BX, HK⟩ := hrel
  cases gk with
  | zero => exact absurd HA.out (by simp [span_Spans_3.l0])
  | succ k1 =>
   have H := HA.out
   clear HA
   simp only [span_Spans_3.l0] at H
   by_cases c3 : j < (l.length : Int)
   ·rw [zC c3] at H
    have c3b0 : decide (j < (l.length : Int)) = true := zF c3
    by_cases c4 : ¬ 0 ≤ j
    ·rw [zD c4] at H
     exact absurd H (by simp)
    replace c4 := Decidable.not_not.1 c4
    rw [zC c4] at H
    replace H := qb H; obtain ⟨o3, A3, H⟩ := H
    replace H := qb H; obtain ⟨d, A4, H⟩ := H
    obtain ⟨ad, ea, hx1⟩ := Kd.at_int (Kd.F_now HL.out) j c4 c3
    cases ea
    have ct : wr.cell? ⟨gt, 0, none⟩ = some _ := blk_cell HS.out.st.bt 0
    go_wp2_with fail
    refine (span_Spans_1.st (rd l j) (wrap64 (wrap64 (2 * n) + 1)) o3 A3.out HS.out.st).mono ?_
    rintro e w5 ⟨rfl, hs_, hk_⟩
    have nx_ : ¬ some gx = u.ownBlock := fun e => ne_own BX.out (Kd.R_typed HS.out.st.hu) (by decide) e.symm
    replace BX := zA (blk_kept BX.out hk_ nx_)
    replace HS := zA (HS.out.kept hs_ hk_)
    replace HL := zA (Kd.F_kept HL.out hk_ (fun k hk => hk))
    replace H5 := zA (Kd.F_kept H5.out hk_ (fun k hk => hk))
    replace HK := zA (Kept.then_ HK.out hk_ (fun k hk => .inl hk))
    clear hs_ hk_ nx_
    clear ct hx1 A3
    have z_ := bk6 BX.out
    by_cases q5 : d = rd l j
    ·rw [zC q5] at H
     have H' := zA H
     clear H
     obtain ⟨c5b0, c5b1⟩ := qe q5
     go_wp2_with ((with_reducible refine gate_callee (f := 46) rfl ?_); refine goesL_ (some 29) rfl rfl Tryd.func46 (by kernel_rfl) rfl #[.agg #[.int .i64 x0, .int .i64 x1, .int .i64 x2, .int .i64 x3, .string x4, .slice A5 x5.length c5]] rfl qL ?_; (with_reducible refine (ir_Def.calls x0 x1 x2 x3 x4 _ _ x5 d _ ?side1 ?side2 A4.out (hL := ?side99)).mono ?_); (case side1 => exact Kd.F_now H5.out); (case side2 => exact HC5.out); (case side99 => exact LaidW.below HLd.out HS.out.st.hB); rintro e w6 ⟨rfl, hb⟩; refine ⟨_, rfl, ?_⟩; replace HS := zA (HS.out.below hb); replace HL := zA (Kd.F_below HL.out hb); replace H5 := zA (Kd.F_below H5.out hb); replace HK := zA (Kept.below HK.out hb); replace BX := zA (blk_below BX.out hb); clear hb)
     go_roundg k1
     case measure => have := HK1.out; omega
     case rel => exact ⟨_, o3, by first | rfl | simp, H', ⟨by have := HK1.out; omega⟩, HS, HL, H5, BX, HK⟩
    ·rw [zD q5] at H
     replace H := qb H; obtain ⟨o4, A5_, H⟩ := H
     have H' := zA H
     clear H
     obtain ⟨c5b0, c5b1⟩ := qn q5
     go_wp2_with ((with_reducible refine gate_callee (f := 46) rfl ?_); refine goesL_ (some 29) rfl rfl Tryd.func46 (by kernel_rfl) rfl #[.agg #[.int .i64 x0, .int .i64 x1, .int .i64 x2, .int .i64 x3, .string x4, .slice A5 x5.length c5]] rfl qL ?_; (with_reducible refine (ir_Def.calls x0 x1 x2 x3 x4 _ _ x5 d _ ?side1 ?side2 A4.out (hL := ?side99)).mono ?_); (case side1 => exact Kd.F_now H5.out); (case side2 => exact HC5.out); (case side99 => exact LaidW.below HLd.out HS.out.st.hB); rintro e w6 ⟨rfl, hb⟩; refine ⟨_, rfl, ?_⟩; replace HS := zA (HS.out.below hb); replace HL := zA (Kd.F_below HL.out hb); replace H5 := zA (Kd.F_below H5.out hb); replace HK := zA (Kept.below HK.out hb); replace BX := zA (blk_below BX.out hb); clear hb; have ct := blk_cell HS.out.st.bt 0)
     refine (span_Spans_1.st (rd l j) (wrap64 (2 * n)) o4 A5_.out HS.out.st).mono ?_
     rintro e w7 ⟨rfl, hs_, hk_⟩
     have nx_ : ¬ some gx = u.ownBlock := fun e => ne_own BX.out (Kd.R_typed HS.out.st.hu) (by decide) e.symm
     replace BX := zA (blk_kept BX.out hk_ nx_)
     replace HS := zA (HS.out.kept hs_ hk_)
     replace HL := zA (Kd.F_kept HL.out hk_ (fun k hk => hk))
     replace H5 := zA (Kd.F_kept H5.out hk_ (fun k hk => hk))
     replace HK := zA (Kept.then_ HK.out hk_ (fun k hk => .inl hk))
     clear hs_ hk_ nx_
     go_wp2_with fail
     go_roundg k1
     case measure => have := HK1.out; omega
     case rel => exact ⟨_, o4, by first | rfl | simp, H', ⟨by have := HK1.out; omega⟩, HS, HL, H5, BX, HK⟩
   ·rw [zD c3] at H
    have c3b0 : decide (j < (l.length : Int)) = false := zG c3
    replace H := qb H; obtain ⟨d, A4, H⟩ := H
    have z_ := bk6 BX.out
    by_cases q6 : d ≥ 0
    ·rw [zC q6] at H
     have A6 := zA H
     clear H
     have c6b := zF q6
     go_wp2_with ((with_reducible refine gate_callee (f := 46) rfl ?_); refine goesL_ (some 39) rfl rfl Tryd.func46 (by kernel_rfl) rfl #[.agg #[.int .i64 x0, .int .i64 x1, .int .i64 x2, .int .i64 x3, .string x4, .slice A5 x5.length c5]] rfl qL ?_; (with_reducible refine (ir_Def.calls x0 x1 x2 x3 x4 _ _ x5 d _ ?side1 ?side2 A4.out (hL := ?side99)).mono ?_); (case side1 => exact Kd.F_now H5.out); (case side2 => exact HC5.out); (case side99 => exact LaidW.below HLd.out HS.out.st.hB); rintro e w6 ⟨rfl, hb⟩; refine ⟨_, rfl, ?_⟩; replace HS := zA (HS.out.below hb); replace HL := zA (Kd.F_below HL.out hb); replace H5 := zA (Kd.F_below H5.out hb); replace HK := zA (Kept.below HK.out hb); replace BX := zA (blk_below BX.out hb); clear hb; have ct := blk_cell HS.out.st.bt 0)
     refine (span_Spans_1.st d (wrap64 (wrap64 (2 * n) + 1)) o' A6.out HS.out.st).mono ?_
     rintro e w7 ⟨rfl, hs_, hk_⟩
     have nx_ : ¬ some gx = u.ownBlock := fun e => ne_own BX.out (Kd.R_typed HS.out.st.hu) (by decide) e.symm
     replace BX := zA (blk_kept BX.out hk_ nx_)
     replace HS := zA (HS.out.kept hs_ hk_)
     replace HL := zA (Kd.F_kept HL.out hk_ (fun k hk => hk))
     replace H5 := zA (Kd.F_kept H5.out hk_ (fun k hk => hk))
     replace HK := zA (Kept.then_ HK.out hk_ (fun k hk => .inl hk))
     clear hs_ hk_ nx_
     go_wp2_with fail
     first | go_end0 | ((try simp only [Exit.inBlock, Exit.then]); refine bodyPost_ret (results_none rfl _ _ _) rfl ?_)
     exact ⟨rfl, HS.out, HK.out⟩
    ·rw [zD q6] at H
     obtain rfl := zI H
     clear H
     have c6b := zG q6
     go_wp2_with ((with_reducible refine gate_callee (f := 46) rfl ?_); refine goesL_ (some 39) rfl rfl Tryd.func46 (by kernel_rfl) rfl #[.agg #[.int .i64 x0, .int .i64 x1, .int .i64 x2, .int .i64 x3, .string x4, .slice A5 x5.length c5]] rfl qL ?_; (with_reducible refine (ir_Def.calls x0 x1 x2 x3 x4 _ _ x5 d _ ?side1 ?side2 A4.out (hL := ?side99)).mono ?_); (case side1 => exact Kd.F_now H5.out); (case side2 => exact HC5.out); (case side99 => exact LaidW.below HLd.out HS.out.st.hB); rintro e w6 ⟨rfl, hb⟩; refine ⟨_, rfl, ?_⟩; replace HS := zA (HS.out.below hb); replace HL := zA (Kd.F_below HL.out hb); replace H5 := zA (Kd.F_below H5.out hb); replace HK := zA (Kept.below HK.out hb); replace BX := zA (blk_below BX.out hb); clear hb)
     first | go_end0 | ((try simp only [Exit.inBlock, Exit.then]); refine bodyPost_ret (results_none rfl _ _ _) rfl ?_)
     exact ⟨rfl, HS.out, HK.out⟩
end Go.Proofs.YtpkimbkjjmbmcaaDoor.Q
namespace Go.Proofs.YtpkimbkjjmbmcaaDoor.Q
open Go.RowKit Go.Proofs.YtpkimbkjjmbmcaaDoorW.PrintWords Go.Proofs.YtpkimbkjjmbmcaaDoorW.PrintLast Go.Proofs.YtpkimbkjjmbmcaaDoorW.PrintMore
attribute [local go_sem] max2_int min2_int max_two min_two max_three min_three max_four min_four
set_option linter.unusedVariables false
set_option linter.unusedSimpArgs false

def live_set_list.l0 : Nat → Int → List Int → Option (List Int)
 | 0, _, _ => none
 | k + 1, x0, x3 => if x0 = 0 then (some x3) else ((bits_TrailingZeros64.f x0).bind fun t383 => (if x3.length < 17592186044416 then (live_set_list.l0 k (Go.bits .and .u64 x0 (IntKind.u64.wrap (x0 - 1))) (x3 ++ [t383])) else (none)))
def live_set_list.f (k : Nat) (a0 : Int) : Option (List Int) := live_set_list.l0 k a0 ([] : List Int)
set_option maxHeartbeats 8000000 in
set_option maxRecDepth 100000 in
theorem live_set_list.calls (k : Nat) (a0 : Int) (r : List Int) (w : World) (hL : LaidW w) (h : live_set_list.f k a0 = some r) :
 Calls Tryd.prog 122 #[.int .u64 a0] w fun e w' => ∃ v0_ : Value, e = .returned (v0_) ∧ Kd.R (Kd.int .i64) 3 w' w.heap.size (fun _ => True) v0_ r ∧ Below w.heap.size w w' := by
 have HB := zA (Below.refl w.heap.size w)
 have HLd := zA hL
 clear hL
 have H := h; clear h; unfold live_set_list.f at H
 have H' := zA H
 clear H
 go_enter Tryd.func122, Tryd.ntmps122
 go_wp2
 go_loopg [0, 3] k (fun kq v0 v3 w' => ∃ (x0_1 : Int) (x3_1 : List Int), v0 = .int .u64 x0_1 ∧ Aside0 (live_set_list.l0 kq x0_1 x3_1 = some r) ∧ Aside0 (kq ≤ k) ∧ Aside0 (Kd.R (Kd.int .i64) 3 w' w.heap.size (fun _ => True) v3 x3_1) ∧ Aside0 (Below w.heap.size w w'))
 case atStart => exact ⟨(a0), (([] : List Int)), qT, H', ⟨Nat.le_refl _⟩, ⟨by first | exact Kd.R_nil _ _ _ _ _ | exact Kd.N_nil _ _ _ _ _ | exact Kd.V_nil _ _ _ _ _ | exact Kd.Q_nil _ _ _ _ _ | exact Kd.S_nil _ _ _ _ _⟩, ⟨qB⟩⟩
 case round =>
  clear H'
  obtain ⟨x0_1, x3_1, rfl, HA, HK1, HO_3, HB⟩ := hrel
  cases gk with
  | zero => exact absurd HA.out (by simp [live_set_list.l0])
  | succ k1 =>
   have H := HA.out
   clear HA
   simp only [live_set_list.l0] at H
   by_cases c2 : x0_1 = 0
   ·rw [zC c2] at H
    obtain ⟨c2b0, c2b1⟩ := qe c2; clear c2
    obtain rfl := zI H
    go_wp2
    go_ret
    exact ⟨_, qE, qR HO_3.out, qB⟩
   ·rw [zD c2] at H
    obtain ⟨c2b0, c2b1⟩ := qn c2
    replace H := qb H; obtain ⟨t383, A3, H⟩ := H
    by_cases c4 : x3_1.length < 17592186044416
    ·rw [zC c4] at H
     have LMc4 := zA c4
     clear c4
     obtain ⟨y384, hy384⟩ : ∃ y_ : List Int, y_ = (x3_1 ++ [t383]) := ⟨_, rfl⟩
     replace H : (live_set_list.l0 k1 (Go.bits .and .u64 x0_1 (IntKind.u64.wrap (x0_1 - 1))) y384) = some r := by (try rw [hy384]); first | with_reducible exact H | exact (zJ _ _).symm.trans H | exact H
     have Ny384 := zA hy384
     clear hy384
     have H' := zA H
     clear H
     go_wp2_with (first | ((with_reducible refine gate_callee (f := 157) rfl ?_); refine goesL_ (some 12) rfl rfl Tryd.func157 (by kernel_rfl) rfl #[.int .u64 x0_1] rfl qL ?_; (with_reducible refine (bits_TrailingZeros64.calls x0_1 t383 _ A3.out (hL := ?side99)).mono ?_); (case side99 => exact LaidW.below HLd.out qB); rintro e w' ⟨rfl, ⟨nd, rfl⟩⟩; refine ⟨_, rfl, ?_⟩) | ((with_reducible refine gate_builtin (b := .append) (xs := #[.tmp 10, .tmp 13]) rfl ?_); at_builtin; refine Kd.R_append (Kd.int .i64) (w0 := w) w.heap.size rfl (.tmp 10) (.tmp 13) 35 3 (.int .i64 0) 8 rfl Tryd.underlying35 info3 rfl (by decide) (by omega) u3 x3_1 t383 [.int .i64 t383] (fun _ => True) (fun _ => False) rfl rfl ?aP (fun _ hk => hk.elim) ?aF ?aO ?aB ?aS ?aL ?_; (case aP => exact rfl); (case aB => exact qB); (case aF => exact (fun _ _ => trivial)); (case aO => exact (qR HO_3.out)); (case aS => exact (below_size qB)); (case aL => have := LMc4.out; omega); intro v385 w5 ho hb hg hat; rw [← Ny384.out] at ho; replace HB := zA (hb); have HO386 := zA (ho); clear HO_3; clear ho hb hg hat))
     go_roundg k1
     case measure => have := HK1.out; omega
     case rel => exact ⟨(Go.bits .and .u64 x0_1 (IntKind.u64.wrap (x0_1 - 1))), (y384), qT, H', ⟨by have := HK1.out; omega⟩, ⟨qR HO386.out⟩, ⟨qB⟩⟩
    ·rw [zD c4] at H
     exact absurd H (by simp)

def live_In.l0 : Nat → List (List Int) → List Int → Int → Int → Option ((List (List Int)))
 | 0, _, _, _, _ => none
 | k + 1, x3, x10, x11, x12 => if x12 < x11 then (if 0 ≤ x12 then (if x12 < (x10.length : Int) then ((live_set_list.f k (rd x10 x12)).bind fun t393 => (if x3.length < 5864062014805 then (live_In.l0 k (x3 ++ [t393]) x10 x11 (wrap64 (x12 + 1))) else (none))) else (none)) else (none)) else (some x3)
def live_In.f (k : Nat) (a0_0 : ByteArray) (a0_1 : Int) (a0_2 : Int) (l0_3 : List (List (SIns))) : Option ((List (List Int))) := (ir_Check.f k a0_0 a0_1 a0_2 l0_3).bind fun t388 => (if t388 = 0 then ((live_sets.f k a0_0 a0_1 a0_2 l0_3).bind fun t389 => (live_In.l0 k ([] : List (List Int)) t389 (t389.length : Int) 0)) else (some ([] : List (List Int))))
set_option maxHeartbeats 8000000 in
set_option maxRecDepth 100000 in
theorem live_In.calls (k : Nat) (a0_0 : ByteArray) (a0_1 : Int) (a0_2 : Int) (A0_3 : Option Addr) (c0_3 : Nat) (l0_3 : List (List (SIns))) (r : List (List Int)) (w : World) (hL : LaidW w) (hr0_3 : Kd.C (Kd.slice 38 kIns) w A0_3 l0_3.length l0_3) (hc0_3 : l0_3.length ≤ c0_3) (h : live_In.f k a0_0 a0_1 a0_2 l0_3 = some r) :
 Calls Tryd.prog 83 #[.agg #[.string a0_0, .int .i64 a0_1, .int .i64 a0_2, .slice A0_3 l0_3.length c0_3]] w fun e w' => ∃ v0_ : Value, e = .returned (v0_) ∧ Kd.S (Kd.slice 3 (Kd.int .i64)) 35 w' w.heap.size (fun _ => True) v0_ r ∧ Below w.heap.size w w' := by
 have hu24 := Tryd.underlying24
 have HR0_3 := zA hr0_3
 have HC0_3 := zA hc0_3
 clear hr0_3 hc0_3
 have HB := zA (Below.refl w.heap.size w)
 have HLd := zA hL
 clear hL
 have H := h; clear h; unfold live_In.f at H
 replace H := qb H; obtain ⟨t388, A2, H⟩ := H
 by_cases c3 : t388 = 0
 ·rw [zC c3] at H
  obtain ⟨c3b0, c3b1⟩ := qe c3; clear c3
  replace H := qb H; obtain ⟨t389, A4, H⟩ := H
  have H' := zA H
  clear H
  go_enter Tryd.func83, Tryd.ntmps83
  go_wp2_with (first | ((with_reducible refine gate_dst (N := 1) rfl ?_); refine box_event (by rfl) (N := 1) (by rfl) (cs := #[.string a0_0, .int .i64 a0_1, .int .i64 a0_2, .slice A0_3 l0_3.length c0_3]) (t := 24) ?hr ?_; (case hr => go_simp <;> rfl); intro gb387 hg w5 hbox hb; have BK387 := zA (hbox); have GW387 := qG hg; have GE387 := GW387; replace HB := qH hb; clear hb hbox hg; have z6_0 := bk4 BK387.out) | ((with_reducible refine gate_callee (f := 78) rfl ?_); refine goesL_ (some 7) rfl rfl Tryd.func78 (by kernel_rfl) rfl #[.agg #[.string a0_0, .int .i64 a0_1, .int .i64 a0_2, .slice A0_3 l0_3.length c0_3]] rfl qL ?_; (with_reducible refine (ir_Check.calls k a0_0 a0_1 a0_2 _ _ l0_3 t388 _ ?side1 ?side2 A2.out (hL := ?side99)).mono ?_); (case side1 => exact qCB HR0_3.out); (case side2 => exact HC0_3.out); (case side99 => exact LaidW.below HLd.out qB); rintro e w7 ⟨rfl, hb⟩; refine ⟨_, rfl, ?_⟩; replace BK387 := qW BK387 hb; replace HB := qH hb; (try clear hb); have z8_0 := bk4 BK387.out) | ((with_reducible refine gate_callee (f := 79) rfl ?_); refine goesL_ (some 10) rfl rfl Tryd.func79 (by kernel_rfl) rfl #[.agg #[.string a0_0, .int .i64 a0_1, .int .i64 a0_2, .slice A0_3 l0_3.length c0_3]] rfl qL ?_; (with_reducible refine (live_sets.calls k a0_0 a0_1 a0_2 _ _ l0_3 t389 _ ?side1 ?side2 A4.out (hL := ?side99)).mono ?_); (case side1 => exact qCB HR0_3.out); (case side2 => exact HC0_3.out); (case side99 => exact LaidW.below HLd.out qB); rintro e w9 ⟨v390, rfl, ho0, hb⟩; refine ⟨_, rfl, ?_⟩; have HO391 := zA (Kd.R_lower ho0 (below_size qB)); replace BK387 := qW BK387 hb; replace HB := qH hb; (try clear hb); (try clear ho0); obtain ⟨Ao10, co10, eo10⟩ := Kd.R_slice HO391.out; subst eo10))
  go_loopg [3, 12] k (fun kq v3 v12 w' => ∃ (x3_1 : List (List Int)) (x12_1 : Int), v12 = .int .i64 x12_1 ∧ Aside0 (live_In.l0 kq x3_1 t389 (t389.length : Int) x12_1 = some r) ∧ Aside0 (kq ≤ k) ∧ Aside0 (Kd.S (Kd.slice 3 (Kd.int .i64)) 35 w' w.heap.size (fun _ => True) v3 x3_1) ∧ Aside0 (Kd.R (Kd.int .u64) 121 w' w.heap.size (fun _ => True) (.slice Ao10 t389.length co10) t389) ∧ Aside0 (w'.heap[gb387]? = some (.cells #[.string a0_0, .int .i64 a0_1, .int .i64 a0_2, (.slice A0_3 l0_3.length c0_3)] 24 (0, 0))) ∧ Aside0 (Below w.heap.size w w'))
  case atStart => exact ⟨(([] : List (List Int))), (0), qT, H', ⟨Nat.le_refl _⟩, ⟨by first | exact Kd.S_nil _ _ _ _ _ | exact Kd.N_nil _ _ _ _ _ | exact Kd.V_nil _ _ _ _ _ | exact Kd.Q_nil _ _ _ _ _ | exact Kd.R_nil _ _ _ _ _⟩, ⟨qR HO391.out⟩, ⟨qK BK387.out⟩, ⟨qB⟩⟩
  case round =>
   clear H'
   obtain ⟨x3_1, x12_1, rfl, HA, HK1, HO_3, HO_10, BK387, HB⟩ := hrel
   cases gk with
   | zero => exact absurd HA.out (by simp [live_In.l0])
   | succ k1 =>
    have H := HA.out
    clear HA
    simp only [live_In.l0] at H
    by_cases c11 : x12_1 < (t389.length : Int)
    ·rw [zC c11] at H
     have c11b0 := zF c11
     clear c11
     by_cases c12 : 0 ≤ x12_1
     ·rw [zC c12] at H
      have c12b0 := zF c12
      clear c12
      by_cases c13 : x12_1 < (t389.length : Int)
      ·rw [zC c13] at H
       have c13b0 := zF c13
       clear c13
       replace H := qb H; obtain ⟨t393, A14, H⟩ := H
       by_cases c15 : x3_1.length < 5864062014805
       ·rw [zC c15] at H
        have LMc15 := zA c15
        clear c15
        obtain ⟨y396, hy396⟩ : ∃ y_ : List (List Int), y_ = (x3_1 ++ [t393]) := ⟨_, rfl⟩
        replace H : (live_In.l0 k1 y396 t389 (t389.length : Int) (wrap64 (x12_1 + 1))) = some r := by (try rw [hy396]); first | with_reducible exact H | exact (zJ _ _).symm.trans H | exact H
        have Ny396 := zA hy396
        clear hy396
        have H' := zA H
        clear H
        have p392 : 0 ≤ (x12_1 : Int) := zB qA
        have q392 : x12_1 < (t389.length : Int) := zB qA
        obtain ⟨ad392, e392, hx392_0⟩ := Kd.at_int (Kd.R_reads' HO_10.out).2.2 x12_1 p392 q392
        cases e392
        replace p392 := eq_true p392
        replace q392 := eq_true q392
        go_wp2_with (first | ((with_reducible refine gate_callee (f := 122) rfl ?_); refine goesL_ (some 18) rfl rfl Tryd.func122 (by kernel_rfl) rfl #[.int .u64 (rd t389 x12_1)] rfl qL ?_; (with_reducible refine (live_set_list.calls k1 (rd t389 x12_1) t393 _ A14.out (hL := ?side99)).mono ?_); (case side99 => exact LaidW.below HLd.out qB); rintro e w16 ⟨v394, rfl, ho0, hb⟩; refine ⟨_, rfl, ?_⟩; replace HO_3 := zA (Kd.S_elder' (qS HO_3.out) (Kd.R_base ho0) hb); replace HO_10 := zA (Kd.R_below (qR HO_10.out) hb); have HO395 := zA (Kd.R_lower ho0 (below_size qB)); replace BK387 := qW BK387 hb; replace HB := qH hb; (try clear hb); (try clear ho0); obtain ⟨Ao18, co18, eo18⟩ := Kd.R_slice HO395.out; subst eo18) | ((with_reducible refine gate_builtin (b := .append) (xs := #[.tmp 16, .tmp 19]) rfl ?_); at_builtin; refine Kd.S_append (Kd.slice 3 (Kd.int .i64)) (w0 := w) w.heap.size rfl (.tmp 16) (.tmp 19) 30 35 (.slice none 0 0) 24 rfl Tryd.underlying30 info35 rfl (by decide) (by omega) u3 x3_1 t393 [.slice Ao18 t393.length co18] (fun _ => True) (fun k_ => some k_ = (.slice Ao18 t393.length co18 : Value).ownBlock) rfl rfl ?aP (fun k_ hk_ => ((Kd.R_mono (ok' := fun k_ => ((fun _ => True)) k_ ∧ some k_ ≠ (u3 : Value).ownBlock) (Kd.R_apart' (HO395.out) (Kd.S_typed HO_3.out) (by decide)) (fun k_ hk => ⟨trivial, hk.2⟩))).1 k_ hk_.symm) ?aF ?aO ?aB ?aS ?aL ?_; (case aP => exact Kd.M_row (Kd.R_mono (Kd.R_tight rfl (Kd.R_mono (ok' := fun k_ => ((fun _ => True)) k_ ∧ some k_ ≠ (u3 : Value).ownBlock) (Kd.R_apart' (HO395.out) (Kd.S_typed HO_3.out) (by decide)) (fun k_ hk => ⟨trivial, hk.2⟩))) (fun _ h_ => h_))); (case aB => exact qB); (case aF => exact (fun _ _ => trivial)); (case aO => exact (by (with_reducible repeat (first | apply Kd.S_alloc | apply Kd.S_drewN | apply Kd.S_drew)); exact Kd.S_mono HO_3.out (fun k_ hk => ⟨trivial, fun e_ => hk.2 e_⟩))); (case aS => exact (below_size qB)); (case aL => have := LMc15.out; omega); intro v397 w17 ho hb hg hat; rw [← Ny396.out] at ho; replace HO_10 := zA (Kd.R_over' (qR HO_10.out) (Kd.S_typed (qS HO_3.out)) (by decide) hg); replace BK387 := zA (blk_grown (qK BK387.out) hg (Kd.S_ne HO_3.out BK387.out (by decide))); replace HB := zA (hb); have HO398 := zA (ho); clear HO_3 HO395; clear ho hb hg hat))
        go_roundg k1
        case measure => have := HK1.out; omega
        case rel => exact ⟨(y396), (wrap64 (x12_1 + 1)), qT, H', ⟨by have := HK1.out; omega⟩, ⟨qS HO398.out⟩, ⟨qR HO_10.out⟩, ⟨qK BK387.out⟩, ⟨qB⟩⟩
       ·rw [zD c15] at H
        exact absurd H (by simp)
      ·rw [zD c13] at H
       exact absurd H (by simp)
     ·rw [zD c12] at H
      exact absurd H (by simp)
    ·rw [zD c11] at H
     have c11b0 := zG c11
     clear c11
     obtain rfl := zI H
     go_wp2
     go_ret
     exact ⟨_, qE, qS HO_3.out, qB⟩
 ·rw [zD c3] at H
  obtain ⟨c3b0, c3b1⟩ := qn c3
  obtain rfl := zI H
  go_enter Tryd.func83, Tryd.ntmps83
  go_wp2_with (first | ((with_reducible refine gate_dst (N := 1) rfl ?_); refine box_event (by rfl) (N := 1) (by rfl) (cs := #[.string a0_0, .int .i64 a0_1, .int .i64 a0_2, .slice A0_3 l0_3.length c0_3]) (t := 24) ?hr ?_; (case hr => go_simp <;> rfl); intro gb387 hg w19 hbox hb; have BK387 := zA (hbox); have GW387 := qG hg; have GE387 := GW387; replace HB := qH hb; clear hb hbox hg; have z20_0 := bk4 BK387.out) | ((with_reducible refine gate_callee (f := 78) rfl ?_); refine goesL_ (some 7) rfl rfl Tryd.func78 (by kernel_rfl) rfl #[.agg #[.string a0_0, .int .i64 a0_1, .int .i64 a0_2, .slice A0_3 l0_3.length c0_3]] rfl qL ?_; (with_reducible refine (ir_Check.calls k a0_0 a0_1 a0_2 _ _ l0_3 t388 _ ?side1 ?side2 A2.out (hL := ?side99)).mono ?_); (case side1 => exact qCB HR0_3.out); (case side2 => exact HC0_3.out); (case side99 => exact LaidW.below HLd.out qB); rintro e w21 ⟨rfl, hb⟩; refine ⟨_, rfl, ?_⟩; replace BK387 := qW BK387 hb; replace HB := qH hb; (try clear hb)))
  go_ret
  exact ⟨_, qE, by first | exact Kd.S_nil _ _ _ _ _ | exact Kd.N_nil _ _ _ _ _ | exact Kd.V_nil _ _ _ _ _ | exact Kd.Q_nil _ _ _ _ _ | exact Kd.R_nil _ _ _ _ _, qB⟩

def live_Ahead.j0 : Nat → Int → Int → Bool → ByteArray → Int → Int → List (List (SIns)) → Option (List Int)
 | 0, _, _, _, _, _, _, _ => none
 | k + 1, x1, x2, x34, x400000, x400001, x400002, x400003 => if x34 = true then (some ([] : List Int)) else ((live_sets.f k x400000 x400001 x400002 x400003).bind fun t402 => ((live_ahead.f k x400000 x400001 x400002 x400003 t402 x1 x2).bind fun t405 => ((live_set_list.f k t405).bind fun t406 => (some t406))))
def live_Ahead.f (k : Nat) (a0_0 : ByteArray) (a0_1 : Int) (a0_2 : Int) (l0_3 : List (List (SIns))) (a1 : Int) (a2 : Int) : Option (List Int) := (ir_Check.f k a0_0 a0_1 a0_2 l0_3).bind fun t400 => (if t400 = 0 then (if a1 < 0 then (live_Ahead.j0 k a1 a2 true a0_0 a0_1 a0_2 l0_3) else (if a1 ≥ (l0_3.length : Int) then (live_Ahead.j0 k a1 a2 true a0_0 a0_1 a0_2 l0_3) else (if a2 < 0 then (live_Ahead.j0 k a1 a2 true a0_0 a0_1 a0_2 l0_3) else (if 0 ≤ a1 then (if a1 < (l0_3.length : Int) then (live_Ahead.j0 k a1 a2 (decide (a2 > ((rd_LIns l0_3 a1).length : Int))) a0_0 a0_1 a0_2 l0_3) else (none)) else (none))))) else (live_Ahead.j0 k a1 a2 true a0_0 a0_1 a0_2 l0_3))
def live_Ahead.T3 : Bool × List (List Nat × List Nat) := (true, [([], []), ([], []), ([1], [1]), ([], []), ([], []), ([0, 2, 3, 4, 2], [0, 2, 3, 4]), ([5, 5], [5]), ([6, 6, 0, 1, 2, 3, 4, 5, 6], [6])])
def live_Ahead.B3 : List Nat := [0, 0, 2, 0, 0, 31, 63, 127]
theorem live_Ahead.tab3 : rtab .any (opsOf Tryd.f84 3) = live_Ahead.T3 := by kernel_rfl
theorem live_Ahead.bits3 : waitsOk live_Ahead.T3.2 live_Ahead.B3 = true := by kernel_rfl
set_option maxHeartbeats 8000000 in
set_option maxRecDepth 100000 in
theorem live_Ahead.calls (k : Nat) (a0_0 : ByteArray) (a0_1 : Int) (a0_2 : Int) (A0_3 : Option Addr) (c0_3 : Nat) (l0_3 : List (List (SIns))) (a1 : Int) (a2 : Int) (r : List Int) (w : World) (hL : LaidW w) (hr0_3 : Kd.C (Kd.slice 38 kIns) w A0_3 l0_3.length l0_3) (hc0_3 : l0_3.length ≤ c0_3) (h : live_Ahead.f k a0_0 a0_1 a0_2 l0_3 a1 a2 = some r) :
 Calls Tryd.prog 84 #[.agg #[.string a0_0, .int .i64 a0_1, .int .i64 a0_2, .slice A0_3 l0_3.length c0_3], .int .i64 a1, .int .i64 a2] w fun e w' => ∃ v0_ : Value, e = .returned (v0_) ∧ Kd.R (Kd.int .i64) 3 w' w.heap.size (fun _ => True) v0_ r ∧ Below w.heap.size w w' := by
 have hu24 := Tryd.underlying24
 have HR0_3 := zA hr0_3
 have HC0_3 := zA hc0_3
 clear hr0_3 hc0_3
 have HB := zA (Below.refl w.heap.size w)
 have HLd := zA hL
 clear hL
 have H := h; clear h; unfold live_Ahead.f at H
 have HC4 := zA H
 clear H
 go_enter Tryd.func84, Tryd.ntmps84
 go_upto_region 1 with (first | ((with_reducible refine gate_dst (N := 3) rfl ?_); (try (refine gate_guard (by rfl) ?_; dsimp only)); refine box_event (by rfl) (N := 3) (by rfl) (cs := #[.string a0_0, .int .i64 a0_1, .int .i64 a0_2, .slice A0_3 l0_3.length c0_3]) (t := 24) ?hr ?_; (case hr => go_simp <;> rfl); intro gb399 hg w5 hbox hb; have BK399 := zA (hbox); have GW399 := qG hg; have GE399 := GW399; replace HB := qH hb; clear hb hbox hg))
 (try simp only [Act.put, List.setIfInBounds_toArray, List.set_cons_zero, List.set_cons_succ])
 go_cut [34] (fun v34 wc => ∃ (kq : Nat) (x34_3 : Bool), v34 = .bool x34_3 ∧ Aside0 (live_Ahead.j0 kq a1 a2 x34_3 a0_0 a0_1 a0_2 l0_3 = some r) ∧ Aside0 (kq ≤ k) ∧ Aside0 (wc.heap[gb399]? = some (.cells #[.string a0_0, .int .i64 a0_1, .int .i64 a0_2, (.slice A0_3 l0_3.length c0_3)] 24 (0, 0))) ∧ Aside0 (Below w.heap.size w wc))
 case first =>
  have H := HC4.out
  clear HC4
  replace H := qb H; obtain ⟨t400, A6, H⟩ := H
  by_cases c7 : t400 = 0
  ·rw [zC c7] at H
   obtain ⟨c7b0, c7b1⟩ := qe c7; clear c7
   (first | rw [c7b0] | (simp only [i64_w, i32_w]; rw [c7b0]) | skip)
   by_cases c8 : a1 < 0
   ·rw [zC c8] at H
    have c8b0 := zF c8
    clear c8
    have H' := zA H
    clear H
    have z9_0 := bk4 BK399.out
    go_wp2_with (first | ((with_reducible refine gate_callee (f := 78) rfl ?_); refine goesL_ (some 8) rfl rfl Tryd.func78 (by kernel_rfl) rfl #[.agg #[.string a0_0, .int .i64 a0_1, .int .i64 a0_2, .slice A0_3 l0_3.length c0_3]] rfl qL ?_; (with_reducible refine (ir_Check.calls k a0_0 a0_1 a0_2 _ _ l0_3 t400 _ ?side1 ?side2 A6.out (hL := ?side99)).mono ?_); (case side1 => exact qCB HR0_3.out); (case side2 => exact HC0_3.out); (case side99 => exact LaidW.below HLd.out qB); rintro e w10 ⟨rfl, hb⟩; refine ⟨_, rfl, ?_⟩; replace BK399 := qW BK399 hb; replace HB := qH hb; (try clear hb)))
    go_meet
    case rel => exact ⟨_, (true), qT, H', ⟨qO⟩, ⟨qK BK399.out⟩, ⟨qB⟩⟩
   ·rw [zD c8] at H
    have c8b0 := zG c8
    clear c8
    by_cases c11 : a1 ≥ (l0_3.length : Int)
    ·rw [zC c11] at H
     have c11b0 : decide ((l0_3.length : Int) ≤ a1) = true := zF c11
     clear c11
     have H' := zA H
     clear H
     have z12_0 := bk4 BK399.out
     go_wp2_with (first | ((with_reducible refine gate_callee (f := 78) rfl ?_); refine goesL_ (some 8) rfl rfl Tryd.func78 (by kernel_rfl) rfl #[.agg #[.string a0_0, .int .i64 a0_1, .int .i64 a0_2, .slice A0_3 l0_3.length c0_3]] rfl qL ?_; (with_reducible refine (ir_Check.calls k a0_0 a0_1 a0_2 _ _ l0_3 t400 _ ?side1 ?side2 A6.out (hL := ?side99)).mono ?_); (case side1 => exact qCB HR0_3.out); (case side2 => exact HC0_3.out); (case side99 => exact LaidW.below HLd.out qB); rintro e w13 ⟨rfl, hb⟩; refine ⟨_, rfl, ?_⟩; replace BK399 := qW BK399 hb; replace HB := qH hb; (try clear hb); have z14_0 := bk4 BK399.out))
     go_meet
     case rel => exact ⟨_, (true), qT, H', ⟨qO⟩, ⟨qK BK399.out⟩, ⟨qB⟩⟩
    ·rw [zD c11] at H
     have c11b0 : decide ((l0_3.length : Int) ≤ a1) = false := zG c11
     clear c11
     by_cases c15 : a2 < 0
     ·rw [zC c15] at H
      have c15b0 := zF c15
      clear c15
      have H' := zA H
      clear H
      have z16_0 := bk4 BK399.out
      go_wp2_with (first | ((with_reducible refine gate_callee (f := 78) rfl ?_); refine goesL_ (some 8) rfl rfl Tryd.func78 (by kernel_rfl) rfl #[.agg #[.string a0_0, .int .i64 a0_1, .int .i64 a0_2, .slice A0_3 l0_3.length c0_3]] rfl qL ?_; (with_reducible refine (ir_Check.calls k a0_0 a0_1 a0_2 _ _ l0_3 t400 _ ?side1 ?side2 A6.out (hL := ?side99)).mono ?_); (case side1 => exact qCB HR0_3.out); (case side2 => exact HC0_3.out); (case side99 => exact LaidW.below HLd.out qB); rintro e w17 ⟨rfl, hb⟩; refine ⟨_, rfl, ?_⟩; replace BK399 := qW BK399 hb; replace HB := qH hb; (try clear hb); have z18_0 := bk4 BK399.out))
      go_meet
      case rel => exact ⟨_, (true), qT, H', ⟨qO⟩, ⟨qK BK399.out⟩, ⟨qB⟩⟩
     ·rw [zD c15] at H
      have c15b0 := zG c15
      clear c15
      by_cases c19 : 0 ≤ a1
      ·rw [zC c19] at H
       have c19b0 := zF c19
       clear c19
       by_cases c20 : a1 < (l0_3.length : Int)
       ·rw [zC c20] at H
        have c20b0 := zF c20
        clear c20
        have H' := zA H
        clear H
        have z21_0 := bk4 BK399.out
        go_wp2_with (first | ((with_reducible refine gate_callee (f := 78) rfl ?_); refine goesL_ (some 8) rfl rfl Tryd.func78 (by kernel_rfl) rfl #[.agg #[.string a0_0, .int .i64 a0_1, .int .i64 a0_2, .slice A0_3 l0_3.length c0_3]] rfl qL ?_; (with_reducible refine (ir_Check.calls k a0_0 a0_1 a0_2 _ _ l0_3 t400 _ ?side1 ?side2 A6.out (hL := ?side99)).mono ?_); (case side1 => exact qCB HR0_3.out); (case side2 => exact HC0_3.out); (case side99 => exact LaidW.below HLd.out qB); rintro e w22 ⟨rfl, hb⟩; refine ⟨_, rfl, ?_⟩; replace BK399 := qW BK399 hb; replace HB := qH hb; (try clear hb); have z23_0 := bk4 BK399.out; have p401 : 0 ≤ (a1 : Int) := zB qA; have q401 : a1 < (l0_3.length : Int) := zB qA; obtain ⟨ad401, A401_0, c401_0, e401, hx401_0, hl401_0, hi401_0⟩ := at_LIns HR0_3.out a1 p401 q401; cases e401; replace hx401_0 := (HB.out.cell (zE w _ hx401_0)).trans hx401_0; have HR401_0 := zA hi401_0; have HC401_0 := zA hl401_0; clear hi401_0 hl401_0; replace p401 := eq_true p401; replace q401 := eq_true q401))
        go_meet
        case rel => exact ⟨_, (decide (a2 > ((rd_LIns l0_3 a1).length : Int))), qT, H', ⟨qO⟩, ⟨qK BK399.out⟩, ⟨qB⟩⟩
       ·rw [zD c20] at H
        exact absurd H (by simp)
      ·rw [zD c19] at H
       exact absurd H (by simp)
  ·rw [zD c7] at H
   obtain ⟨c7b0, c7b1⟩ := qn c7
   (first | rw [c7b0] | (simp only [i64_w, i32_w]; rw [c7b0]) | skip)
   have H' := zA H
   clear H
   have z24_0 := bk4 BK399.out
   go_wp2_with (first | ((with_reducible refine gate_callee (f := 78) rfl ?_); refine goesL_ (some 8) rfl rfl Tryd.func78 (by kernel_rfl) rfl #[.agg #[.string a0_0, .int .i64 a0_1, .int .i64 a0_2, .slice A0_3 l0_3.length c0_3]] rfl qL ?_; (with_reducible refine (ir_Check.calls k a0_0 a0_1 a0_2 _ _ l0_3 t400 _ ?side1 ?side2 A6.out (hL := ?side99)).mono ?_); (case side1 => exact qCB HR0_3.out); (case side2 => exact HC0_3.out); (case side99 => exact LaidW.below HLd.out qB); rintro e w25 ⟨rfl, hb⟩; refine ⟨_, rfl, ?_⟩; replace BK399 := qW BK399 hb; replace HB := qH hb; (try clear hb)))
   go_meet
   case rel => exact ⟨_, (true), qT, H', ⟨qO⟩, ⟨qK BK399.out⟩, ⟨qB⟩⟩
 case rest =>
  clear HC4
  obtain ⟨kq, x34_3, rfl, HA, HJ3, BK399, HB⟩ := hcut
  cases kq with
  | zero => exact absurd HA.out (by simp [live_Ahead.j0])
  | succ kj3 =>
   have H := HA.out
   clear HA
   simp only [live_Ahead.j0] at H
   by_cases c26 : x34_3 = true
   ·subst c26
    have H1 : (some ([] : List Int)) = some r := by rw [zC rfl] at H; exact H
    clear H
    have H := H1
    clear H1
    obtain rfl := zI H
    go_wp2
    go_ret
    exact ⟨_, qE, by first | exact Kd.R_nil _ _ _ _ _ | exact Kd.N_nil _ _ _ _ _ | exact Kd.V_nil _ _ _ _ _ | exact Kd.Q_nil _ _ _ _ _ | exact Kd.S_nil _ _ _ _ _, qB⟩
   ·replace c26 := Bool.eq_false_iff.mpr c26
    subst c26
    have H1 : ((live_sets.f kj3 a0_0 a0_1 a0_2 l0_3).bind fun t402 => ((live_ahead.f kj3 a0_0 a0_1 a0_2 l0_3 t402 a1 a2).bind fun t405 => ((live_set_list.f kj3 t405).bind fun t406 => (some t406)))) = some r := by rw [zD (show ¬ (false = true) by decide)] at H; exact H
    clear H
    have H := H1
    clear H1
    replace H := qb H; obtain ⟨t402, A27, H⟩ := H
    replace H := qb H; obtain ⟨t405, A28, H⟩ := H
    replace H := qb H; obtain ⟨t406, A29, H⟩ := H
    obtain rfl := zI H
    try go_wp2
    have n0_ := zA (blk_drew BK399.out)
    have n1_ := zA (below_drew1 HB.out)
    clear BK399
    clear HB
    have BK399 := n0_
    have HB := n1_
    clear n0_ n1_
    refine start_ (n := 8) (S := fun w' => w'.cell? ⟨gb399, 0, none⟩ = some (.string a0_0) ∧ w'.cell? ⟨gb399, 1, none⟩ = some (.int .i64 a0_1) ∧ w'.cell? ⟨gb399, 2, none⟩ = some (.int .i64 a0_2) ∧ w'.cell? ⟨gb399, 3, none⟩ = some (.slice A0_3 l0_3.length c0_3)) (ds := []) (bA 8 0) (by kernel_rfl) rfl rfl ⟨(blk_cell BK399.out 0).trans rfl, (blk_cell BK399.out 1).trans rfl, (blk_cell BK399.out 2).trans rfl, (blk_cell BK399.out 3).trans rfl⟩ (fun hHeld => ?_); refine with_tabW live_Ahead.tab3 live_Ahead.bits3 (fun HT_ HW_ => ?_)
    generalize wc.drew = w30 at BK399 HB hHeld ⊢
    refine pu_ (i := 3) (N := some 38) (bA 8 8) ?_
    refine pu_ (i := 4) (N := some 39) (bA 8 24) ?_
    refine tk_ (i := 0) (N := some 35) (bA 8 25) ?_
    refine tk_ (i := 1) (N := some 36) (bA 8 27) ?_
    refine one_ (i := 2) (N := some 37) (bA 8 31) rfl rfl (one_of HT_.out (by kernel_rfl)) (by decide) (fun K hK => ?_)
    refine goes_ Tryd.func79 (by kernel_rfl) rfl #[.agg #[.string a0_0, .int .i64 a0_1, .int .i64 a0_2, .slice A0_3 l0_3.length c0_3]] (by rfl) rfl rfl qL ?_
    with_reducible refine (live_sets.calls kj3 a0_0 a0_1 a0_2 _ _ l0_3 t402 _ ?side1 ?side2 A27.out (hL := ?side99)).mono ?_
    (case side1 => exact qCB HR0_3.out)
    (case side2 => exact HC0_3.out)
    (case side99 => exact LaidW.below HLd.out qB)
    rintro e w31 ⟨v403, rfl, ho0, hb⟩
    refine ⟨_, rfl, ?_⟩
    have n0_ := zA (Kd.R_lower ho0 (below_size qB))
    have n1_ := qW BK399 hb
    have n2_ := qH hb
    clear BK399
    clear HB
    have HO404 := n0_
    have BK399 := n1_
    have HB := n2_
    clear n0_ n1_ n2_
    (try clear hb)
    (try clear hb2)
    (try clear hk)
    (try clear hi)
    (try clear ho0)
    obtain ⟨Ao32, co32, eo32⟩ := Kd.R_slice HO404.out
    (first | subst eo32 | (injection eo32 with f1_ f2_ f3_; have f4_ := f1_.symm; have f5_ := f3_.symm; clear f1_ f2_ f3_; subst f4_; subst f5_))
    refine hK.out _ _ ⟨(blk_cell BK399.out 0).trans rfl, (blk_cell BK399.out 1).trans rfl, (blk_cell BK399.out 2).trans rfl, (blk_cell BK399.out 3).trans rfl⟩ (fun hHeld => ?_)
    clear hK K
    refine norm_ (a' := ?_) ?_ ?_
    rotate_left
    ·show Act.put _ (some 37) _ = _
     simp only [Act.put, List.setIfInBounds_toArray, List.set_cons_zero, List.set_cons_succ, i64_w, i32_w]
     rfl
    refine one_ (i := 5) (N := some 40) (bA 8 63) rfl rfl (one_of HT_.out (by kernel_rfl)) (by decide) (fun K hK => ?_)
    refine goes_ Tryd.func119 (by kernel_rfl) rfl #[.agg #[.string a0_0, .int .i64 a0_1, .int .i64 a0_2, .slice A0_3 l0_3.length c0_3], .slice Ao32 t402.length co32, .int .i64 a1, .int .i64 a2] (by rfl) rfl rfl qL ?_
    with_reducible refine (live_ahead.calls kj3 a0_0 a0_1 a0_2 _ _ l0_3 _ _ t402 a1 a2 t405 _ ?side1 ?side2 ?side3 ?side4 A28.out (hL := ?side99)).mono ?_
    (case side1 => exact qCB HR0_3.out)
    (case side2 => exact HC0_3.out)
    (case side3 => repeat (first | exact (Kd.R_reads' HO404.out).2.2 | (with_reducible refine Kd.C_alloc ?_ _) | (with_reducible refine Kd.C_drewN ?_ _) | (with_reducible refine Kd.C_drew ?_)))
    (case side4 => exact (Kd.R_reads' HO404.out).2.1)
    (case side99 => exact LaidW.below HLd.out qB)
    rintro e w33 ⟨rfl, hb⟩
    refine ⟨_, rfl, ?_⟩
    have n0_ := zA (Kd.R_below (qR HO404.out) hb)
    have n1_ := qW BK399 hb
    have n2_ := qH hb
    clear HO404
    clear BK399
    clear HB
    have HO404 := n0_
    have BK399 := n1_
    have HB := n2_
    clear n0_ n1_ n2_
    (try clear hb)
    (try clear hb2)
    (try clear hk)
    (try clear hi)
    refine hK.out _ _ ⟨(blk_cell BK399.out 0).trans rfl, (blk_cell BK399.out 1).trans rfl, (blk_cell BK399.out 2).trans rfl, (blk_cell BK399.out 3).trans rfl⟩ (fun hHeld => ?_)
    clear hK K
    refine norm_ (a' := ?_) ?_ ?_
    rotate_left
    ·show Act.put _ (some 40) _ = _
     simp only [Act.put, List.setIfInBounds_toArray, List.set_cons_zero, List.set_cons_succ, i64_w, i32_w]
     rfl
    refine one_ (i := 6) (N := some 41) (bA 8 127) rfl rfl (one_of HT_.out (by kernel_rfl)) (by decide) (fun K hK => ?_)
    refine goes_ Tryd.func122 (by kernel_rfl) rfl #[.int .u64 t405] (by rfl) rfl rfl qL ?_
    with_reducible refine (live_set_list.calls kj3 t405 t406 _ A29.out (hL := ?side99)).mono ?_
    (case side99 => exact LaidW.below HLd.out qB)
    rintro e w34 ⟨v407, rfl, ho0, hb⟩
    refine ⟨_, rfl, ?_⟩
    have n0_ := zA (Kd.R_below (qR HO404.out) hb)
    have n1_ := zA (Kd.R_lower ho0 (below_size qB))
    have n2_ := qW BK399 hb
    have n3_ := qH hb
    clear HO404
    clear BK399
    clear HB
    have HO404 := n0_
    have HO408 := n1_
    have BK399 := n2_
    have HB := n3_
    clear n0_ n1_ n2_ n3_
    (try clear hb)
    (try clear hb2)
    (try clear hk)
    (try clear hi)
    (try clear ho0)
    refine hK.out _ _ ⟨(blk_cell BK399.out 0).trans rfl, (blk_cell BK399.out 1).trans rfl, (blk_cell BK399.out 2).trans rfl, (blk_cell BK399.out 3).trans rfl⟩ (fun hHeld => ?_)
    clear hK K
    refine norm_ (a' := ?_) ?_ ?_
    rotate_left
    ·show Act.put _ (some 41) _ = _
     simp only [Act.put, List.setIfInBounds_toArray, List.set_cons_zero, List.set_cons_succ, i64_w, i32_w]
     rfl
    refine pu_ (i := 7) (N := some 6) (bA 8 255) ?_
    refine done_ (done_of HT_.out (by kernel_rfl)) ?_
    try go_wp2
    go_ret
    exact ⟨_, qE, qR HO408.out, qB⟩
end Go.Proofs.YtpkimbkjjmbmcaaDoor.Q
namespace Go.Proofs.YtpkimbkjjmbmcaaDoor.Q
open Go.RowKit Go.Proofs.YtpkimbkjjmbmcaaDoorW.PrintWords Go.Proofs.YtpkimbkjjmbmcaaDoorW.PrintLast Go.Proofs.YtpkimbkjjmbmcaaDoorW.PrintMore
set_option linter.unusedVariables false
set_option linter.unusedSimpArgs false
structure EachCb {σ : Type} (w0 : World) (St : σ → World → Prop) (May : Nat → Prop) (fb : Nat → Int → List Int → σ → Option σ) (fi : Nat → Int → SIns → List Int → σ → Option σ) (kb ki : FuncId) (cb ci : Array Value) : Prop where
 below : ∀ s w, St s w → Below w0.heap.size w0 w
 step : ∀ s w w1, St s w → Below w.heap.size w w1 → St s w1
 bfn : ∃ fn, Tryd.prog.funcs[kb]? = some fn ∧ (fn.name == "runtime.NumGoroutine") = false ∧ fn.body.isSome = true
 ifn : ∃ fn, Tryd.prog.funcs[ki]? = some fn ∧ (fn.name == "runtime.NumGoroutine") = false ∧ fn.body.isSome = true
 block : ∀ k n l A c s s' w, fb k n l s = some s' → St s w → Kd.F (Kd.int .i64) w (fun q => ¬ May q) A l.length l → l.length ≤ c →
  Calls Tryd.prog kb (#[.int .i64 n, .slice A l.length c] ++ cb) w fun e w' => e = .returned (.tuple #[]) ∧ St s' w' ∧ Kept w w' May
 ins : ∀ k n (x : SIns) A5 c5 l A c s s' w, fi k n x l s = some s' → St s w → Kd.F (Kd.int .i64) w (fun q => ¬ May q) A5 x.f5.length x.f5 → x.f5.length ≤ c5 → Kd.F (Kd.int .i64) w (fun q => ¬ May q) A l.length l → l.length ≤ c →
  Calls Tryd.prog ki (#[.int .i64 n, .agg #[.int .i64 x.f0, .int .i64 x.f1, .int .i64 x.f2, .int .i64 x.f3, .string x.f4, .slice A5 x.f5.length c5], .slice A l.length c] ++ ci) w fun e w' => e = .returned (.tuple #[]) ∧ St s' w' ∧ Kept w w' May
mutual
def span_each.l0 {σ : Type} (fb : Nat → Int → List Int → σ → Option σ) (fi : Nat → Int → SIns → List Int → σ → Option σ) : Nat → ByteArray → Int → Int → List (List SIns) → List (List Int) → List Int → Int → Int → σ → Option σ
 | 0, _, _, _, _, _, _, _, _, _ => none
 | k + 1, a0, a1, a2, l3, inn, ord, n, j, s =>
  if j < (ord.length : Int) then
   if 0 ≤ j then
    if 0 ≤ rd ord j then
     if rd ord j < (inn.length : Int) then
      if rd ord j < (l3.length : Int) then
       (fb k (wrap64 (n + 1)) (rd_LInt inn (rd ord j)) s).bind fun s1 => span_each.l1 fb fi k a0 a1 a2 l3 inn ord n (rd ord j) j 0 s1
      else none
     else none
    else none
   else none
  else some s
def span_each.l1 {σ : Type} (fb : Nat → Int → List Int → σ → Option σ) (fi : Nat → Int → SIns → List Int → σ → Option σ) : Nat → ByteArray → Int → Int → List (List SIns) → List (List Int) → List Int → Int → Int → Int → Int → σ → Option σ
 | 0, _, _, _, _, _, _, _, _, _, _, _ => none
 | k + 1, a0, a1, a2, l3, inn, ord, n, b, j, i, s =>
  if i < ((rd_LIns l3 b).length : Int) then
   if 0 ≤ i then
    (live_Ahead.f k a0 a1 a2 l3 b (wrap64 (i + 1))).bind fun bh => (fi k (wrap64 (n + 1)) (rd_TIns (rd_LIns l3 b) i) bh s).bind fun s1 => span_each.l1 fb fi k a0 a1 a2 l3 inn ord (wrap64 (n + 1)) b j (wrap64 (i + 1)) s1
   else none
  else span_each.l0 fb fi k a0 a1 a2 l3 inn ord n (wrap64 (j + 1)) s
end
def span_each.f {σ : Type} (fb : Nat → Int → List Int → σ → Option σ) (fi : Nat → Int → SIns → List Int → σ → Option σ) (k : Nat) (a0 : ByteArray) (a1 a2 : Int) (l3 : List (List SIns)) (s : σ) : Option σ :=
 (live_In.f k a0 a1 a2 l3).bind fun inn => (flow_Order.f k l3).bind fun ord => span_each.l0 fb fi k a0 a1 a2 l3 inn ord 0 0 s
def span_each.T11 : Bool × List (List Nat × List Nat) := (true, [([], []), ([], []), ([], []), ([], []), ([], []), ([], []), ([5], [5]), ([3, 4, 6], [3, 4, 6]), ([0, 1, 2, 7, 7], [0, 1, 2, 7])])
def span_each.B11 : List Nat := [0, 0, 0, 0, 0, 0, 32, 120, 255]
theorem span_each.tab11 : rtab .any (opsOf Tryd.f43 11) = span_each.T11 := by kernel_rfl
theorem span_each.bits11 : waitsOk span_each.T11.2 span_each.B11 = true := by kernel_rfl
set_option maxHeartbeats 8000000 in
set_option maxRecDepth 100000 in
theorem span_each.calls {σ : Type} {St : σ → World → Prop} {May : Nat → Prop} {fb : Nat → Int → List Int → σ → Option σ} {fi : Nat → Int → SIns → List Int → σ → Option σ} {kb ki : FuncId} {cb ci : Array Value} {w0 : World} (hcb : EachCb w0 St May fb fi kb ki cb ci)
 (k : Nat) (a0 : ByteArray) (a1 a2 : Int) (A3 : Option Addr) (c3 : Nat) (l3 : List (List SIns)) (s s' : σ) (w : World) (hL : LaidW w0) (hr : Kd.C (Kd.slice 38 kIns) w0 A3 l3.length l3) (hc : l3.length ≤ c3)
 (hm0 : ∀ q, May q → w0.heap.size ≤ q) (hm1 : ∀ q, May q → q < w.heap.size) (h : span_each.f fb fi k a0 a1 a2 l3 s = some s') (hs : St s w) :
 Calls Tryd.prog 43 #[.agg #[.string a0, .int .i64 a1, .int .i64 a2, .slice A3 l3.length c3], .func (.func kb) #[] cb, .func (.func ki) #[] ci] w
  fun e w' => e = .returned (.tuple #[]) ∧ St s' w' ∧ Kept w w' May := by
 have CB := zA hcb
 have HR := zA hr
 have HC := zA hc
 have HLd := zA hL
 have HM0 := zA hm0
 have HM1 := zA hm1
 have HS := zA hs
 have HK := zA (Kept.refl w May)
 have H := h
 clear hcb hr hc hL hm0 hm1 hs h
 unfold span_each.f at H
 replace H := qb H; obtain ⟨inn, A1, H⟩ := H
 replace H := qb H; obtain ⟨ord, A2, H⟩ := H
 have H' := zA H
 clear H
 have hu24 := Tryd.underlying24
 have hu38 := Tryd.underlying38
 go_enter Tryd.func43, Tryd.ntmps43
 go_wp2_with (first
  | ((with_reducible refine gate_dst (N := 3) rfl ?_); refine box_event (by rfl) (N := 3) (by rfl) (cs := #[.string a0, .int .i64 a1, .int .i64 a2, .slice A3 l3.length c3]) (t := 24) ?hr ?_; (case hr => go_simp <;> rfl); intro gf hg w1 hbox hb; have BF := zA hbox; have GF := zA (show ¬ May gf from fun e_ => by have := HM1.out gf e_; omega); replace HS := zA (CB.out.step _ _ _ HS.out hb); replace HK := zA (Kept.below HK.out hb); have SZ := zA (show w.heap.size ≤ w1.heap.size from hb.size); clear hb hbox hg; have z1 := bk4 BF.out)
  | ((with_reducible refine gate_callee (f := 83) rfl ?_); refine goesL_ (some 13) rfl rfl Tryd.func83 (by kernel_rfl) rfl #[.agg #[.string a0, .int .i64 a1, .int .i64 a2, .slice A3 l3.length c3]] rfl qL ?_; (with_reducible refine (live_In.calls k a0 a1 a2 _ _ l3 inn _ ?side1 ?side2 A1.out (hL := ?side99)).mono ?_); (case side1 => exact Kd.C_below HR.out (CB.out.below _ _ HS.out)); (case side2 => exact HC.out); (case side99 => exact LaidW.below HLd.out (CB.out.below _ _ HS.out)); rintro e w2 ⟨v0, rfl, ho, hb⟩; refine ⟨_, rfl, ?_⟩; obtain ⟨Ai, ci_, ei⟩ := Kd.S_slice ho; subst ei; have HI := zA (Kd.F_mono (Kd.S_F (Kd.S_bound ho)) (fun q hq => fun e_ => by have := HM1.out q e_; have := SZ.out; omega : ∀ q, _ → ¬ May q)); replace HS := zA (CB.out.step _ _ _ HS.out hb); replace HK := zA (Kept.below HK.out hb); replace BF := zA (blk_below BF.out hb); replace SZ := zA (Nat.le_trans SZ.out hb.size); clear z1 hb ho A1; have z1 := bk4 BF.out)
  | ((with_reducible refine gate_callee (f := 40) rfl ?_); refine goesL_ (some 16) rfl rfl Tryd.func40 (by kernel_rfl) rfl #[.slice A3 l3.length c3] rfl qL ?_; (with_reducible refine (flow_Order.calls k _ _ l3 ord _ ?side1 ?side2 A2.out).mono ?_); (case side1 => exact Kd.C_below HR.out (CB.out.below _ _ HS.out)); (case side2 => exact HC.out); rintro e w3 ⟨v0, rfl, ho, hb⟩; refine ⟨_, rfl, ?_⟩; obtain ⟨Ao, co, eo⟩ := Kd.R_slice ho; subst eo; have HO := zA (Kd.F_mono (Kd.R_F (Kd.R_bound ho)) (fun q hq => fun e_ => by have := HM1.out q e_; have := SZ.out; omega : ∀ q, _ → ¬ May q)); replace HI := zA (Kd.F_below HI.out hb); replace HS := zA (CB.out.step _ _ _ HS.out hb); replace HK := zA (Kept.below HK.out hb); replace BF := zA (blk_below BF.out hb); replace SZ := zA (Nat.le_trans SZ.out hb.size); clear z1 hb ho A2; have z1 := bk4 BF.out))
 go_loopg [6, 18] k (fun kq v6 v18 w' => ∃ (n j : Int) (s1 : σ), v6 = .int .i64 n ∧ v18 = .int .i64 j ∧ Aside0 (span_each.l0 fb fi kq a0 a1 a2 l3 inn ord n j s1 = some s') ∧ Aside0 (kq ≤ k) ∧ Aside0 (St s1 w') ∧ Aside0 (Kd.F (Kd.slice 3 (Kd.int .i64)) w' (fun q => ¬ May q) Ai inn.length inn) ∧ Aside0 (Kd.F (Kd.int .i64) w' (fun q => ¬ May q) Ao ord.length ord) ∧ Aside0 (w'.heap[gf]? = some (.cells #[.string a0, .int .i64 a1, .int .i64 a2, .slice A3 l3.length c3] 24 (0, 0))) ∧ Aside0 (Kept w w' May) ∧ Aside0 (w.heap.size ≤ w'.heap.size))
 case atStart => exact ⟨0, 0, s, by first | rfl | simp, by first | rfl | simp, H', ⟨Nat.le_refl _⟩, HS, HI, HO, BF, HK, SZ⟩
 case round =>
  clear H' HS HI HO BF HK SZ z1
  obtain ⟨n, j, s1, rfl, rfl, HA, HK1, HS, HI, HO, BF, HK, SZ⟩ := hrel
  cases gk with
  | zero => exact absurd HA.out (by simp [span_each.l0])
  | succ k1 =>
   have H := HA.out
   clear HA
   simp only [span_each.l0] at H
   by_cases c4 : j < (ord.length : Int)
   ·rw [zC c4] at H
    have c4b0 : decide (j < (ord.length : Int)) = true := zF c4
    by_cases c5 : ¬ 0 ≤ j
    ·rw [zD c5] at H
     exact absurd H (by simp)
    replace c5 := Decidable.not_not.1 c5
    rw [zC c5] at H
    by_cases c6 : ¬ 0 ≤ rd ord j
    ·rw [zD c6] at H
     exact absurd H (by simp)
    replace c6 := Decidable.not_not.1 c6
    rw [zC c6] at H
    by_cases c7 : ¬ rd ord j < (inn.length : Int)
    ·rw [zD c7] at H
     exact absurd H (by simp)
    replace c7 := Decidable.not_not.1 c7
    rw [zC c7] at H
    by_cases c8 : ¬ rd ord j < (l3.length : Int)
    ·rw [zD c8] at H
     exact absurd H (by simp)
    replace c8 := Decidable.not_not.1 c8
    rw [zC c8] at H
    replace H := qb H; obtain ⟨s2, B1, H⟩ := H
    have H' := zA H
    clear H
    obtain ⟨ad, ea, hx1⟩ := Kd.at_int (Kd.F_now HO.out) j c5 c4
    cases ea
    generalize hbb : rd ord j = b at c6 c7 c8 B1 H' hx1
    obtain ⟨adi, ce, ei, hcl, hfk, hcc, -⟩ := Kd.F_get HI.out [] b c6 c7
    cases ei
    obtain ⟨Ab, cb_, rfl, hlb, hFb⟩ := Kd.FK_slice_open hfk
    have hx2 : wr.cell? (adi.add (b.toNat * 1 + 0)) = some _ := hcc 0 _ rfl
    rw [Nat.mul_one, Nat.add_zero] at hx2
    have HFb := zA (show Kd.F (Kd.int .i64) wr (fun q => ¬ May q) Ab (rd_LInt inn b).length (rd_LInt inn b) from hFb)
    have HLb := zA (show (rd_LInt inn b).length ≤ cb_ from hlb)
    replace hx2 : wr.cell? (adi.add b.toNat) = some (.slice Ab (rd_LInt inn b).length cb_) := hx2
    clear hcl hfk hcc hFb hlb
    have z1 := bk4 BF.out
    obtain ⟨fnb, hf1, hf2, hf3⟩ := CB.out.bfn
    obtain ⟨fni, hi1, hi2, hi3⟩ := CB.out.ifn
    have HFN := zA (And.intro hf1 (And.intro hf2 hf3))
    have HIN := zA (And.intro hi1 (And.intro hi2 hi3))
    clear hf1 hf2 hf3 hi1 hi2 hi3
    go_wp2_with (refine goesLV_ (some 29) rfl rfl HFN.out.1 HFN.out.2.1 HFN.out.2.2 cb (#[.int .i64 (wrap64 (n + 1)), .slice Ab (rd_LInt inn b).length cb_] ++ cb) rfl rfl qLV ?_; refine (CB.out.block k1 (wrap64 (n + 1)) (rd_LInt inn b) Ab cb_ s1 s2 _ B1.out HS.out HFb.out HLb.out).mono ?_; rintro e w4 ⟨rfl, hs4, hk4⟩; refine ⟨_, rfl, ?_⟩; replace HS := zA hs4; replace HI := zA (Kd.F_kept HI.out hk4 (fun k hk => hk)); replace HO := zA (Kd.F_kept HO.out hk4 (fun k hk => hk)); replace BF := zA (blk_kept BF.out hk4 GF.out); replace HK := zA (Kept.then_ HK.out hk4 (fun k hk => .inl hk)); replace SZ := zA (Nat.le_trans SZ.out hk4.1); clear hs4 hk4 z1 hx1 hx2; have z1 := bk4 BF.out; obtain ⟨adr, Ar, cr, er, hx3, hlr, hir⟩ := at_LIns HR.out b c6 c8; cases er; replace hx3 := ((CB.out.below _ _ HS.out).cell (zE w0 _ hx3)).trans hx3; have HRr := zA hir; have HLr := zA hlr; clear hir hlr)
    go_loopg [6, 36] k1 (fun kq v6 v36 w' => ∃ (n1 i : Int) (s3 : σ), v6 = .int .i64 n1 ∧ v36 = .int .i64 i ∧ Aside0 (span_each.l1 fb fi kq a0 a1 a2 l3 inn ord n1 b j i s3 = some s') ∧ Aside0 (kq ≤ k1) ∧ Aside0 (St s3 w') ∧ Aside0 (Kd.F (Kd.slice 3 (Kd.int .i64)) w' (fun q => ¬ May q) (some adi) inn.length inn) ∧ Aside0 (Kd.F (Kd.int .i64) w' (fun q => ¬ May q) (some ad) ord.length ord) ∧ Aside0 (w'.heap[gf]? = some (.cells #[.string a0, .int .i64 a1, .int .i64 a2, .slice (some adr) l3.length c3] 24 (0, 0))) ∧ Aside0 (Kept w w' May) ∧ Aside0 (w.heap.size ≤ w'.heap.size))
    case atStart => exact ⟨n, 0, s2, by first | rfl | simp, by first | rfl | simp, H', ⟨Nat.le_refl _⟩, HS, HI, HO, BF, HK, SZ⟩
    case round =>
     clear H' HS HI HO BF HK SZ z1 hx3
     obtain ⟨n1, i, s3, rfl, rfl, HA, HK2, HS, HI, HO, BF, HK, SZ⟩ := hrel
     cases gk with
     | zero => exact absurd HA.out (by simp [span_each.l1])
     | succ k2 =>
      have H := HA.out
      clear HA
      simp only [span_each.l1] at H
      by_cases c9 : i < ((rd_LIns l3 b).length : Int)
      ·rw [zC c9] at H
       have c9b0 : decide (i < ((rd_LIns l3 b).length : Int)) = true := zF c9
       by_cases c10 : ¬ 0 ≤ i
       ·rw [zD c10] at H
        exact absurd H (by simp)
       replace c10 := Decidable.not_not.1 c10
       rw [zC c10] at H
       replace H := qb H; obtain ⟨bh, B2, H⟩ := H
       replace H := qb H; obtain ⟨s4, B3, H⟩ := H
       have H' := zA H
       clear H
       obtain ⟨adx, A5, c5, ex, hy0, hy1, hy2, hy3, hy4, hy5, hl5, hi5⟩ := at_TIns HRr.out i c10 c9
       cases ex
       generalize hxx : rd_TIns (rd_LIns l3 b) i = x at B3 hy0 hy1 hy2 hy3 hy4 hy5 hl5 hi5
       have HBl := CB.out.below _ _ HS.out
       replace hy0 := (HBl.cell (zE w0 _ hy0)).trans hy0
       replace hy1 := (HBl.cell (zE w0 _ hy1)).trans hy1
       replace hy2 := (HBl.cell (zE w0 _ hy2)).trans hy2
       replace hy3 := (HBl.cell (zE w0 _ hy3)).trans hy3
       replace hy4 := (HBl.cell (zE w0 _ hy4)).trans hy4
       replace hy5 := (HBl.cell (zE w0 _ hy5)).trans hy5
       have HL5 := zA hl5
       have HI5 := zA (Kd.C_F (Kd.heap_int .i64) hi5)
       clear HBl hl5 hi5
       go_wp2_with (first
        | ((with_reducible refine gate_dst (N := 11) rfl ?_); (try (refine gate_guard (by rfl) ?_; dsimp only)); refine box_event (by rfl) (N := 11) (by rfl) (cs := #[.int .i64 0, .int .i64 0, .int .i64 0, .int .i64 0, .string (⟨#[]⟩ : ByteArray), .slice none 0 0]) (t := 38) ?hr ?_; (case hr => go_simp <;> rfl); intro gx hg w5 hbox_ hb_; have hbox := zA hbox_; have hb := zA hb_; have HG := zA (Nat.le_of_eq hg.symm); clear hbox_ hb_ hg hy0 hy1 hy2 hy3 hy4 hy5; have z5 := bk6 hbox.out))
       generalize hw : ((((((w5.setCell ⟨gx, 0, none⟩ (.int .i64 x.f0)).setCell ⟨gx, 1, none⟩ (.int .i64 x.f1)).setCell ⟨gx, 2, none⟩ (.int .i64 x.f2)).setCell ⟨gx, 3, none⟩ (.int .i64 x.f3)).setCell ⟨gx, 4, none⟩ (.string x.f4)).setCell ⟨gx, 5, none⟩ (.slice A5 x.f5.length c5)) = w6
       have hgx := HG.out
       have BX := zA (show w6.heap[gx]? = some (.cells #[.int .i64 x.f0, .int .i64 x.f1, .int .i64 x.f2, .int .i64 x.f3, .string x.f4, .slice A5 x.f5.length c5] 38 (0, 0)) by rw [← hw]; exact (blk_put (blk_put (blk_put (blk_put (blk_put (blk_put hbox.out 0 _ rfl) 1 _ rfl) 2 _ rfl) 3 _ rfl) 4 _ rfl) 5 _ rfl))
       have hbl : Below wr.heap.size wr w6 := by rw [← hw]; exact (below_set (below_set (below_set (below_set (below_set (below_set hb.out hgx) hgx) hgx) hgx) hgx) hgx)
       have GX := zA (show ¬ May gx from fun e_ => by have := HM1.out gx e_; have := SZ.out; omega)
       replace HS := zA (CB.out.step _ _ _ HS.out hbl)
       replace HI := zA (Kd.F_below HI.out hbl)
       replace HO := zA (Kd.F_below HO.out hbl)
       replace BF := zA (blk_below BF.out hbl)
       replace HK := zA (Kept.below HK.out hbl)
       replace SZ := zA (Nat.le_trans SZ.out hbl.size)
       clear hbl hw z5 hgx HG hbox hb
       have n0_ := zA (blk_drew BX.out)
       have n1_ := zA (CB.out.step _ _ _ HS.out (below_drew (Below.refl _ _)))
       have n2_ := zA (Kd.F_drew HI.out)
       have n3_ := zA (Kd.F_drew HO.out)
       have n4_ := zA (blk_drew BF.out)
       have n5_ := zA (Kept.drew HK.out)
       have n6_ := zA (show w.heap.size ≤ w6.drew.heap.size from SZ.out)
       clear BX HS HI HO BF HK SZ
       refine start_ (n := 9) (S := fun w' => w'.cell? ⟨gx, 0, none⟩ = some (.int .i64 x.f0) ∧ w'.cell? ⟨gx, 1, none⟩ = some (.int .i64 x.f1) ∧ w'.cell? ⟨gx, 2, none⟩ = some (.int .i64 x.f2) ∧ w'.cell? ⟨gx, 3, none⟩ = some (.int .i64 x.f3) ∧ w'.cell? ⟨gx, 4, none⟩ = some (.string x.f4) ∧ w'.cell? ⟨gx, 5, none⟩ = some (.slice A5 x.f5.length c5) ∧ w'.cell? ⟨gf, 0, none⟩ = some (.string a0) ∧ w'.cell? ⟨gf, 1, none⟩ = some (.int .i64 a1) ∧ w'.cell? ⟨gf, 2, none⟩ = some (.int .i64 a2) ∧ w'.cell? ⟨gf, 3, none⟩ = some (.slice (some adr) l3.length c3)) (ds := []) (bA 9 0) (by kernel_rfl) rfl rfl ⟨(blk_cell n0_.out 0).trans rfl, (blk_cell n0_.out 1).trans rfl, (blk_cell n0_.out 2).trans rfl, (blk_cell n0_.out 3).trans rfl, (blk_cell n0_.out 4).trans rfl, (blk_cell n0_.out 5).trans rfl, (blk_cell n4_.out 0).trans rfl, (blk_cell n4_.out 1).trans rfl, (blk_cell n4_.out 2).trans rfl, (blk_cell n4_.out 3).trans rfl⟩ (fun hHeld => ?_); refine with_tabW span_each.tab11 span_each.bits11 (fun HT_ HW_ => ?_)
       generalize w6.drew = w7 at n0_ n1_ n2_ n3_ n4_ n5_ n6_ hHeld ⊢
       have BX := n0_
       have HS := n1_
       have HI := n2_
       have HO := n3_
       have BF := n4_
       have HK := n5_
       have SZ := n6_
       clear n0_ n1_ n2_ n3_ n4_ n5_ n6_
       refine pu_ (i := 0) (N := some 43) (bA 9 1) ?_
       refine pu_ (i := 1) (N := some 44) (bA 9 3) ?_
       refine tk_ (i := 2) (N := some 45) (bA 9 7) ?_
       refine tk_ (i := 3) (N := some 46) (bA 9 15) ?_
       refine pu_ (i := 4) (N := some 47) (bA 9 31) ?_
       refine pu_ (i := 5) (N := some 48) (bA 9 63) ?_
       refine pu_ (i := 6) (N := some 49) (bA 9 127) ?_
       refine one_ (i := 7) (N := some 50) (bA 9 255) rfl rfl (one_of HT_.out (by kernel_rfl)) (by decide) (fun K hK => ?_)
       refine goes_ Tryd.func84 (by kernel_rfl) rfl #[.agg #[.string a0, .int .i64 a1, .int .i64 a2, .slice (some adr) l3.length c3], .int .i64 b, .int .i64 (wrap64 (i + 1))] (by rfl) rfl rfl qL ?_
       with_reducible refine (live_Ahead.calls k2 a0 a1 a2 _ _ l3 b (wrap64 (i + 1)) bh _ ?side1 ?side2 B2.out (hL := ?side99)).mono ?_
       (case side1 => exact Kd.C_below HR.out (CB.out.below _ _ HS.out))
       (case side2 => exact HC.out)
       (case side99 => exact LaidW.below HLd.out (CB.out.below _ _ HS.out))
       rintro e w8 ⟨v0, rfl, ho, hb⟩
       refine ⟨_, rfl, ?_⟩
       obtain ⟨Aa, ca, ea⟩ := Kd.R_slice ho
       subst ea
       have hl_ := (Kd.R_reads' ho).2.1
       have HLa := zA hl_
       have HFa := zA (Kd.F_mono (Kd.R_F (Kd.R_bound ho)) (fun q hq => fun e_ => by have := HM1.out q e_; have := SZ.out; omega : ∀ q, _ → ¬ May q))
       replace HS := zA (CB.out.step _ _ _ HS.out hb)
       replace HI := zA (Kd.F_below HI.out hb)
       replace HO := zA (Kd.F_below HO.out hb)
       replace BF := zA (blk_below BF.out hb)
       replace HK := zA (Kept.below HK.out hb)
       replace SZ := zA (Nat.le_trans SZ.out hb.size)
       replace BX := zA (blk_below BX.out hb)
       clear hHeld ho hb hl_ B2
       refine hK.out _ _ ⟨(blk_cell BX.out 0).trans rfl, (blk_cell BX.out 1).trans rfl, (blk_cell BX.out 2).trans rfl, (blk_cell BX.out 3).trans rfl, (blk_cell BX.out 4).trans rfl, (blk_cell BX.out 5).trans rfl, (blk_cell BF.out 0).trans rfl, (blk_cell BF.out 1).trans rfl, (blk_cell BF.out 2).trans rfl, (blk_cell BF.out 3).trans rfl⟩ (fun hHeld => ?_)
       clear hK K
       refine norm_ (a' := ?_) ?_ ?_
       rotate_left
       ·show Act.put _ (some 50) _ = _
        simp only [Act.put, List.setIfInBounds_toArray, List.set_cons_zero, List.set_cons_succ, i64_w, i32_w]
        rfl
       refine one_ (i := 8) (N := some 51) (bA 9 511) rfl rfl (one_of HT_.out (by kernel_rfl)) (by decide) (fun K hK => ?_)
       refine goesV_ HIN.out.1 HIN.out.2.1 HIN.out.2.2 ci (#[.int .i64 (wrap64 (n1 + 1)), .agg #[.int .i64 x.f0, .int .i64 x.f1, .int .i64 x.f2, .int .i64 x.f3, .string x.f4, .slice A5 x.f5.length c5], .slice Aa bh.length ca] ++ ci) (by rfl) rfl rfl (by rfl) qLV ?_
       have H5 := zA (Kd.F_mono (Kd.F_below HI5.out (CB.out.below _ _ HS.out)) (fun q hq => fun e_ => by have := HM0.out q e_; omega : ∀ q, _ → ¬ May q))
       refine (CB.out.ins k2 (wrap64 (n1 + 1)) x A5 c5 bh Aa ca s3 s4 _ B3.out HS.out H5.out HL5.out HFa.out HLa.out).mono ?_
       rintro e w9 ⟨rfl, hs9, hk9⟩
       refine ⟨_, rfl, ?_⟩
       replace HS := zA hs9
       replace HI := zA (Kd.F_kept HI.out hk9 (fun k hk => hk))
       replace HO := zA (Kd.F_kept HO.out hk9 (fun k hk => hk))
       replace BF := zA (blk_kept BF.out hk9 GF.out)
       replace BX := zA (blk_kept BX.out hk9 GX.out)
       replace HK := zA (Kept.then_ HK.out hk9 (fun k hk => .inl hk))
       replace SZ := zA (Nat.le_trans SZ.out hk9.1)
       clear hs9 hk9 hHeld B3 H5 HFa HLa
       refine hK.out _ _ ⟨(blk_cell BX.out 0).trans rfl, (blk_cell BX.out 1).trans rfl, (blk_cell BX.out 2).trans rfl, (blk_cell BX.out 3).trans rfl, (blk_cell BX.out 4).trans rfl, (blk_cell BX.out 5).trans rfl, (blk_cell BF.out 0).trans rfl, (blk_cell BF.out 1).trans rfl, (blk_cell BF.out 2).trans rfl, (blk_cell BF.out 3).trans rfl⟩ (fun hHeld => ?_)
       clear hK K hHeld
       refine norm_ (a' := ?_) ?_ ?_
       rotate_left
       ·show Act.put _ (some 51) _ = _
        simp only [Act.put, List.setIfInBounds_toArray, List.set_cons_zero, List.set_cons_succ, i64_w, i32_w]
        rfl
       refine done_ (done_of HT_.out (by kernel_rfl)) ?_
       go_wp2
       go_roundg k2
       case measure => have := HK1.out; have := HK2.out; omega
       case rel => exact ⟨_, _, s4, by first | rfl | simp, by first | rfl | simp, H', ⟨by have := HK1.out; have := HK2.out; omega⟩, HS, HI, HO, BF, HK, SZ⟩
      ·rw [zD c9] at H
       have c9b0 : decide (i < ((rd_LIns l3 b).length : Int)) = false := zG c9
       have H' := zA H
       clear H
       go_wp2_with fail
       go_roundg k2
       case measure => have := HK1.out; have := HK2.out; omega
       case rel => exact ⟨_, _, s3, by first | rfl | simp, by first | rfl | simp, H', ⟨by have := HK1.out; have := HK2.out; omega⟩, HS, HI, HO, BF, HK, SZ⟩
   ·rw [zD c4] at H
    have c4b0 : decide (j < (ord.length : Int)) = false := zG c4
    obtain rfl := zI H
    clear H
    go_wp2_with fail
    first | go_end0 | ((try simp only [Exit.inBlock, Exit.then]); refine bodyPost_ret (results_none rfl _ _ _) rfl ?_)
    exact ⟨rfl, HS.out, HK.out⟩
theorem span_cells {w : World} {base : Nat} {ok : Nat → Prop} {go n c : Nat} {l : List SSpan} (h : Kd.R kSpan 28 w base ok (.slice (some ⟨go, 0, none⟩) n c) l) (i : Int) (h0 : 0 ≤ i) (h1 : i < (l.length : Int)) :
 w.cell? ⟨go, i.toNat * 2, none⟩ = some (.int .i64 (rd_TSpan l i).f0) ∧ w.cell? ⟨go, i.toNat * 2 + 1, none⟩ = some (.int .i64 (rd_TSpan l i).f1) ∧ w.frozen? ⟨go, i.toNat * 2, none⟩ = false ∧ w.frozen? ⟨go, i.toNat * 2 + 1, none⟩ = false := by
 have hn := (Kd.R_reads' h).1
 obtain ⟨ce, hcl, hM, hcc, hfr⟩ := Kd.R_elem h zSpan i h0 (by omega)
 obtain rfl := kSpan_openM hM
 exact ⟨hcc 0 _ rfl, hcc 1 _ rfl, hfr 0, hfr 1⟩
theorem span_put {w : World} {base : Nat} {ok : Nat → Prop} {go n c : Nat} {l : List SSpan} (h : Kd.R kSpan 28 w base ok (.slice (some ⟨go, 0, none⟩) n c) l) (i : Int) (h0 : 0 ≤ i) (h1 : i < (l.length : Int)) (x : SSpan) :
 Kd.R kSpan 28 ((w.setCell ⟨go, i.toNat * 2, none⟩ (.int .i64 x.f0)).setCell ⟨go, i.toNat * 2 + 1, none⟩ (.int .i64 x.f1)) base ok (.slice (some ⟨go, 0, none⟩) n c) (l.set i.toNat x) ∧
 w.grownBy ((w.setCell ⟨go, i.toNat * 2, none⟩ (.int .i64 x.f0)).setCell ⟨go, i.toNat * 2 + 1, none⟩ (.int .i64 x.f1)) (some go) := by
 have hn := (Kd.R_reads' h).1
 obtain ⟨ce, hcl, hM, hcc, hfr⟩ := Kd.R_elem h zSpan i h0 (by omega)
 obtain rfl := kSpan_openM hM
 exact Kd.R_seg h i h0 (by omega) (seg := [.int .i64 x.f0, .int .i64 x.f1]) (j := 0) hcl hcc (show 2 ≤ 2 from by decide) (x' := x) (kSpan_mkM _ _ _ x) (fun _ hk => hk)
def span_Spans.l0 : Nat → List SSpan → Int → Int → Option (List SSpan)
 | 0, _, _, _ => none
 | k + 1, o, m, i => if i < m then (if 0 ≤ i then (if i < (o.length : Int) then span_Spans.l0 k (o.set i.toNat ⟨-1, -1⟩) m (wrap64 (i + 1)) else none) else none) else some o
def span_Spans.l2 : Nat → Int → Int → List SSpan → Option (List SSpan)
 | 0, _, _, _ => none
 | k + 1, p, i, o => if i < p then (span_Spans_1.f i 1 o).bind fun b => span_Spans.l2 k p (wrap64 (i + 1)) b else some o
def span_Spans.ins (k : Nat) (n : Int) (x : SIns) (l : List Int) (s : List SSpan) : Option (List SSpan) := span_Spans_3.f k n x.f0 x.f1 x.f2 x.f3 x.f4 x.f5 l s
def span_Spans.f (k : Nat) (a0 : ByteArray) (a1 a2 : Int) (l3 : List (List SIns)) : Option (List SSpan) :=
 (live_Check.f k a0 a1 a2 l3).bind fun t =>
 if t = 0 then
  if 0 ≤ a2 then
   if a2.toNat ≤ 17592186044416 then
    (span_Spans.l0 k (List.replicate a2.toNat zSpan) ((List.replicate a2.toNat zSpan).length : Int) 0).bind fun o1 =>
    (span_Spans.l2 k a1 0 o1).bind fun o2 => span_each.f span_Spans_2.f span_Spans.ins k a0 a1 a2 l3 o2
   else none
  else none
 else some []
theorem span_Spans.cb {w0 : World} {gb gt ga : Nat} {u : Value} (hL : LaidW w0) :
 EachCb w0 (fun s w => SpSt3 w0 w gb gt ga u s) (fun q => some q = u.ownBlock) span_Spans_2.f span_Spans.ins 42 44 #[.pointer (some ⟨gt, 0, none⟩)] #[.pointer (some ⟨ga, 0, none⟩), .pointer (some ⟨gt, 0, none⟩)] where
 below := fun s w hs => hs.st.hB
 step := fun s w w1 hs hb => hs.below hb
 bfn := ⟨_, Tryd.func42, by kernel_rfl, rfl⟩
 ifn := ⟨_, Tryd.func44, by kernel_rfl, rfl⟩
 block := fun k n l A c s s' w h hs hl hc => (span_Spans_2.st k n A c l s s' w0 w gb gt u hl h hs.st).mono (by
  rintro e w' ⟨rfl, h1, hk⟩
  exact ⟨rfl, hs.kept h1 hk, hk⟩)
 ins := fun k n x A5 c5 l A c s s' w h hs h5 hc5 hl hc => span_Spans_3.st k n x.f0 x.f1 x.f2 x.f3 x.f4 A5 c5 x.f5 A c l s s' w0 w gb gt ga u hL h5 hc5 hl h hs
set_option maxHeartbeats 8000000 in
set_option maxRecDepth 100000 in
theorem span_Spans.calls (k : Nat) (a0 : ByteArray) (a1 a2 : Int) (A3 : Option Addr) (c3 : Nat) (l3 : List (List SIns)) (r : List SSpan) (w : World) (hL : LaidW w) (hr : Kd.C (Kd.slice 38 kIns) w A3 l3.length l3) (hc : l3.length ≤ c3) (h : span_Spans.f k a0 a1 a2 l3 = some r) :
 Calls Tryd.prog 14 #[.agg #[.string a0, .int .i64 a1, .int .i64 a2, .slice A3 l3.length c3]] w fun e w' => ∃ v0_ : Value, e = .returned (v0_) ∧ Kd.R kSpan 28 w' w.heap.size (fun _ => True) v0_ r ∧ Below w.heap.size w w' := by
 have HR := zA hr
 have HC := zA hc
 have HLd := zA hL
 have HB := zA (Below.refl w.heap.size w)
 have H := h
 clear hr hc hL h
 unfold span_Spans.f at H
 replace H := qb H; obtain ⟨t, A1, H⟩ := H
 have hu24 := Tryd.underlying24
 have hmf : ∀ (fn : Fn) (first cap : Array Value) (w : World), (Instr.makeFunc fn first cap).run Tryd.prog w = .ok (.func fn first cap) w := fun _ _ _ _ => rfl
 have hsf := fun (f : FuncId) (a : Addr) (c : Array Value) (w : World) => run_store Tryd.prog w a (.func (.func f) #[] c) .plain rfl
 by_cases c1 : t = 0
 ·rw [zC c1] at H
  obtain ⟨c1b0, c1b1⟩ := qe c1
  by_cases c2 : ¬ 0 ≤ a2
  ·rw [zD c2] at H
   exact absurd H (by simp)
  replace c2 := Decidable.not_not.1 c2
  rw [zC c2] at H
  by_cases c3_ : ¬ a2.toNat ≤ 17592186044416
  ·rw [zD c3_] at H
   exact absurd H (by simp)
  replace c3_ := Decidable.not_not.1 c3_
  rw [zC c3_] at H
  obtain ⟨o0, ho0⟩ : ∃ o_ : List SSpan, o_ = List.replicate a2.toNat zSpan := ⟨_, rfl⟩
  rw [← ho0] at H
  have N0 := zA ho0
  clear ho0
  replace H := qb H; obtain ⟨o1, A2, H⟩ := H
  replace H := qb H; obtain ⟨o2, A3_, H⟩ := H
  have A4 := zA H
  clear H
  go_enter Tryd.func14, Tryd.ntmps14
  go_wp2_with (first
   | ((with_reducible refine gate_dst (N := 1) rfl ?_); refine box_event (by rfl) (N := 1) (by rfl) (cs := #[.string a0, .int .i64 a1, .int .i64 a2, .slice A3 l3.length c3]) (t := 24) ?hr ?_; (case hr => go_simp <;> rfl); intro gf hg w1 hbox hb; have BF := zA hbox; replace HB := zA (below_step HB.out hb); clear hb hbox hg; have z1 := bk4 BF.out)
   | ((with_reducible refine gate_callee (f := 39) rfl ?_); refine goesL_ (some 9) rfl rfl Tryd.func39 (by kernel_rfl) rfl #[.agg #[.string a0, .int .i64 a1, .int .i64 a2, .slice A3 l3.length c3]] rfl qL ?_; (with_reducible refine (live_Check.calls k a0 a1 a2 _ _ l3 t _ ?side1 ?side2 A1.out (hL := ?side99)).mono ?_); (case side1 => exact Kd.C_below HR.out HB.out); (case side2 => exact HC.out); (case side99 => exact LaidW.below HLd.out HB.out); rintro e w2 ⟨rfl, hb⟩; refine ⟨_, rfl, ?_⟩; replace HB := zA (below_step HB.out hb); replace BF := zA (blk_below BF.out hb); clear z1 hb A1; have z1 := bk4 BF.out)
   | ((with_reducible refine gate_dst (N := 13) rfl ?_); refine Kd.R_make kSpan _ 28 rfl (N := 13) rfl 32 _ _ rfl a2 rfl rfl Tryd.underlying32 (.agg #[.int .i64 0, .int .i64 0]) 16 info28 rfl (by decide) (by omega) zSpan (ok := fun _ => True) (okp := fun _ => True) (kSpan_mkM _ _ _ zSpan) (fun _ hk => hk) trivial c2 (by omega) (Below.refl _ _) (Nat.le_refl _) ?_; intro vm w3 ho hb hg_ hnew_; rw [← N0.out] at ho; obtain ⟨Am, cm, em⟩ := Kd.R_slice ho; subst em; have HU := zA (Kd.R_lower ho (below_size HB.out)); replace HB := zA (below_step HB.out hb); replace BF := zA (blk_below BF.out hb); clear hg_ hnew_ hb ho z1)
   | ((with_reducible refine gate_dst (N := 3) rfl ?_); refine box_event ?hg (N := 3) ?hd (cs := #[.slice none 0 0]) (t := 32) ?hr ?_; (case hd => rfl); (case hg => rfl); (case hr => go_simp <;> rfl); intro gb hg w4 hbox hb; have GB := zA (show w.heap.size ≤ gb by rw [hg]; exact below_size HB.out); replace HB := zA (below_step HB.out hb); replace BF := zA (blk_below BF.out hb); replace HU := zA (Kd.R_below HU.out hb); have BB := zA hbox; clear hb hbox hg; have cm3 : w4.cell? ⟨gb, 0, none⟩ = some _ := blk_cell BB.out 0; have fm3 : w4.frozen? ⟨gb, 0, none⟩ = false := blk_frozen BB.out 0)
   | ((with_reducible refine gate_store (t := 32) (p := 3) rfl ?_); refine store_event (t := 32) (p := 3) (v := ?vo_1) (w1 := (w4.setCell ⟨gb, 0, none⟩ (.slice Am o0.length cm))) ?hg ?ho ?hn ?hr ?_; (case ho => rfl); (case hg => rfl); (case hn => rfl); (case hr => go_simp <;> rfl); intro w5 hw; have n0_ := zA (hw ▸ blk_put BB.out 0 _ rfl : w5.heap[gb]? = some (.cells #[.slice Am o0.length cm] 32 (0, 0))); have n1_ := zA (hw ▸ blk_far BF.out (p := ⟨gb, 0, none⟩) (blk_ne BF.out BB.out (by decide)) _ : w5.heap[gf]? = some _); have n2_ := zA (hw ▸ Kd.R_set HU.out BB.out (by decide) 0 _ : Kd.R kSpan 28 w5 _ _ _ _); have n3_ := zA (hw ▸ below_set HB.out GB.out : Below w.heap.size w w5); clear hw HB BB HU BF cm3 fm3; have BB := n0_; have BF := n1_; have HU := n2_; have HB := n3_; clear n0_ n1_ n2_ n3_; have cb := blk_cell BB.out 0))
  have H' := A2
  clear A2
  go_loopg [16] k (fun kq v16 w' => ∃ (i : Int) (o : List SSpan), v16 = .int .i64 i ∧ Aside0 (span_Spans.l0 kq o (o0.length : Int) i = some o1) ∧ Aside0 (kq ≤ k) ∧ Aside0 (o.length = o0.length) ∧ Aside0 (w'.heap[gb]? = some (.cells #[.slice Am o0.length cm] 32 (0, 0))) ∧ Aside0 (w'.heap[gf]? = some (.cells #[.string a0, .int .i64 a1, .int .i64 a2, .slice A3 l3.length c3] 24 (0, 0))) ∧ Aside0 (Kd.R kSpan 28 w' w.heap.size (fun _ => True) (.slice Am o0.length cm) o) ∧ Aside0 (Below w.heap.size w w'))
  case atStart => exact ⟨0, o0, by first | rfl | simp, H', ⟨Nat.le_refl _⟩, ⟨rfl⟩, BB, BF, HU, HB⟩
  case round =>
   clear H' BB BF HU HB cb
   obtain ⟨i, o, rfl, HA, HK1, HLo, BB, BF, HU, HB⟩ := hrel
   cases gk with
   | zero => exact absurd HA.out (by simp [span_Spans.l0])
   | succ k1 =>
    have H := HA.out
    clear HA
    simp only [span_Spans.l0] at H
    by_cases c4 : i < (o0.length : Int)
    ·rw [zC c4] at H
     have c4b0 : decide (i < (o0.length : Int)) = true := zF c4
     by_cases c5 : ¬ 0 ≤ i
     ·rw [zD c5] at H
      exact absurd H (by simp)
     replace c5 := Decidable.not_not.1 c5
     rw [zC c5] at H
     by_cases c6 : ¬ i < (o.length : Int)
     ·rw [zD c6] at H
      exact absurd H (by simp)
     replace c6 := Decidable.not_not.1 c6
     rw [zC c6] at H
     have H' := zA H
     clear H
     obtain ⟨go, co, eo, gbo, glo, clo, HGo⟩ := Kd.R_form HU.out (by omega)
     injection eo with e1 e2 e3
     subst e1
     clear e2 e3 glo clo HGo
     have GO := zA gbo
     clear gbo
     have hz := span_cells HU.out i c5 c6
     have cb := blk_cell BB.out 0
     go_wp2_with fail
     generalize hw : ((wr.setCell ⟨go, i.toNat * 2, none⟩ (.int .i64 (-1))).setCell ⟨go, i.toNat * 2 + 1, none⟩ (.int .i64 (-1))) = w6
     have hp : Kd.R kSpan 28 w6 w.heap.size (fun _ => True) (.slice (some ⟨go, 0, none⟩) o0.length cm) (o.set i.toNat ⟨-1, -1⟩) ∧ wr.grownBy w6 (some go) := by rw [← hw]; exact span_put HU.out i c5 c6 ⟨-1, -1⟩
     replace BB := zA (blk_grown BB.out hp.2 (Kd.R_ne HU.out BB.out (by decide)))
     replace BF := zA (blk_grown BF.out hp.2 (Kd.R_ne HU.out BF.out (by decide)))
     have HB6 := zA (show Below w.heap.size w w6 by rw [← hw]; exact below_set (below_set HB.out GO.out) GO.out)
     replace HU := zA hp.1
     clear hw hp hz cb HB
     go_roundg k1
     case measure => have := HK1.out; omega
     case rel => exact ⟨_, _, by first | rfl | simp, H', ⟨by have := HK1.out; omega⟩, ⟨by have := HLo.out; simp only [List.length_set]; omega⟩, BB, BF, HU, HB6⟩
    ·rw [zD c4] at H
     have c4b0 : decide (i < (o0.length : Int)) = false := zG c4
     obtain rfl := zI H
     clear H
     have z1 := bk4 BF.out
     have cb := blk_cell BB.out 0
     go_wp2_with (first
      | ((with_reducible refine gate_dst (N := 5) rfl ?_); refine box_event ?hg (N := 5) ?hd (cs := #[.nilFunc]) (t := 74) ?hr ?_; (case hd => rfl); (case hg => rfl); (case hr => go_simp <;> rfl); intro gt hg w_gt hbox hb; have Ggt := zA (show w.heap.size ≤ gt by rw [hg]; exact below_size HB.out); replace BB := zA (blk_below BB.out hb); replace BF := zA (blk_below BF.out hb); replace HU := zA (Kd.R_below HU.out hb); replace HB := zA (below_step HB.out hb); have Bgt := zA hbox; clear hb hbox hg; have cm3 : w_gt.cell? ⟨gt, 0, none⟩ = some _ := blk_cell Bgt.out 0; have fm3 : w_gt.frozen? ⟨gt, 0, none⟩ = false := blk_frozen Bgt.out 0)
      | ((with_reducible refine gate_store (t := 74) (p := 5) rfl ?_); refine store_event (t := 74) (p := 5) (v := ?vo_2) (w1 := (w_gt.setCell ⟨gt, 0, none⟩ (.func (.func 41) #[] #[.pointer (some ⟨gb, 0, none⟩)]))) ?hg ?ho ?hn ?hr ?_; (case ho => rfl); (case hg => rfl); (case hn => rfl); (case hr => go_simp <;> rfl); intro wq_gt hw; have nb_ := zA (hw ▸ blk_put Bgt.out 0 _ rfl : wq_gt.heap[gt]? = some (.cells #[.func (.func 41) #[] #[.pointer (some ⟨gb, 0, none⟩)]] 74 (0, 0))); have n0_ := zA (hw ▸ blk_far BB.out (p := ⟨gt, 0, none⟩) (blk_ne BB.out Bgt.out (by decide)) _ : wq_gt.heap[gb]? = some _); have n1_ := zA (hw ▸ blk_far BF.out (p := ⟨gt, 0, none⟩) (blk_ne BF.out Bgt.out (by decide)) _ : wq_gt.heap[gf]? = some _); have n2_ := zA (hw ▸ Kd.R_set HU.out Bgt.out (by decide) 0 _ : Kd.R kSpan 28 wq_gt _ _ _ _); have n3_ := zA (hw ▸ below_set HB.out Ggt.out : Below w.heap.size w wq_gt); clear hw BB BF HU HB Bgt cm3 fm3; have Bgt := nb_; have BB := n0_; have BF := n1_; have HU := n2_; have HB := n3_; clear nb_ n0_ n1_ n2_ n3_; have cb := blk_cell BB.out 0; have z2 := bk4 BF.out; have cg_gt := blk_cell Bgt.out 0))
     have HS := zA (show SpSt w wq_gt gb gt (.slice Am o0.length cm) o from ⟨BB.out, Bgt.out, HU.out, HB.out⟩)
     have H' := A3_
     clear A3_ BB Bgt HU HB cb cg_gt z2
     go_loopg [27] k (fun kq v27 w' => ∃ (j : Int) (o' : List SSpan), v27 = .int .i64 j ∧ Aside0 (span_Spans.l2 kq a1 j o' = some o2) ∧ Aside0 (kq ≤ k) ∧ Aside0 (SpSt w w' gb gt (.slice Am o0.length cm) o') ∧ Aside0 (w'.heap[gf]? = some (.cells #[.string a0, .int .i64 a1, .int .i64 a2, .slice A3 l3.length c3] 24 (0, 0))))
     case atStart => exact ⟨0, o, by first | rfl | simp, H', ⟨Nat.le_refl _⟩, HS, BF⟩
     case round =>
      clear H' HS BF z1
      obtain ⟨j, o, rfl, HA, HK1, HS, BF⟩ := hrel
      cases gk with
      | zero => exact absurd HA.out (by simp [span_Spans.l2])
      | succ k1 =>
       have H := HA.out
       clear HA
       simp only [span_Spans.l2] at H
       by_cases d1 : j < a1
       ·rw [zC d1] at H
        have d1b0 : decide (j < a1) = true := zF d1
        replace H := qb H; obtain ⟨o3, A5, H⟩ := H
        have H' := zA H
        clear H
        have ct := blk_cell HS.out.bt 0
        go_wp2_with fail
        refine (span_Spans_1.st j 1 o3 A5.out HS.out).mono ?_
        rintro e w6 ⟨rfl, hs6, hk6⟩
        replace BF := zA (blk_kept BF.out hk6 (fun e => ne_own BF.out (Kd.R_typed HS.out.hu) (by decide) e.symm))
        replace HS := zA hs6
        clear hs6 hk6 ct
        go_wp2_with fail
        go_roundg k1
        case measure => have := HK1.out; omega
        case rel => exact ⟨_, o3, by first | rfl | simp, H', ⟨by have := HK1.out; omega⟩, HS, BF⟩
       ·rw [zD d1] at H
        have d1b0 : decide (j < a1) = false := zG d1
        obtain rfl := zI H
        clear H
        have z1 := bk4 BF.out
        have BB := zA HS.out.bb
        have Bgt := zA HS.out.bt
        have HU := zA HS.out.hu
        have HB := zA HS.out.hB
        clear HS
        go_wp2_with (first
         | ((with_reducible refine gate_dst (N := 7) rfl ?_); refine box_event ?hg (N := 7) ?hd (cs := #[.nilFunc]) (t := 75) ?hr ?_; (case hd => rfl); (case hg => rfl); (case hr => go_simp <;> rfl); intro ga hg w_ga hbox hb; have Gga := zA (show w.heap.size ≤ ga by rw [hg]; exact below_size HB.out); replace BB := zA (blk_below BB.out hb); replace Bgt := zA (blk_below Bgt.out hb); replace BF := zA (blk_below BF.out hb); replace HU := zA (Kd.R_below HU.out hb); replace HB := zA (below_step HB.out hb); have Bga := zA hbox; clear hb hbox hg; have cm3 : w_ga.cell? ⟨ga, 0, none⟩ = some _ := blk_cell Bga.out 0; have fm3 : w_ga.frozen? ⟨ga, 0, none⟩ = false := blk_frozen Bga.out 0)
         | ((with_reducible refine gate_store (t := 75) (p := 7) rfl ?_); refine store_event (t := 75) (p := 7) (v := ?vo_3) (w1 := (w_ga.setCell ⟨ga, 0, none⟩ (.func (.func 42) #[] #[.pointer (some ⟨gt, 0, none⟩)]))) ?hg ?ho ?hn ?hr ?_; (case ho => rfl); (case hg => rfl); (case hn => rfl); (case hr => go_simp <;> rfl); intro wq_ga hw; have nb_ := zA (hw ▸ blk_put Bga.out 0 _ rfl : wq_ga.heap[ga]? = some (.cells #[.func (.func 42) #[] #[.pointer (some ⟨gt, 0, none⟩)]] 75 (0, 0))); have n0_ := zA (hw ▸ blk_far BB.out (p := ⟨ga, 0, none⟩) (blk_ne BB.out Bga.out (by decide)) _ : wq_ga.heap[gb]? = some _); have n1_ := zA (hw ▸ blk_far Bgt.out (p := ⟨ga, 0, none⟩) (blk_ne Bgt.out Bga.out (by decide)) _ : wq_ga.heap[gt]? = some _); have n2_ := zA (hw ▸ blk_far BF.out (p := ⟨ga, 0, none⟩) (blk_ne BF.out Bga.out (by decide)) _ : wq_ga.heap[gf]? = some _); have n3_ := zA (hw ▸ Kd.R_set HU.out Bga.out (by decide) 0 _ : Kd.R kSpan 28 wq_ga _ _ _ _); have n4_ := zA (hw ▸ below_set HB.out Gga.out : Below w.heap.size w wq_ga); clear hw BB Bgt BF HU HB Bga cm3 fm3; have Bga := nb_; have BB := n0_; have Bgt := n1_; have BF := n2_; have HU := n3_; have HB := n4_; clear nb_ n0_ n1_ n2_ n3_ n4_; have cb := blk_cell BB.out 0; have z2 := bk4 BF.out; have cg_ga := blk_cell Bga.out 0)
         | ((with_reducible refine gate_callee (f := 43) rfl ?_); refine goesL_ (some 38) rfl rfl Tryd.func43 (by kernel_rfl) rfl #[.agg #[.string a0, .int .i64 a1, .int .i64 a2, .slice A3 l3.length c3], .func (.func 42) #[] #[.pointer (some ⟨gt, 0, none⟩)], .func (.func 44) #[] #[.pointer (some ⟨ga, 0, none⟩), .pointer (some ⟨gt, 0, none⟩)]] rfl qL ?_; (refine (span_each.calls (span_Spans.cb (gb := gb) (u := .slice Am o0.length cm) HLd.out) k a0 a1 a2 A3 c3 l3 o r _ HLd.out HR.out HC.out (fun q e_ => Kd.R_base HU.out q e_.symm) (fun q e_ => Kd.R_lt HU.out q e_.symm) A4.out ⟨⟨BB.out, Bgt.out, HU.out, HB.out⟩, Bga.out⟩).mono ?_); rintro e w8 ⟨rfl, hs8, hk8⟩; refine ⟨_, rfl, ?_⟩; have HS := zA hs8.st; clear hs8 hk8 BB Bgt Bga HU HB cb cg_ga; have cb := blk_cell HS.out.bb 0))
        go_ret
        exact ⟨_, rfl, HS.out.hu, HS.out.hB⟩
 ·rw [zD c1] at H
  obtain ⟨c1b0, c1b1⟩ := qn c1
  obtain rfl := zI H
  clear H
  go_enter Tryd.func14, Tryd.ntmps14
  go_wp2_with (first
   | ((with_reducible refine gate_dst (N := 1) rfl ?_); refine box_event (by rfl) (N := 1) (by rfl) (cs := #[.string a0, .int .i64 a1, .int .i64 a2, .slice A3 l3.length c3]) (t := 24) ?hr ?_; (case hr => go_simp <;> rfl); intro gf hg w1 hbox hb; have BF := zA hbox; replace HB := zA (below_step HB.out hb); clear hb hbox hg; have z1 := bk4 BF.out)
   | ((with_reducible refine gate_callee (f := 39) rfl ?_); refine goesL_ (some 9) rfl rfl Tryd.func39 (by kernel_rfl) rfl #[.agg #[.string a0, .int .i64 a1, .int .i64 a2, .slice A3 l3.length c3]] rfl qL ?_; (with_reducible refine (live_Check.calls k a0 a1 a2 _ _ l3 t _ ?side1 ?side2 A1.out (hL := ?side99)).mono ?_); (case side1 => exact Kd.C_below HR.out HB.out); (case side2 => exact HC.out); (case side99 => exact LaidW.below HLd.out HB.out); rintro e w2 ⟨rfl, hb⟩; refine ⟨_, rfl, ?_⟩; replace HB := zA (below_step HB.out hb); replace BF := zA (blk_below BF.out hb); clear z1 hb A1; have z1 := bk4 BF.out))
  go_ret
  exact ⟨_, rfl, Kd.R_nil _ _ _ _ _, HB.out⟩
structure CrSt (w0 w : World) (gb : Nat) (u : Value) (l : List Bool) : Prop where
 bb : w.heap[gb]? = some (.cells #[u] 43 (0, 0))
 hu : Kd.R Kd.bool 4 w w0.heap.size (fun _ => True) u l
 hB : Below w0.heap.size w0 w
theorem CrSt.below {w0 w w1 : World} {gb : Nat} {u : Value} {l : List Bool} (hs : CrSt w0 w gb u l) (hb : Below w.heap.size w w1) : CrSt w0 w1 gb u l :=
 ⟨blk_below hs.bb hb, Kd.R_below hs.hu hb, below_step hs.hB hb⟩
def span_Crosses_2.l0 : Nat → Int → Int → List Int → Int → List Bool → Option (List Bool)
 | 0, _, _, _, _, _ => none
 | k + 1, x0, x1, l, j, o =>
  if j < (l.length : Int) then
   if 0 ≤ j then
    if x0 = 11 then
     if rd l j = x1 then span_Crosses_2.l0 k x0 x1 l (wrap64 (j + 1)) o
     else if 0 ≤ rd l j then (if rd l j < (o.length : Int) then span_Crosses_2.l0 k x0 x1 l (wrap64 (j + 1)) (o.set (rd l j).toNat true) else none) else none
    else span_Crosses_2.l0 k x0 x1 l (wrap64 (j + 1)) o
   else none
  else some o
def span_Crosses_2.f (k : Nat) (n : Int) (x : SIns) (l : List Int) (o : List Bool) : Option (List Bool) := span_Crosses_2.l0 k x.f0 x.f1 l 0 o
set_option maxHeartbeats 8000000 in
set_option maxRecDepth 100000 in
theorem span_Crosses_2.st (k : Nat) (n : Int) (x : SIns) (A5 : Option Addr) (c5 : Nat) (A : Option Addr) (c : Nat) (l : List Int) (o o' : List Bool) (w0 w : World) (gb : Nat) (u : Value)
 (hl : Kd.F (Kd.int .i64) w (fun k => ¬ some k = u.ownBlock) A l.length l) (h : span_Crosses_2.f k n x l o = some o') (hs : CrSt w0 w gb u o) :
 Calls Tryd.prog 54 #[.int .i64 n, .agg #[.int .i64 x.f0, .int .i64 x.f1, .int .i64 x.f2, .int .i64 x.f3, .string x.f4, .slice A5 x.f5.length c5], .slice A l.length c, .pointer (some ⟨gb, 0, none⟩)] w
  fun e w' => e = .returned (.tuple #[]) ∧ CrSt w0 w' gb u o' ∧ Kept w w' (fun k => some k = u.ownBlock) := by
 have HL := zA hl
 have HS := zA hs
 have HK := zA (Kept.refl w (fun k => some k = u.ownBlock))
 have H' := zA (show span_Crosses_2.l0 k x.f0 x.f1 l 0 o = some o' from h)
 clear hl hs h
 obtain ⟨x0, x1, x2, x3, x4, x5⟩ := x
 dsimp only at H' ⊢
 have hu38 := Tryd.underlying38
 go_enter Tryd.func54, Tryd.ntmps54
 go_wp2_with (first | ((with_reducible refine gate_dst (N := 5) rfl ?_); refine box_event (by rfl) (N := 5) (by rfl) (cs := #[.int .i64 x0, .int .i64 x1, .int .i64 x2, .int .i64 x3, .string x4, .slice A5 x5.length c5]) (t := 38) ?hr ?_; (case hr => go_simp <;> rfl); intro gx hg w1 hbox hb; have BX := zA hbox; replace HS := zA (HS.out.below hb); replace HL := zA (Kd.F_below HL.out hb); replace HK := zA (Kept.below HK.out hb); clear hb hbox hg))
 go_loopg [11] k (fun kq v11 w' => ∃ (j : Int) (o1 : List Bool), v11 = .int .i64 j ∧ Aside0 (span_Crosses_2.l0 kq x0 x1 l j o1 = some o') ∧ Aside0 (kq ≤ k) ∧
  Aside0 (CrSt w0 w' gb u o1) ∧ Aside0 (Kd.F (Kd.int .i64) w' (fun k => ¬ some k = u.ownBlock) A l.length l) ∧ Aside0 (w'.heap[gx]? = some (.cells #[.int .i64 x0, .int .i64 x1, .int .i64 x2, .int .i64 x3, .string x4, .slice A5 x5.length c5] 38 (0, 0))) ∧ Aside0 (Kept w w' (fun k => some k = u.ownBlock)))
 case atStart => exact ⟨0, o, by first | rfl | simp, H', ⟨Nat.le_refl _⟩, HS, HL, BX, HK⟩
 case round =>
  clear H' HS HL BX HK
  obtain ⟨j, o1, rfl, HA, HK1, HS, HL, BX, HK⟩ := hrel
  cases gk with
  | zero => exact absurd HA.out (by simp [span_Crosses_2.l0])
  | succ k1 =>
   have H := HA.out
   clear HA
   simp only [span_Crosses_2.l0] at H
   by_cases c3 : j < (l.length : Int)
   ·rw [zC c3] at H
    have c3b0 : decide (j < (l.length : Int)) = true := zF c3
    by_cases c4 : ¬ 0 ≤ j
    ·rw [zD c4] at H
     exact absurd H (by simp)
    replace c4 := Decidable.not_not.1 c4
    rw [zC c4] at H
    obtain ⟨ad, ea, hx1⟩ := Kd.at_int (Kd.F_now HL.out) j c4 c3
    cases ea
    have z1 := bk6 BX.out
    by_cases d1 : x0 = 11
    ·rw [zC d1] at H
     obtain ⟨d1b0, d1b1⟩ := qe d1
     by_cases d2 : rd l j = x1
     ·rw [zC d2] at H
      have H' := zA H
      clear H
      obtain ⟨d2b0, d2b1⟩ := qe d2
      go_wp2_with fail
      go_roundg k1
      case measure => have := HK1.out; omega
      case rel => exact ⟨_, o1, by first | rfl | simp, H', ⟨by have := HK1.out; omega⟩, HS, HL, BX, HK⟩
     ·rw [zD d2] at H
      obtain ⟨d2b0, d2b1⟩ := qn d2
      by_cases e5 : ¬ 0 ≤ rd l j
      ·rw [zD e5] at H
       exact absurd H (by simp)
      replace e5 := Decidable.not_not.1 e5
      rw [zC e5] at H
      by_cases c6 : ¬ rd l j < (o1.length : Int)
      ·rw [zD c6] at H
       exact absurd H (by simp)
      replace c6 := Decidable.not_not.1 c6
      rw [zC c6] at H
      have H' := zA H
      clear H
      obtain ⟨go, co, eo, gbo, glo, clo, HGo⟩ := Kd.R_form HS.out.hu (by omega)
      subst eo
      obtain ⟨hx2, hf2⟩ := Kd.R_celln false HS.out.hu (rd l j) e5 c6
      have cb := blk_cell HS.out.bb 0
      clear glo clo HGo
      go_wp2_with fail
      generalize hw : (wr.setCell ⟨go, (rd l j).toNat, none⟩ (.bool true)) = w6
      have hp := Kd.R_putg HS.out.hu (rd l j) true
      rw [hw] at hp
      have hk6 : Kept wr w6 (fun k => some k = (Value.slice (some ⟨go, 0, none⟩) o1.length co).ownBlock) := by rw [← hw]; exact Kept.setCell (Kept.refl _ _) (.inl (by simp [Value.ownBlock])) _
      have n1 : ¬ some gb = (Value.slice (some ⟨go, 0, none⟩) o1.length co).ownBlock := fun e => ne_own HS.out.bb (Kd.R_typed HS.out.hu) (by decide) e.symm
      have n2 : ¬ some gx = (Value.slice (some ⟨go, 0, none⟩) o1.length co).ownBlock := fun e => ne_own BX.out (Kd.R_typed HS.out.hu) (by decide) e.symm
      have HS6 := zA (show CrSt w0 w6 gb (.slice (some ⟨go, 0, none⟩) o1.length co) (o1.set (rd l j).toNat true) from ⟨blk_kept HS.out.bb hk6 n1, hp.1, by rw [← hw]; exact below_set HS.out.hB gbo⟩)
      replace BX := zA (blk_kept BX.out hk6 n2)
      replace HL := zA (Kd.F_kept HL.out hk6 (fun k hk => hk))
      replace HK := zA (Kept.then_ HK.out hk6 (fun k hk => .inl hk))
      clear hw hp hk6 n1 n2 HS cb hx2 hf2 gbo z1 hx1
      go_roundg k1
      case measure => have := HK1.out; omega
      case rel => exact ⟨_, _, by first | rfl | simp, H', ⟨by have := HK1.out; omega⟩, HS6, HL, BX, HK⟩
    ·rw [zD d1] at H
     obtain ⟨d1b0, d1b1⟩ := qn d1
     have H' := zA H
     clear H
     go_wp2_with fail
     go_roundg k1
     case measure => have := HK1.out; omega
     case rel => exact ⟨_, o1, by first | rfl | simp, H', ⟨by have := HK1.out; omega⟩, HS, HL, BX, HK⟩
   ·rw [zD c3] at H
    have c3b0 : decide (j < (l.length : Int)) = false := zG c3
    obtain rfl := zI H
    clear H
    go_wp2_with fail
    first | go_end0 | ((try simp only [Exit.inBlock, Exit.then]); refine bodyPost_ret (results_none rfl _ _ _) rfl ?_)
    exact ⟨rfl, HS.out, HK.out⟩
set_option maxHeartbeats 8000000 in
set_option maxRecDepth 100000 in
theorem span_Crosses_1.st (n : Int) (v : Value) (w : World) : Calls Tryd.prog 53 #[.int .i64 n, v] w fun e w' => e = .returned (.tuple #[]) ∧ w' = w := by
 go_enter Tryd.func53, Tryd.ntmps53
 go_wp2
 first | go_end0 | ((try simp only [Exit.inBlock, Exit.then]); refine bodyPost_ret (results_none rfl _ _ _) rfl ?_)
 exact ⟨rfl, rfl⟩
def span_Crosses.blk (k : Nat) (n : Int) (l : List Int) (s : List Bool) : Option (List Bool) := some s
def span_Crosses.f (k : Nat) (a0 : ByteArray) (a1 a2 : Int) (l3 : List (List SIns)) : Option (List Bool) :=
 (live_Check.f k a0 a1 a2 l3).bind fun t =>
 if t = 0 then
  if 0 ≤ a2 then
   if a2.toNat ≤ 281474976710656 then span_each.f span_Crosses.blk span_Crosses_2.f k a0 a1 a2 l3 (List.replicate a2.toNat false)
   else none
  else none
 else some []
theorem span_Crosses.cb {w0 : World} {gb : Nat} {u : Value} :
 EachCb w0 (fun s w => CrSt w0 w gb u s) (fun q => some q = u.ownBlock) span_Crosses.blk span_Crosses_2.f 53 54 #[] #[.pointer (some ⟨gb, 0, none⟩)] where
 below := fun s w hs => hs.hB
 step := fun s w w1 hs hb => hs.below hb
 bfn := ⟨_, Tryd.func53, by kernel_rfl, rfl⟩
 ifn := ⟨_, Tryd.func54, by kernel_rfl, rfl⟩
 block := fun k n l A c s s' w h hs hl hc => (span_Crosses_1.st n (.slice A l.length c) w).mono (by
  rintro e w' ⟨rfl, rfl⟩
  obtain rfl := zI h
  exact ⟨rfl, hs, Kept.refl _ _⟩)
 ins := fun k n x A5 c5 l A c s s' w h hs h5 hc5 hl hc => span_Crosses_2.st k n x A5 c5 A c l s s' w0 w gb u hl h hs
set_option maxHeartbeats 8000000 in
set_option maxRecDepth 100000 in
theorem span_Crosses.calls (k : Nat) (a0 : ByteArray) (a1 a2 : Int) (A3 : Option Addr) (c3 : Nat) (l3 : List (List SIns)) (r : List Bool) (w : World) (hL : LaidW w) (hr : Kd.C (Kd.slice 38 kIns) w A3 l3.length l3) (hc : l3.length ≤ c3) (h : span_Crosses.f k a0 a1 a2 l3 = some r) :
 Calls Tryd.prog 22 #[.agg #[.string a0, .int .i64 a1, .int .i64 a2, .slice A3 l3.length c3]] w fun e w' => ∃ v0_ : Value, e = .returned (v0_) ∧ Kd.R Kd.bool 4 w' w.heap.size (fun _ => True) v0_ r ∧ Below w.heap.size w w' := by
 have HR := zA hr
 have HC := zA hc
 have HLd := zA hL
 have HB := zA (Below.refl w.heap.size w)
 have H := h
 clear hr hc hL h
 unfold span_Crosses.f at H
 replace H := qb H; obtain ⟨t, A1, H⟩ := H
 have hu24 := Tryd.underlying24
 have hmf : ∀ (fn : Fn) (first cap : Array Value) (w : World), (Instr.makeFunc fn first cap).run Tryd.prog w = .ok (.func fn first cap) w := fun _ _ _ _ => rfl
 have hsf := fun (f : FuncId) (a : Addr) (c : Array Value) (w : World) => run_store Tryd.prog w a (.func (.func f) #[] c) .plain rfl
 by_cases c1 : t = 0
 ·rw [zC c1] at H
  obtain ⟨c1b0, c1b1⟩ := qe c1
  by_cases c2 : ¬ 0 ≤ a2
  ·rw [zD c2] at H
   exact absurd H (by simp)
  replace c2 := Decidable.not_not.1 c2
  rw [zC c2] at H
  by_cases c3_ : ¬ a2.toNat ≤ 281474976710656
  ·rw [zD c3_] at H
   exact absurd H (by simp)
  replace c3_ := Decidable.not_not.1 c3_
  rw [zC c3_] at H
  obtain ⟨o0, ho0⟩ : ∃ o_ : List Bool, o_ = List.replicate a2.toNat false := ⟨_, rfl⟩
  rw [← ho0] at H
  have N0 := zA ho0
  clear ho0
  have A4 := zA H
  clear H
  go_enter Tryd.func22, Tryd.ntmps22
  go_wp2_with (first
   | ((with_reducible refine gate_dst (N := 1) rfl ?_); refine box_event (by rfl) (N := 1) (by rfl) (cs := #[.string a0, .int .i64 a1, .int .i64 a2, .slice A3 l3.length c3]) (t := 24) ?hr ?_; (case hr => go_simp <;> rfl); intro gf hg w1 hbox hb; have BF := zA hbox; replace HB := zA (below_step HB.out hb); clear hb hbox hg; have z1 := bk4 BF.out)
   | ((with_reducible refine gate_callee (f := 39) rfl ?_); refine goesL_ (some 5) rfl rfl Tryd.func39 (by kernel_rfl) rfl #[.agg #[.string a0, .int .i64 a1, .int .i64 a2, .slice A3 l3.length c3]] rfl qL ?_; (with_reducible refine (live_Check.calls k a0 a1 a2 _ _ l3 t _ ?side1 ?side2 A1.out (hL := ?side99)).mono ?_); (case side1 => exact Kd.C_below HR.out HB.out); (case side2 => exact HC.out); (case side99 => exact LaidW.below HLd.out HB.out); rintro e w2 ⟨rfl, hb⟩; refine ⟨_, rfl, ?_⟩; replace HB := zA (below_step HB.out hb); replace BF := zA (blk_below BF.out hb); clear z1 hb A1; have z1 := bk4 BF.out)
   | ((with_reducible refine gate_dst (N := 9) rfl ?_); refine Kd.R_make Kd.bool _ 4 rfl (N := 9) rfl 43 _ _ rfl a2 rfl rfl Tryd.underlying43 (.bool false) 1 info4 rfl (by decide) (by omega) false (ok := fun _ => True) (okp := fun _ => True) rfl (fun _ hk => hk) trivial c2 (by omega) (Below.refl _ _) (Nat.le_refl _) ?_; intro vm w3 ho hb hg_ hnew_; rw [← N0.out] at ho; obtain ⟨Am, cm, em⟩ := Kd.R_slice ho; subst em; have HU := zA (Kd.R_lower ho (below_size HB.out)); replace HB := zA (below_step HB.out hb); replace BF := zA (blk_below BF.out hb); clear hg_ hnew_ hb ho z1)
   | ((with_reducible refine gate_dst (N := 3) rfl ?_); refine box_event ?hg (N := 3) ?hd (cs := #[.slice none 0 0]) (t := 43) ?hr ?_; (case hd => rfl); (case hg => rfl); (case hr => go_simp <;> rfl); intro gb hg w4 hbox hb; have GB := zA (show w.heap.size ≤ gb by rw [hg]; exact below_size HB.out); replace HB := zA (below_step HB.out hb); replace BF := zA (blk_below BF.out hb); replace HU := zA (Kd.R_below HU.out hb); have BB := zA hbox; clear hb hbox hg; have cm3 : w4.cell? ⟨gb, 0, none⟩ = some _ := blk_cell BB.out 0; have fm3 : w4.frozen? ⟨gb, 0, none⟩ = false := blk_frozen BB.out 0)
   | ((with_reducible refine gate_store (t := 43) (p := 3) rfl ?_); refine store_event (t := 43) (p := 3) (v := ?vo_1) (w1 := (w4.setCell ⟨gb, 0, none⟩ (.slice Am o0.length cm))) ?hg ?ho ?hn ?hr ?_; (case ho => rfl); (case hg => rfl); (case hn => rfl); (case hr => go_simp <;> rfl); intro w5 hw; have n0_ := zA (hw ▸ blk_put BB.out 0 _ rfl : w5.heap[gb]? = some (.cells #[.slice Am o0.length cm] 43 (0, 0))); have n1_ := zA (hw ▸ blk_far BF.out (p := ⟨gb, 0, none⟩) (blk_ne BF.out BB.out (by decide)) _ : w5.heap[gf]? = some _); have n2_ := zA (hw ▸ Kd.R_set HU.out BB.out (by decide) 0 _ : Kd.R Kd.bool 4 w5 _ _ _ _); have n3_ := zA (hw ▸ below_set HB.out GB.out : Below w.heap.size w w5); clear hw HB BB HU BF cm3 fm3; have BB := n0_; have BF := n1_; have HU := n2_; have HB := n3_; clear n0_ n1_ n2_ n3_; have cb := blk_cell BB.out 0; have z1 := bk4 BF.out)
   | ((with_reducible refine gate_callee (f := 43) rfl ?_); refine goesL_ (some 12) rfl rfl Tryd.func43 (by kernel_rfl) rfl #[.agg #[.string a0, .int .i64 a1, .int .i64 a2, .slice A3 l3.length c3], .func (.func 53) #[] #[], .func (.func 54) #[] #[.pointer (some ⟨gb, 0, none⟩)]] rfl qL ?_; (refine (span_each.calls (span_Crosses.cb (gb := gb) (u := .slice Am o0.length cm)) k a0 a1 a2 A3 c3 l3 o0 r _ HLd.out HR.out HC.out (fun q e_ => Kd.R_base HU.out q e_.symm) (fun q e_ => Kd.R_lt HU.out q e_.symm) A4.out ⟨BB.out, HU.out, HB.out⟩).mono ?_); rintro e w8 ⟨rfl, hs8, hk8⟩; refine ⟨_, rfl, ?_⟩; have HS := zA hs8; clear hs8 hk8 BB HU HB cb; have cb := blk_cell HS.out.bb 0))
  go_ret
  exact ⟨_, rfl, HS.out.hu, HS.out.hB⟩
 ·rw [zD c1] at H
  obtain ⟨c1b0, c1b1⟩ := qn c1
  obtain rfl := zI H
  clear H
  go_enter Tryd.func22, Tryd.ntmps22
  go_wp2_with (first
   | ((with_reducible refine gate_dst (N := 1) rfl ?_); refine box_event (by rfl) (N := 1) (by rfl) (cs := #[.string a0, .int .i64 a1, .int .i64 a2, .slice A3 l3.length c3]) (t := 24) ?hr ?_; (case hr => go_simp <;> rfl); intro gf hg w1 hbox hb; have BF := zA hbox; replace HB := zA (below_step HB.out hb); clear hb hbox hg; have z1 := bk4 BF.out)
   | ((with_reducible refine gate_callee (f := 39) rfl ?_); refine goesL_ (some 5) rfl rfl Tryd.func39 (by kernel_rfl) rfl #[.agg #[.string a0, .int .i64 a1, .int .i64 a2, .slice A3 l3.length c3]] rfl qL ?_; (with_reducible refine (live_Check.calls k a0 a1 a2 _ _ l3 t _ ?side1 ?side2 A1.out (hL := ?side99)).mono ?_); (case side1 => exact Kd.C_below HR.out HB.out); (case side2 => exact HC.out); (case side99 => exact LaidW.below HLd.out HB.out); rintro e w2 ⟨rfl, hb⟩; refine ⟨_, rfl, ?_⟩; replace HB := zA (below_step HB.out hb); replace BF := zA (blk_below BF.out hb); clear z1 hb A1; have z1 := bk4 BF.out))
  go_ret
  exact ⟨_, rfl, Kd.R_nil _ _ _ _ _, HB.out⟩
end Go.Proofs.YtpkimbkjjmbmcaaDoor.Q
namespace Go.Proofs.YtpkimbkjjmbmcaaDoor.Q
open Go.RowKit Go.Proofs.YtpkimbkjjmbmcaaDoorW.PrintWords Go.Proofs.YtpkimbkjjmbmcaaDoorW.PrintLast Go.Proofs.YtpkimbkjjmbmcaaDoorW.PrintMore
attribute [local go_sem] max2_int min2_int max_two min_two max_three min_three max_four min_four
set_option linter.unusedVariables false
set_option linter.unusedSimpArgs false
attribute [local go_sem high] eqASpan

mutual
def cubbylaw12_SpanSpans.j0 : Nat → List (List Int) → List (List Int) → List (SSpan) → List (SSpan) → List Bool → List Bool → Bool → Option (Bool)
 | 0, _, _, _, _, _, _, _ => none
 | k + 1, x3, x4, x5, x6, x7, x8, x46 => if x46 = true then (some false) else (cubbylaw12_SpanSpans.l0 k x3 x4 x5 x6 x7 x8 0)
def cubbylaw12_SpanSpans.l0 : Nat → List (List Int) → List (List Int) → List (SSpan) → List (SSpan) → List Bool → List Bool → Int → Option (Bool)
 | 0, _, _, _, _, _, _, _ => none
 | k + 1, x3, x4, x5, x6, x7, x8, x9 => if x9 < (x3.length : Int) then (if 0 ≤ x9 then (if x9 < (x4.length : Int) then ((cubbyref10_Ints.f k (rd_LInt x3 x9) (rd_LInt x4 x9)).bind fun t641 => (if t641 = true then (cubbylaw12_SpanSpans.l0 k x3 x4 x5 x6 x7 x8 (wrap64 (x9 + 1))) else (some false))) else (none)) else (none)) else (cubbylaw12_SpanSpans.l1 k x5 x6 x7 x8 0)
def cubbylaw12_SpanSpans.l1 : Nat → List (SSpan) → List (SSpan) → List Bool → List Bool → Int → Option (Bool)
 | 0, _, _, _, _, _ => none
 | k + 1, x5, x6, x7, x8, x10 => if x10 < (x5.length : Int) then (if 0 ≤ x10 then (if x10 < (x6.length : Int) then (if (!(((rd_TSpan x5 x10).f0) == ((rd_TSpan x6 x10).f0)) || (!(((rd_TSpan x5 x10).f1) == ((rd_TSpan x6 x10).f1)))) = true then (some false) else (if x10 < (x7.length : Int) then (if x10 < (x8.length : Int) then (if ((rdOf false x7 x10) != (rdOf false x8 x10)) = true then (some false) else (cubbylaw12_SpanSpans.l1 k x5 x6 x7 x8 (wrap64 (x10 + 1)))) else (none)) else (none))) else (none)) else (none)) else (some true)
end
def cubbylaw12_SpanSpans.f (k : Nat) (a0_0 : ByteArray) (a0_1 : Int) (a0_2 : Int) (l0_3 : List (List (SIns))) : Option (Bool) := (cubbylaw12_heavy.f k a0_0 a0_1 a0_2 l0_3).bind fun t619 => (if t619 = true then ((span_Meet.f 1 3 3 3).bind fun t620 => (some t620)) else ((span_Places.f k a0_0 a0_1 a0_2 l0_3).bind fun t621 => ((cubbyref12_Places.f k a0_0 a0_1 a0_2 l0_3).bind fun t624 => ((span_Spans.f k a0_0 a0_1 a0_2 l0_3).bind fun t627 => ((cubbyref12_Spans.f k a0_0 a0_1 a0_2 l0_3).bind fun t630 => ((span_Crosses.f k a0_0 a0_1 a0_2 l0_3).bind fun t633 => ((cubbyref12_Crosses.f k a0_0 a0_1 a0_2 l0_3).bind fun t636 => (if (t621.length : Int) = (t624.length : Int) then (if (t627.length : Int) = (t630.length : Int) then (cubbylaw12_SpanSpans.j0 k t621 t624 t627 t630 t633 t636 ((t633.length : Int) != (t636.length : Int))) else (cubbylaw12_SpanSpans.j0 k t621 t624 t627 t630 t633 t636 true)) else (cubbylaw12_SpanSpans.j0 k t621 t624 t627 t630 t633 t636 true)))))))))
set_option maxHeartbeats 8000000 in
set_option maxRecDepth 100000 in
theorem cubbylaw12_SpanSpans.calls (k : Nat) (a0_0 : ByteArray) (a0_1 : Int) (a0_2 : Int) (A0_3 : Option Addr) (c0_3 : Nat) (l0_3 : List (List (SIns))) (r : Bool) (w : World) (hL : LaidW w) (hr : r = true) (hr0_3 : Kd.C (Kd.slice 38 kIns) w A0_3 l0_3.length l0_3) (hc0_3 : l0_3.length ≤ c0_3) (h : cubbylaw12_SpanSpans.f k a0_0 a0_1 a0_2 l0_3 = some r) :
 Calls Tryd.prog 5 #[.agg #[.string a0_0, .int .i64 a0_1, .int .i64 a0_2, .slice A0_3 l0_3.length c0_3]] w fun e w' => e = .returned (.bool r) ∧ Below w.heap.size w w' := by
 have hu24 := Tryd.underlying24
 have hu28 := Tryd.underlying28
 have HR0_3 := zA hr0_3
 have HC0_3 := zA hc0_3
 clear hr0_3 hc0_3
 have HB := zA (Below.refl w.heap.size w)
 have HLd := zA hL
 clear hL
 have HRt := zA hr
 clear hr
 have H := h; clear h; unfold cubbylaw12_SpanSpans.f at H
 replace H := qb H; obtain ⟨t619, A2, H⟩ := H
 by_cases c3 : t619 = true
 ·subst c3
  have H1 : ((span_Meet.f 1 3 3 3).bind fun t620 => (some t620)) = some r := by rw [zC rfl] at H; exact H
  clear H
  have H := H1
  clear H1
  replace H := qb H; obtain ⟨t620, A4, H⟩ := H
  obtain rfl := zI H
  go_enter Tryd.func5, Tryd.ntmps5
  go_wp2_with (first | ((with_reducible refine gate_dst (N := 1) rfl ?_); (try (refine gate_guard (by rfl) ?_; dsimp only)); refine box_event (by rfl) (N := 1) (by rfl) (cs := #[.string a0_0, .int .i64 a0_1, .int .i64 a0_2, .slice A0_3 l0_3.length c0_3]) (t := 24) ?hr ?_; (case hr => go_simp <;> rfl); intro gb618 hg w5 hbox hb; have BK618 := zA (hbox); have GW618 := qG hg; have GE618 := GW618; replace HB := qH hb; clear hb hbox hg; have z6_0 := bk4 BK618.out) | (go_at_call 11; (with_reducible refine (cubbylaw12_heavy.calls k a0_0 a0_1 a0_2 _ _ l0_3 true _ ?side1 ?side2 A2.out).mono ?_); (case side1 => exact qCB HR0_3.out); (case side2 => exact HC0_3.out); rintro e w7 ⟨rfl, hb⟩; replace BK618 := qW BK618 hb; replace HB := qH hb; (try clear hb)) | (go_at_call 12; (with_reducible refine (span_Meet.calls 1 3 3 3 t620 _ A4.out).mono ?_); rintro e w8 ⟨rfl, hb⟩; replace BK618 := qW BK618 hb; replace HB := qH hb; (try clear hb)))
  repeat (go_quiet (first | ((with_reducible refine gate_dst (N := 1) rfl ?_); (try (refine gate_guard (by rfl) ?_; dsimp only)); refine box_event (by rfl) (N := 1) (by rfl) (cs := #[.string a0_0, .int .i64 a0_1, .int .i64 a0_2, .slice A0_3 l0_3.length c0_3]) (t := 24) ?hr ?_; (case hr => go_simp <;> rfl); intro gb618 hg w5 hbox hb; have BK618 := zA (hbox); have GW618 := qG hg; have GE618 := GW618; replace HB := qH hb; clear hb hbox hg; have z6_0 := bk4 BK618.out) | (go_at_call 11; (with_reducible refine (cubbylaw12_heavy.calls k a0_0 a0_1 a0_2 _ _ l0_3 true _ ?side1 ?side2 A2.out).mono ?_); (case side1 => exact qCB HR0_3.out); (case side2 => exact HC0_3.out); rintro e w7 ⟨rfl, hb⟩; replace BK618 := qW BK618 hb; replace HB := qH hb; (try clear hb)) | (go_at_call 12; (with_reducible refine (span_Meet.calls 1 3 3 3 t620 _ A4.out).mono ?_); rintro e w8 ⟨rfl, hb⟩; replace BK618 := qW BK618 hb; replace HB := qH hb; (try clear hb))); try go_wp2_with (first | ((with_reducible refine gate_dst (N := 1) rfl ?_); (try (refine gate_guard (by rfl) ?_; dsimp only)); refine box_event (by rfl) (N := 1) (by rfl) (cs := #[.string a0_0, .int .i64 a0_1, .int .i64 a0_2, .slice A0_3 l0_3.length c0_3]) (t := 24) ?hr ?_; (case hr => go_simp <;> rfl); intro gb618 hg w5 hbox hb; have BK618 := zA (hbox); have GW618 := qG hg; have GE618 := GW618; replace HB := qH hb; clear hb hbox hg; have z6_0 := bk4 BK618.out) | (go_at_call 11; (with_reducible refine (cubbylaw12_heavy.calls k a0_0 a0_1 a0_2 _ _ l0_3 true _ ?side1 ?side2 A2.out).mono ?_); (case side1 => exact qCB HR0_3.out); (case side2 => exact HC0_3.out); rintro e w7 ⟨rfl, hb⟩; replace BK618 := qW BK618 hb; replace HB := qH hb; (try clear hb)) | (go_at_call 12; (with_reducible refine (span_Meet.calls 1 3 3 3 t620 _ A4.out).mono ?_); rintro e w8 ⟨rfl, hb⟩; replace BK618 := qW BK618 hb; replace HB := qH hb; (try clear hb))))
  go_ret
  exact ⟨qE, qB⟩
 ·replace c3 := Bool.eq_false_iff.mpr c3
  subst c3
  have H1 : ((span_Places.f k a0_0 a0_1 a0_2 l0_3).bind fun t621 => ((cubbyref12_Places.f k a0_0 a0_1 a0_2 l0_3).bind fun t624 => ((span_Spans.f k a0_0 a0_1 a0_2 l0_3).bind fun t627 => ((cubbyref12_Spans.f k a0_0 a0_1 a0_2 l0_3).bind fun t630 => ((span_Crosses.f k a0_0 a0_1 a0_2 l0_3).bind fun t633 => ((cubbyref12_Crosses.f k a0_0 a0_1 a0_2 l0_3).bind fun t636 => (if (t621.length : Int) = (t624.length : Int) then (if (t627.length : Int) = (t630.length : Int) then (cubbylaw12_SpanSpans.j0 k t621 t624 t627 t630 t633 t636 ((t633.length : Int) != (t636.length : Int))) else (cubbylaw12_SpanSpans.j0 k t621 t624 t627 t630 t633 t636 true)) else (cubbylaw12_SpanSpans.j0 k t621 t624 t627 t630 t633 t636 true)))))))) = some r := by rw [zD (show ¬ (false = true) by decide)] at H; exact H
  clear H
  have H := H1
  clear H1
  replace H := qb H; obtain ⟨t621, A9, H⟩ := H
  replace H := qb H; obtain ⟨t624, A10, H⟩ := H
  replace H := qb H; obtain ⟨t627, A11, H⟩ := H
  replace H := qb H; obtain ⟨t630, A12, H⟩ := H
  replace H := qb H; obtain ⟨t633, A13, H⟩ := H
  replace H := qb H; obtain ⟨t636, A14, H⟩ := H
  have HC15 := zA H
  clear H
  go_enter Tryd.func5, Tryd.ntmps5
  go_upto_region 9 with (first | ((with_reducible refine gate_dst (N := 1) rfl ?_); (try (refine gate_guard (by rfl) ?_; dsimp only)); refine box_event (by rfl) (N := 1) (by rfl) (cs := #[.string a0_0, .int .i64 a0_1, .int .i64 a0_2, .slice A0_3 l0_3.length c0_3]) (t := 24) ?hr ?_; (case hr => go_simp <;> rfl); intro gb618 hg w16 hbox hb; have BK618 := zA (hbox); have GW618 := qG hg; have GE618 := GW618; replace HB := qH hb; clear hb hbox hg; have z17_0 := bk4 BK618.out) | (go_at_call 11; (with_reducible refine (cubbylaw12_heavy.calls k a0_0 a0_1 a0_2 _ _ l0_3 false _ ?side1 ?side2 A2.out).mono ?_); (case side1 => exact qCB HR0_3.out); (case side2 => exact HC0_3.out); rintro e w18 ⟨rfl, hb⟩; replace BK618 := qW BK618 hb; replace HB := qH hb; (try clear hb); have z19_0 := bk4 BK618.out) | (go_at_call 13; (with_reducible refine (span_Places.calls k a0_0 a0_1 a0_2 _ _ l0_3 t621 _ ?side1 ?side2 A9.out (hL := ?side99)).mono ?_); (case side1 => exact qCB HR0_3.out); (case side2 => exact HC0_3.out); (case side99 => exact LaidW.below HLd.out qB); rintro e w20 ⟨v622, rfl, ho0, hb⟩; have HO623 := zA (Kd.S_lower ho0 (below_size qB)); replace BK618 := qW BK618 hb; replace HB := qH hb; (try clear hb); (try clear ho0); have z21_0 := bk4 BK618.out) | (go_at_call 15; (with_reducible refine (cubbyref12_Places.calls k a0_0 a0_1 a0_2 _ _ l0_3 t624 _ ?side1 ?side2 A10.out).mono ?_); (case side1 => exact qCB HR0_3.out); (case side2 => exact HC0_3.out); rintro e w22 ⟨v625, rfl, ho0, hb⟩; have HO626 := zA (Kd.S_lower (Kd.S_new' ho0 (Kd.S_lt (qS HO623.out))) (below_size qB)); replace HO623 := zA (Kd.S_elder' (qS HO623.out) (Kd.S_base ho0) hb); replace BK618 := qW BK618 hb; replace HB := qH hb; (try clear hb); (try clear ho0); have z23_0 := bk4 BK618.out) | (go_at_call 14; (with_reducible refine (span_Spans.calls k a0_0 a0_1 a0_2 _ _ l0_3 t627 _ ?side1 ?side2 A11.out (hL := ?side99)).mono ?_); (case side1 => exact qCB HR0_3.out); (case side2 => exact HC0_3.out); (case side99 => exact LaidW.below HLd.out qB); rintro e w24 ⟨v628, rfl, ho0, hb⟩; replace HO623 := zA (Kd.S_below (qS HO623.out) hb); replace HO626 := zA (Kd.S_below (qS HO626.out) hb); have HO629 := zA (Kd.R_lower ho0 (below_size qB)); replace BK618 := qW BK618 hb; replace HB := qH hb; (try clear hb); (try clear ho0); have z25_0 := bk4 BK618.out) | (go_at_call 21; (with_reducible refine (cubbyref12_Spans.calls k a0_0 a0_1 a0_2 _ _ l0_3 t630 _ ?side1 ?side2 A12.out).mono ?_); (case side1 => exact qCB HR0_3.out); (case side2 => exact HC0_3.out); rintro e w26 ⟨v631, rfl, ho0, hb⟩; replace HO623 := zA (Kd.S_below (qS HO623.out) hb); replace HO626 := zA (Kd.S_below (qS HO626.out) hb); have HO632 := zA (Kd.R_lower (Kd.R_new' ho0 (Kd.R_lt (qR HO629.out))) (below_size qB)); replace HO629 := zA (Kd.R_elder' (qR HO629.out) (Kd.R_base ho0) hb); replace BK618 := qW BK618 hb; replace HB := qH hb; (try clear hb); (try clear ho0); have z27_0 := bk4 BK618.out) | (go_at_call 22; (with_reducible refine (span_Crosses.calls k a0_0 a0_1 a0_2 _ _ l0_3 t633 _ ?side1 ?side2 A13.out (hL := ?side99)).mono ?_); (case side1 => exact qCB HR0_3.out); (case side2 => exact HC0_3.out); (case side99 => exact LaidW.below HLd.out qB); rintro e w28 ⟨v634, rfl, ho0, hb⟩; replace HO623 := zA (Kd.S_below (qS HO623.out) hb); replace HO626 := zA (Kd.S_below (qS HO626.out) hb); replace HO629 := zA (Kd.R_below (qR HO629.out) hb); replace HO632 := zA (Kd.R_below (qR HO632.out) hb); have HO635 := zA (Kd.R_lower ho0 (below_size qB)); replace BK618 := qW BK618 hb; replace HB := qH hb; (try clear hb); (try clear ho0); have z29_0 := bk4 BK618.out) | (go_at_call 23; (with_reducible refine (cubbyref12_Crosses.calls k a0_0 a0_1 a0_2 _ _ l0_3 t636 _ ?side1 ?side2 A14.out).mono ?_); (case side1 => exact qCB HR0_3.out); (case side2 => exact HC0_3.out); rintro e w30 ⟨v637, rfl, ho0, hb⟩; replace HO623 := zA (Kd.S_below (qS HO623.out) hb); replace HO626 := zA (Kd.S_below (qS HO626.out) hb); replace HO629 := zA (Kd.R_below (qR HO629.out) hb); replace HO632 := zA (Kd.R_below (qR HO632.out) hb); have HO638 := zA (Kd.R_lower (Kd.R_new' ho0 (Kd.R_lt (qR HO635.out))) (below_size qB)); replace HO635 := zA (Kd.R_elder' (qR HO635.out) (Kd.R_base ho0) hb); replace BK618 := qW BK618 hb; replace HB := qH hb; (try clear hb); (try clear ho0)))
  repeat (go_quiet (first | ((with_reducible refine gate_dst (N := 1) rfl ?_); (try (refine gate_guard (by rfl) ?_; dsimp only)); refine box_event (by rfl) (N := 1) (by rfl) (cs := #[.string a0_0, .int .i64 a0_1, .int .i64 a0_2, .slice A0_3 l0_3.length c0_3]) (t := 24) ?hr ?_; (case hr => go_simp <;> rfl); intro gb618 hg w16 hbox hb; have BK618 := zA (hbox); have GW618 := qG hg; have GE618 := GW618; replace HB := qH hb; clear hb hbox hg; have z17_0 := bk4 BK618.out) | (go_at_call 11; (with_reducible refine (cubbylaw12_heavy.calls k a0_0 a0_1 a0_2 _ _ l0_3 false _ ?side1 ?side2 A2.out).mono ?_); (case side1 => exact qCB HR0_3.out); (case side2 => exact HC0_3.out); rintro e w18 ⟨rfl, hb⟩; replace BK618 := qW BK618 hb; replace HB := qH hb; (try clear hb); have z19_0 := bk4 BK618.out) | (go_at_call 13; (with_reducible refine (span_Places.calls k a0_0 a0_1 a0_2 _ _ l0_3 t621 _ ?side1 ?side2 A9.out (hL := ?side99)).mono ?_); (case side1 => exact qCB HR0_3.out); (case side2 => exact HC0_3.out); (case side99 => exact LaidW.below HLd.out qB); rintro e w20 ⟨v622, rfl, ho0, hb⟩; have HO623 := zA (Kd.S_lower ho0 (below_size qB)); replace BK618 := qW BK618 hb; replace HB := qH hb; (try clear hb); (try clear ho0); have z21_0 := bk4 BK618.out) | (go_at_call 15; (with_reducible refine (cubbyref12_Places.calls k a0_0 a0_1 a0_2 _ _ l0_3 t624 _ ?side1 ?side2 A10.out).mono ?_); (case side1 => exact qCB HR0_3.out); (case side2 => exact HC0_3.out); rintro e w22 ⟨v625, rfl, ho0, hb⟩; have HO626 := zA (Kd.S_lower (Kd.S_new' ho0 (Kd.S_lt (qS HO623.out))) (below_size qB)); replace HO623 := zA (Kd.S_elder' (qS HO623.out) (Kd.S_base ho0) hb); replace BK618 := qW BK618 hb; replace HB := qH hb; (try clear hb); (try clear ho0); have z23_0 := bk4 BK618.out) | (go_at_call 14; (with_reducible refine (span_Spans.calls k a0_0 a0_1 a0_2 _ _ l0_3 t627 _ ?side1 ?side2 A11.out (hL := ?side99)).mono ?_); (case side1 => exact qCB HR0_3.out); (case side2 => exact HC0_3.out); (case side99 => exact LaidW.below HLd.out qB); rintro e w24 ⟨v628, rfl, ho0, hb⟩; replace HO623 := zA (Kd.S_below (qS HO623.out) hb); replace HO626 := zA (Kd.S_below (qS HO626.out) hb); have HO629 := zA (Kd.R_lower ho0 (below_size qB)); replace BK618 := qW BK618 hb; replace HB := qH hb; (try clear hb); (try clear ho0); have z25_0 := bk4 BK618.out) | (go_at_call 21; (with_reducible refine (cubbyref12_Spans.calls k a0_0 a0_1 a0_2 _ _ l0_3 t630 _ ?side1 ?side2 A12.out).mono ?_); (case side1 => exact qCB HR0_3.out); (case side2 => exact HC0_3.out); rintro e w26 ⟨v631, rfl, ho0, hb⟩; replace HO623 := zA (Kd.S_below (qS HO623.out) hb); replace HO626 := zA (Kd.S_below (qS HO626.out) hb); have HO632 := zA (Kd.R_lower (Kd.R_new' ho0 (Kd.R_lt (qR HO629.out))) (below_size qB)); replace HO629 := zA (Kd.R_elder' (qR HO629.out) (Kd.R_base ho0) hb); replace BK618 := qW BK618 hb; replace HB := qH hb; (try clear hb); (try clear ho0); have z27_0 := bk4 BK618.out) | (go_at_call 22; (with_reducible refine (span_Crosses.calls k a0_0 a0_1 a0_2 _ _ l0_3 t633 _ ?side1 ?side2 A13.out (hL := ?side99)).mono ?_); (case side1 => exact qCB HR0_3.out); (case side2 => exact HC0_3.out); (case side99 => exact LaidW.below HLd.out qB); rintro e w28 ⟨v634, rfl, ho0, hb⟩; replace HO623 := zA (Kd.S_below (qS HO623.out) hb); replace HO626 := zA (Kd.S_below (qS HO626.out) hb); replace HO629 := zA (Kd.R_below (qR HO629.out) hb); replace HO632 := zA (Kd.R_below (qR HO632.out) hb); have HO635 := zA (Kd.R_lower ho0 (below_size qB)); replace BK618 := qW BK618 hb; replace HB := qH hb; (try clear hb); (try clear ho0); have z29_0 := bk4 BK618.out) | (go_at_call 23; (with_reducible refine (cubbyref12_Crosses.calls k a0_0 a0_1 a0_2 _ _ l0_3 t636 _ ?side1 ?side2 A14.out).mono ?_); (case side1 => exact qCB HR0_3.out); (case side2 => exact HC0_3.out); rintro e w30 ⟨v637, rfl, ho0, hb⟩; replace HO623 := zA (Kd.S_below (qS HO623.out) hb); replace HO626 := zA (Kd.S_below (qS HO626.out) hb); replace HO629 := zA (Kd.R_below (qR HO629.out) hb); replace HO632 := zA (Kd.R_below (qR HO632.out) hb); have HO638 := zA (Kd.R_lower (Kd.R_new' ho0 (Kd.R_lt (qR HO635.out))) (below_size qB)); replace HO635 := zA (Kd.R_elder' (qR HO635.out) (Kd.R_base ho0) hb); replace BK618 := qW BK618 hb; replace HB := qH hb; (try clear hb); (try clear ho0))); go_upto_region 9 with (first | ((with_reducible refine gate_dst (N := 1) rfl ?_); (try (refine gate_guard (by rfl) ?_; dsimp only)); refine box_event (by rfl) (N := 1) (by rfl) (cs := #[.string a0_0, .int .i64 a0_1, .int .i64 a0_2, .slice A0_3 l0_3.length c0_3]) (t := 24) ?hr ?_; (case hr => go_simp <;> rfl); intro gb618 hg w16 hbox hb; have BK618 := zA (hbox); have GW618 := qG hg; have GE618 := GW618; replace HB := qH hb; clear hb hbox hg; have z17_0 := bk4 BK618.out) | (go_at_call 11; (with_reducible refine (cubbylaw12_heavy.calls k a0_0 a0_1 a0_2 _ _ l0_3 false _ ?side1 ?side2 A2.out).mono ?_); (case side1 => exact qCB HR0_3.out); (case side2 => exact HC0_3.out); rintro e w18 ⟨rfl, hb⟩; replace BK618 := qW BK618 hb; replace HB := qH hb; (try clear hb); have z19_0 := bk4 BK618.out) | (go_at_call 13; (with_reducible refine (span_Places.calls k a0_0 a0_1 a0_2 _ _ l0_3 t621 _ ?side1 ?side2 A9.out (hL := ?side99)).mono ?_); (case side1 => exact qCB HR0_3.out); (case side2 => exact HC0_3.out); (case side99 => exact LaidW.below HLd.out qB); rintro e w20 ⟨v622, rfl, ho0, hb⟩; have HO623 := zA (Kd.S_lower ho0 (below_size qB)); replace BK618 := qW BK618 hb; replace HB := qH hb; (try clear hb); (try clear ho0); have z21_0 := bk4 BK618.out) | (go_at_call 15; (with_reducible refine (cubbyref12_Places.calls k a0_0 a0_1 a0_2 _ _ l0_3 t624 _ ?side1 ?side2 A10.out).mono ?_); (case side1 => exact qCB HR0_3.out); (case side2 => exact HC0_3.out); rintro e w22 ⟨v625, rfl, ho0, hb⟩; have HO626 := zA (Kd.S_lower (Kd.S_new' ho0 (Kd.S_lt (qS HO623.out))) (below_size qB)); replace HO623 := zA (Kd.S_elder' (qS HO623.out) (Kd.S_base ho0) hb); replace BK618 := qW BK618 hb; replace HB := qH hb; (try clear hb); (try clear ho0); have z23_0 := bk4 BK618.out) | (go_at_call 14; (with_reducible refine (span_Spans.calls k a0_0 a0_1 a0_2 _ _ l0_3 t627 _ ?side1 ?side2 A11.out (hL := ?side99)).mono ?_); (case side1 => exact qCB HR0_3.out); (case side2 => exact HC0_3.out); (case side99 => exact LaidW.below HLd.out qB); rintro e w24 ⟨v628, rfl, ho0, hb⟩; replace HO623 := zA (Kd.S_below (qS HO623.out) hb); replace HO626 := zA (Kd.S_below (qS HO626.out) hb); have HO629 := zA (Kd.R_lower ho0 (below_size qB)); replace BK618 := qW BK618 hb; replace HB := qH hb; (try clear hb); (try clear ho0); have z25_0 := bk4 BK618.out) | (go_at_call 21; (with_reducible refine (cubbyref12_Spans.calls k a0_0 a0_1 a0_2 _ _ l0_3 t630 _ ?side1 ?side2 A12.out).mono ?_); (case side1 => exact qCB HR0_3.out); (case side2 => exact HC0_3.out); rintro e w26 ⟨v631, rfl, ho0, hb⟩; replace HO623 := zA (Kd.S_below (qS HO623.out) hb); replace HO626 := zA (Kd.S_below (qS HO626.out) hb); have HO632 := zA (Kd.R_lower (Kd.R_new' ho0 (Kd.R_lt (qR HO629.out))) (below_size qB)); replace HO629 := zA (Kd.R_elder' (qR HO629.out) (Kd.R_base ho0) hb); replace BK618 := qW BK618 hb; replace HB := qH hb; (try clear hb); (try clear ho0); have z27_0 := bk4 BK618.out) | (go_at_call 22; (with_reducible refine (span_Crosses.calls k a0_0 a0_1 a0_2 _ _ l0_3 t633 _ ?side1 ?side2 A13.out (hL := ?side99)).mono ?_); (case side1 => exact qCB HR0_3.out); (case side2 => exact HC0_3.out); (case side99 => exact LaidW.below HLd.out qB); rintro e w28 ⟨v634, rfl, ho0, hb⟩; replace HO623 := zA (Kd.S_below (qS HO623.out) hb); replace HO626 := zA (Kd.S_below (qS HO626.out) hb); replace HO629 := zA (Kd.R_below (qR HO629.out) hb); replace HO632 := zA (Kd.R_below (qR HO632.out) hb); have HO635 := zA (Kd.R_lower ho0 (below_size qB)); replace BK618 := qW BK618 hb; replace HB := qH hb; (try clear hb); (try clear ho0); have z29_0 := bk4 BK618.out) | (go_at_call 23; (with_reducible refine (cubbyref12_Crosses.calls k a0_0 a0_1 a0_2 _ _ l0_3 t636 _ ?side1 ?side2 A14.out).mono ?_); (case side1 => exact qCB HR0_3.out); (case side2 => exact HC0_3.out); rintro e w30 ⟨v637, rfl, ho0, hb⟩; replace HO623 := zA (Kd.S_below (qS HO623.out) hb); replace HO626 := zA (Kd.S_below (qS HO626.out) hb); replace HO629 := zA (Kd.R_below (qR HO629.out) hb); replace HO632 := zA (Kd.R_below (qR HO632.out) hb); have HO638 := zA (Kd.R_lower (Kd.R_new' ho0 (Kd.R_lt (qR HO635.out))) (below_size qB)); replace HO635 := zA (Kd.R_elder' (qR HO635.out) (Kd.R_base ho0) hb); replace BK618 := qW BK618 hb; replace HB := qH hb; (try clear hb); (try clear ho0))))
  (try simp only [Act.put, List.setIfInBounds_toArray, List.set_cons_zero, List.set_cons_succ])
  go_cut [46] (fun v46 wc => ∃ (kq : Nat) (x46_14 : Bool), v46 = .bool x46_14 ∧ Aside0 (cubbylaw12_SpanSpans.j0 kq t621 t624 t627 t630 t633 t636 x46_14 = some r) ∧ Aside0 (kq ≤ k) ∧ Aside0 (Kd.S (Kd.slice 3 (Kd.int .i64)) 35 wc w.heap.size (fun k_ => some k_ ≠ (v625 : Value).ownBlock) v622 t621) ∧ Aside0 (Kd.S (Kd.slice 3 (Kd.int .i64)) 35 wc w.heap.size (fun k_ => some k_ ≠ (v622 : Value).ownBlock) v625 t624) ∧ Aside0 (Kd.R kSpan 28 wc w.heap.size (fun k_ => some k_ ≠ (v631 : Value).ownBlock) v628 t627) ∧ Aside0 (Kd.R kSpan 28 wc w.heap.size (fun k_ => some k_ ≠ (v628 : Value).ownBlock) v631 t630) ∧ Aside0 (Kd.R Kd.bool 4 wc w.heap.size (fun k_ => some k_ ≠ (v637 : Value).ownBlock) v634 t633) ∧ Aside0 (Kd.R Kd.bool 4 wc w.heap.size (fun k_ => some k_ ≠ (v634 : Value).ownBlock) v637 t636) ∧ Aside0 (wc.heap[gb618]? = some (.cells #[.string a0_0, .int .i64 a0_1, .int .i64 a0_2, (.slice A0_3 l0_3.length c0_3)] 24 (0, 0))) ∧ Aside0 (Below w.heap.size w wc))
  case first =>
   have H := HC15.out
   clear HC15
   by_cases c31 : (t621.length : Int) = (t624.length : Int)
   ·rw [zC c31] at H
    obtain ⟨c31b0, c31b1⟩ := qe c31
    have c31b2 : (t621.length == t624.length) = true := by first | simpa using c31 | (simp at c31 ⊢; omega)
    clear c31
    (first | rw [c31b0] | (simp only [i64_w, i32_w]; rw [c31b0]) | skip)
    by_cases c32 : (t627.length : Int) = (t630.length : Int)
    ·rw [zC c32] at H
     obtain ⟨c32b0, c32b1⟩ := qe c32
     have c32b2 : (t627.length == t630.length) = true := by first | simpa using c32 | (simp at c32 ⊢; omega)
     clear c32
     have H' := zA H
     clear H
     obtain ⟨Ao33, co33, eo33⟩ := Kd.S_slice HO623.out
     subst eo33
     obtain ⟨Ao34, co34, eo34⟩ := Kd.S_slice HO626.out
     subst eo34
     obtain ⟨Ao35, co35, eo35⟩ := Kd.R_slice HO629.out
     subst eo35
     obtain ⟨Ao36, co36, eo36⟩ := Kd.R_slice HO632.out
     subst eo36
     obtain ⟨Ao37, co37, eo37⟩ := Kd.R_slice HO635.out
     subst eo37
     obtain ⟨Ao38, co38, eo38⟩ := Kd.R_slice HO638.out
     subst eo38
     go_wp2
     repeat (go_quiet (fail); try go_wp2)
     go_meet
     case rel => exact ⟨_, (((t633.length : Int) != (t636.length : Int))), qT, H', ⟨qO⟩, ⟨by (with_reducible repeat (first | apply Kd.S_alloc | apply Kd.S_drewN | apply Kd.S_drew)); exact Kd.S_mono HO623.out (fun _ hk => hk.2)⟩, ⟨by (with_reducible repeat (first | apply Kd.S_alloc | apply Kd.S_drewN | apply Kd.S_drew)); exact Kd.S_mono HO626.out (fun _ hk => hk.2)⟩, ⟨by (with_reducible repeat (first | apply Kd.R_alloc | apply Kd.R_drewN | apply Kd.R_drew)); exact Kd.R_mono HO629.out (fun _ hk => hk.2)⟩, ⟨by (with_reducible repeat (first | apply Kd.R_alloc | apply Kd.R_drewN | apply Kd.R_drew)); exact Kd.R_mono HO632.out (fun _ hk => hk.2)⟩, ⟨by (with_reducible repeat (first | apply Kd.R_alloc | apply Kd.R_drewN | apply Kd.R_drew)); exact Kd.R_mono HO635.out (fun _ hk => hk.2)⟩, ⟨by (with_reducible repeat (first | apply Kd.R_alloc | apply Kd.R_drewN | apply Kd.R_drew)); exact Kd.R_mono HO638.out (fun _ hk => hk.2)⟩, ⟨qK BK618.out⟩, ⟨qB⟩⟩
    ·rw [zD c32] at H
     obtain ⟨c32b0, c32b1⟩ := qn c32
     have c32b2 : (t627.length == t630.length) = false := by first | simpa using c32 | (simp at c32 ⊢; omega)
     have H' := zA H
     clear H
     obtain ⟨Ao39, co39, eo39⟩ := Kd.S_slice HO623.out
     subst eo39
     obtain ⟨Ao40, co40, eo40⟩ := Kd.S_slice HO626.out
     subst eo40
     obtain ⟨Ao41, co41, eo41⟩ := Kd.R_slice HO629.out
     subst eo41
     obtain ⟨Ao42, co42, eo42⟩ := Kd.R_slice HO632.out
     subst eo42
     go_wp2
     repeat (go_quiet (fail); try go_wp2)
     go_meet
     case rel => exact ⟨_, (true), qT, H', ⟨qO⟩, ⟨by (with_reducible repeat (first | apply Kd.S_alloc | apply Kd.S_drewN | apply Kd.S_drew)); exact Kd.S_mono HO623.out (fun _ hk => hk.2)⟩, ⟨by (with_reducible repeat (first | apply Kd.S_alloc | apply Kd.S_drewN | apply Kd.S_drew)); exact Kd.S_mono HO626.out (fun _ hk => hk.2)⟩, ⟨by (with_reducible repeat (first | apply Kd.R_alloc | apply Kd.R_drewN | apply Kd.R_drew)); exact Kd.R_mono HO629.out (fun _ hk => hk.2)⟩, ⟨by (with_reducible repeat (first | apply Kd.R_alloc | apply Kd.R_drewN | apply Kd.R_drew)); exact Kd.R_mono HO632.out (fun _ hk => hk.2)⟩, ⟨by (with_reducible repeat (first | apply Kd.R_alloc | apply Kd.R_drewN | apply Kd.R_drew)); exact Kd.R_mono HO635.out (fun _ hk => hk.2)⟩, ⟨by (with_reducible repeat (first | apply Kd.R_alloc | apply Kd.R_drewN | apply Kd.R_drew)); exact Kd.R_mono HO638.out (fun _ hk => hk.2)⟩, ⟨qK BK618.out⟩, ⟨qB⟩⟩
   ·rw [zD c31] at H
    obtain ⟨c31b0, c31b1⟩ := qn c31
    have c31b2 : (t621.length == t624.length) = false := by first | simpa using c31 | (simp at c31 ⊢; omega)
    (first | rw [c31b0] | (simp only [i64_w, i32_w]; rw [c31b0]) | skip)
    have H' := zA H
    clear H
    obtain ⟨Ao43, co43, eo43⟩ := Kd.S_slice HO623.out
    subst eo43
    obtain ⟨Ao44, co44, eo44⟩ := Kd.S_slice HO626.out
    subst eo44
    go_wp2
    repeat (go_quiet (fail); try go_wp2)
    go_meet
    case rel => exact ⟨_, (true), qT, H', ⟨qO⟩, ⟨by (with_reducible repeat (first | apply Kd.S_alloc | apply Kd.S_drewN | apply Kd.S_drew)); exact Kd.S_mono HO623.out (fun _ hk => hk.2)⟩, ⟨by (with_reducible repeat (first | apply Kd.S_alloc | apply Kd.S_drewN | apply Kd.S_drew)); exact Kd.S_mono HO626.out (fun _ hk => hk.2)⟩, ⟨by (with_reducible repeat (first | apply Kd.R_alloc | apply Kd.R_drewN | apply Kd.R_drew)); exact Kd.R_mono HO629.out (fun _ hk => hk.2)⟩, ⟨by (with_reducible repeat (first | apply Kd.R_alloc | apply Kd.R_drewN | apply Kd.R_drew)); exact Kd.R_mono HO632.out (fun _ hk => hk.2)⟩, ⟨by (with_reducible repeat (first | apply Kd.R_alloc | apply Kd.R_drewN | apply Kd.R_drew)); exact Kd.R_mono HO635.out (fun _ hk => hk.2)⟩, ⟨by (with_reducible repeat (first | apply Kd.R_alloc | apply Kd.R_drewN | apply Kd.R_drew)); exact Kd.R_mono HO638.out (fun _ hk => hk.2)⟩, ⟨qK BK618.out⟩, ⟨qB⟩⟩
  case rest =>
   clear HC15
   obtain ⟨kq, x46_14, rfl, HA, HJ14, HO_3, HO_4, HO_5, HO_6, HO_7, HO_8, BK618, HB⟩ := hcut
   cases kq with
   | zero => exact absurd HA.out (by simp [cubbylaw12_SpanSpans.j0])
   | succ kj14 =>
    have H := HA.out
    clear HA
    simp only [cubbylaw12_SpanSpans.j0] at H
    by_cases c45 : x46_14 = true
    ·subst c45
     have H1 : (some false) = some r := by rw [zC rfl] at H; exact H
     clear H
     have H := H1
     clear H1
     exact absurd ((zI H).trans HRt.out) (by decide)
    ·replace c45 := Bool.eq_false_iff.mpr c45
     subst c45
     have H1 : (cubbylaw12_SpanSpans.l0 kj14 t621 t624 t627 t630 t633 t636 0) = some r := by rw [zD (show ¬ (false = true) by decide)] at H; exact H
     clear H
     have H := H1
     clear H1
     have H' := zA H
     clear H
     go_wp2
     repeat (go_quiet (fail); try go_wp2)
     go_loopg [9] kj14 (fun kq v9 w' => ∃ (x9_2 : Int), v9 = .int .i64 x9_2 ∧ Aside0 (cubbylaw12_SpanSpans.l0 kq t621 t624 t627 t630 t633 t636 x9_2 = some r) ∧ Aside0 (kq ≤ kj14) ∧ Aside0 (Kd.S (Kd.slice 3 (Kd.int .i64)) 35 w' w.heap.size (fun k_ => some k_ ≠ (v625 : Value).ownBlock) v622 t621) ∧ Aside0 (Kd.S (Kd.slice 3 (Kd.int .i64)) 35 w' w.heap.size (fun k_ => some k_ ≠ (v622 : Value).ownBlock) v625 t624) ∧ Aside0 (Kd.R kSpan 28 w' w.heap.size (fun k_ => some k_ ≠ (v631 : Value).ownBlock) v628 t627) ∧ Aside0 (Kd.R kSpan 28 w' w.heap.size (fun k_ => some k_ ≠ (v628 : Value).ownBlock) v631 t630) ∧ Aside0 (Kd.R Kd.bool 4 w' w.heap.size (fun k_ => some k_ ≠ (v637 : Value).ownBlock) v634 t633) ∧ Aside0 (Kd.R Kd.bool 4 w' w.heap.size (fun k_ => some k_ ≠ (v634 : Value).ownBlock) v637 t636) ∧ Aside0 (w'.heap[gb618]? = some (.cells #[.string a0_0, .int .i64 a0_1, .int .i64 a0_2, (.slice A0_3 l0_3.length c0_3)] 24 (0, 0))) ∧ Aside0 (Below w.heap.size w w'))
     case atStart => exact ⟨(0), qT, H', ⟨Nat.le_refl _⟩, ⟨qS HO_3.out⟩, ⟨qS HO_4.out⟩, ⟨qR HO_5.out⟩, ⟨qR HO_6.out⟩, ⟨qR HO_7.out⟩, ⟨qR HO_8.out⟩, ⟨qK BK618.out⟩, ⟨qB⟩⟩
     case round =>
      clear H'
      obtain ⟨x9_2, rfl, HA, HK2, HO_3, HO_4, HO_5, HO_6, HO_7, HO_8, BK618, HB⟩ := hrel
      cases gk with
      | zero => exact absurd HA.out (by simp [cubbylaw12_SpanSpans.l0])
      | succ k2 =>
       have H := HA.out
       clear HA
       simp only [cubbylaw12_SpanSpans.l0] at H
       by_cases c46 : x9_2 < (t621.length : Int)
       ·rw [zC c46] at H
        have c46b0 := zF c46
        clear c46
        by_cases c47 : 0 ≤ x9_2
        ·rw [zC c47] at H
         have c47b0 := zF c47
         clear c47
         by_cases c48 : x9_2 < (t624.length : Int)
         ·rw [zC c48] at H
          have c48b0 := zF c48
          clear c48
          replace H := qb H; obtain ⟨t641, A49, H⟩ := H
          by_cases c50 : t641 = true
          ·subst c50
           have H1 : (cubbylaw12_SpanSpans.l0 k2 t621 t624 t627 t630 t633 t636 (wrap64 (x9_2 + 1))) = some r := by rw [zC rfl] at H; exact H
           clear H
           have H := H1
           clear H1
           have H' := zA H
           clear H
           obtain ⟨Ao51, co51, eo51⟩ := Kd.S_slice HO_3.out
           subst eo51
           have p639 : 0 ≤ (x9_2 : Int) := zB qA
           have q639 : x9_2 < (t621.length : Int) := zB qA
           obtain ⟨ad639, A639_0, c639_0, e639, hx639_0, hl639_0, hi639_0⟩ := at_LInt (Kd.S_reads' HO_3.out).2.2 x9_2 p639 q639
           cases e639
           obtain ⟨ce639, hce639, hMe639, hcc639⟩ := Kd.S_get HO_3.out [] x9_2 p639 (by first | exact q639 | exact zB qA | (have e_ := (Kd.S_reads' HO_3.out).1; omega))
           obtain ⟨ve639_0, rfl, ge639_0⟩ := hMe639
           have hv639_0 := hcc639 0 _ rfl
           rw [Nat.add_zero, show ((Kd.slice 3 (Kd.int .i64))).sz = 1 from rfl, Nat.mul_one] at hv639_0
           replace hv639_0 := zI (hv639_0.symm.trans hx639_0)
           rw [hv639_0] at ge639_0
           have HL639_0 := zA (show Kd.R (Kd.int .i64) 3 _ _ _ _ (rd_LInt t621 x9_2) from ge639_0)
           clear hv639_0 ge639_0
           clear hcc639 hce639
           have HR639_0 := zA hi639_0
           have HC639_0 := zA hl639_0
           clear hi639_0 hl639_0
           replace p639 := eq_true p639
           replace q639 := eq_true q639
           obtain ⟨Ao52, co52, eo52⟩ := Kd.S_slice HO_4.out
           subst eo52
           have p640 : 0 ≤ (x9_2 : Int) := zB qA
           have q640 : x9_2 < (t624.length : Int) := zB qA
           obtain ⟨ad640, A640_0, c640_0, e640, hx640_0, hl640_0, hi640_0⟩ := at_LInt (Kd.S_reads' HO_4.out).2.2 x9_2 p640 q640
           cases e640
           obtain ⟨ce640, hce640, hMe640, hcc640⟩ := Kd.S_get HO_4.out [] x9_2 p640 (by first | exact q640 | exact zB qA | (have e_ := (Kd.S_reads' HO_4.out).1; omega))
           obtain ⟨ve640_0, rfl, ge640_0⟩ := hMe640
           have hv640_0 := hcc640 0 _ rfl
           rw [Nat.add_zero, show ((Kd.slice 3 (Kd.int .i64))).sz = 1 from rfl, Nat.mul_one] at hv640_0
           replace hv640_0 := zI (hv640_0.symm.trans hx640_0)
           rw [hv640_0] at ge640_0
           have HL640_0 := zA (show Kd.R (Kd.int .i64) 3 _ _ _ _ (rd_LInt t624 x9_2) from ge640_0)
           clear hv640_0 ge640_0
           clear hcc640 hce640
           have HR640_0 := zA hi640_0
           have HC640_0 := zA hl640_0
           clear hi640_0 hl640_0
           replace p640 := eq_true p640
           replace q640 := eq_true q640
           go_wp2_with (first | (go_at_call 16; (with_reducible refine (cubbyref10_Ints.calls k2 _ _ (rd_LInt t621 x9_2) _ _ (rd_LInt t624 x9_2) true _ ?side1 ?side2 ?side3 ?side4 A49.out).mono ?_); (case side1 => repeat (first | exact (by repeat (first | (with_reducible exact HR639_0.out) | (with_reducible refine Kd.C_alloc ?_ _) | (with_reducible refine Kd.C_drewN ?_ _) | (with_reducible refine Kd.C_drew ?_) | exact HR639_0.out)) | (with_reducible refine Kd.C_alloc ?_ _) | (with_reducible refine Kd.C_drewN ?_ _) | (with_reducible refine Kd.C_drew ?_))); (case side2 => exact HC639_0.out); (case side3 => repeat (first | exact (by repeat (first | (with_reducible exact HR640_0.out) | (with_reducible refine Kd.C_alloc ?_ _) | (with_reducible refine Kd.C_drewN ?_ _) | (with_reducible refine Kd.C_drew ?_) | exact HR640_0.out)) | (with_reducible refine Kd.C_alloc ?_ _) | (with_reducible refine Kd.C_drewN ?_ _) | (with_reducible refine Kd.C_drew ?_))); (case side4 => exact HC640_0.out); rintro e w' ⟨rfl, ⟨nd, rfl⟩⟩; (try first | exact ⟨rfl, _, World.drewN_drewN _ _ _⟩ | exact ⟨rfl, _, Eq.trans (World.drewN_drewN _ _ _) (congrArg (World.drewN _) (Nat.add_assoc _ _ _))⟩)))
           repeat (go_quiet (first | (go_at_call 16; (with_reducible refine (cubbyref10_Ints.calls k2 _ _ (rd_LInt t621 x9_2) _ _ (rd_LInt t624 x9_2) true _ ?side1 ?side2 ?side3 ?side4 A49.out).mono ?_); (case side1 => repeat (first | exact (by repeat (first | (with_reducible exact HR639_0.out) | (with_reducible refine Kd.C_alloc ?_ _) | (with_reducible refine Kd.C_drewN ?_ _) | (with_reducible refine Kd.C_drew ?_) | exact HR639_0.out)) | (with_reducible refine Kd.C_alloc ?_ _) | (with_reducible refine Kd.C_drewN ?_ _) | (with_reducible refine Kd.C_drew ?_))); (case side2 => exact HC639_0.out); (case side3 => repeat (first | exact (by repeat (first | (with_reducible exact HR640_0.out) | (with_reducible refine Kd.C_alloc ?_ _) | (with_reducible refine Kd.C_drewN ?_ _) | (with_reducible refine Kd.C_drew ?_) | exact HR640_0.out)) | (with_reducible refine Kd.C_alloc ?_ _) | (with_reducible refine Kd.C_drewN ?_ _) | (with_reducible refine Kd.C_drew ?_))); (case side4 => exact HC640_0.out); rintro e w' ⟨rfl, ⟨nd, rfl⟩⟩; (try first | exact ⟨rfl, _, World.drewN_drewN _ _ _⟩ | exact ⟨rfl, _, Eq.trans (World.drewN_drewN _ _ _) (congrArg (World.drewN _) (Nat.add_assoc _ _ _))⟩))); try go_wp2_with (first | (go_at_call 16; (with_reducible refine (cubbyref10_Ints.calls k2 _ _ (rd_LInt t621 x9_2) _ _ (rd_LInt t624 x9_2) true _ ?side1 ?side2 ?side3 ?side4 A49.out).mono ?_); (case side1 => repeat (first | exact (by repeat (first | (with_reducible exact HR639_0.out) | (with_reducible refine Kd.C_alloc ?_ _) | (with_reducible refine Kd.C_drewN ?_ _) | (with_reducible refine Kd.C_drew ?_) | exact HR639_0.out)) | (with_reducible refine Kd.C_alloc ?_ _) | (with_reducible refine Kd.C_drewN ?_ _) | (with_reducible refine Kd.C_drew ?_))); (case side2 => exact HC639_0.out); (case side3 => repeat (first | exact (by repeat (first | (with_reducible exact HR640_0.out) | (with_reducible refine Kd.C_alloc ?_ _) | (with_reducible refine Kd.C_drewN ?_ _) | (with_reducible refine Kd.C_drew ?_) | exact HR640_0.out)) | (with_reducible refine Kd.C_alloc ?_ _) | (with_reducible refine Kd.C_drewN ?_ _) | (with_reducible refine Kd.C_drew ?_))); (case side4 => exact HC640_0.out); rintro e w' ⟨rfl, ⟨nd, rfl⟩⟩; (try first | exact ⟨rfl, _, World.drewN_drewN _ _ _⟩ | exact ⟨rfl, _, Eq.trans (World.drewN_drewN _ _ _) (congrArg (World.drewN _) (Nat.add_assoc _ _ _))⟩))))
           go_roundg k2
           case measure => have := HJ14.out; have := HK2.out; omega
           case rel => exact ⟨(wrap64 (x9_2 + 1)), qT, H', ⟨by have := HJ14.out; have := HK2.out; omega⟩, ⟨qS HO_3.out⟩, ⟨qS HO_4.out⟩, ⟨qR HO_5.out⟩, ⟨qR HO_6.out⟩, ⟨qR HO_7.out⟩, ⟨qR HO_8.out⟩, ⟨qK BK618.out⟩, ⟨qB⟩⟩
          ·replace c50 := Bool.eq_false_iff.mpr c50
           subst c50
           have H1 : (some false) = some r := by rw [zD (show ¬ (false = true) by decide)] at H; exact H
           clear H
           have H := H1
           clear H1
           exact absurd ((zI H).trans HRt.out) (by decide)
         ·rw [zD c48] at H
          exact absurd H (by simp)
        ·rw [zD c47] at H
         exact absurd H (by simp)
       ·rw [zD c46] at H
        have c46b0 := zG c46
        clear c46
        have H' := zA H
        clear H
        obtain ⟨Ao53, co53, eo53⟩ := Kd.S_slice HO_3.out
        subst eo53
        go_wp2
        repeat (go_quiet (fail); try go_wp2)
        go_loopg [10] k2 (fun kq v10 w' => ∃ (x10_3 : Int), v10 = .int .i64 x10_3 ∧ Aside0 (cubbylaw12_SpanSpans.l1 kq t627 t630 t633 t636 x10_3 = some r) ∧ Aside0 (kq ≤ k2) ∧ Aside0 (Kd.R kSpan 28 w' w.heap.size (fun k_ => some k_ ≠ (v631 : Value).ownBlock) v628 t627) ∧ Aside0 (Kd.R kSpan 28 w' w.heap.size (fun k_ => some k_ ≠ (v628 : Value).ownBlock) v631 t630) ∧ Aside0 (Kd.R Kd.bool 4 w' w.heap.size (fun k_ => some k_ ≠ (v637 : Value).ownBlock) v634 t633) ∧ Aside0 (Kd.R Kd.bool 4 w' w.heap.size (fun k_ => some k_ ≠ (v634 : Value).ownBlock) v637 t636) ∧ Aside0 (w'.heap[gb618]? = some (.cells #[.string a0_0, .int .i64 a0_1, .int .i64 a0_2, (.slice A0_3 l0_3.length c0_3)] 24 (0, 0))) ∧ Aside0 (Below w.heap.size w w'))
        case atStart => exact ⟨(0), qT, H', ⟨Nat.le_refl _⟩, ⟨qR HO_5.out⟩, ⟨qR HO_6.out⟩, ⟨qR HO_7.out⟩, ⟨qR HO_8.out⟩, ⟨qK BK618.out⟩, ⟨qB⟩⟩
        case round =>
         clear H'
         obtain ⟨x10_3, rfl, HA, HK3, HO_5, HO_6, HO_7, HO_8, BK618, HB⟩ := hrel
         cases gk with
         | zero => exact absurd HA.out (by simp [cubbylaw12_SpanSpans.l1])
         | succ k3 =>
          have H := HA.out
          clear HA
          simp only [cubbylaw12_SpanSpans.l1] at H
          by_cases c54 : x10_3 < (t627.length : Int)
          ·rw [zC c54] at H
           have c54b0 := zF c54
           clear c54
           by_cases c55 : 0 ≤ x10_3
           ·rw [zC c55] at H
            have c55b0 := zF c55
            clear c55
            by_cases c56 : x10_3 < (t630.length : Int)
            ·rw [zC c56] at H
             have c56b0 := zF c56
             clear c56
             by_cases c57 : (!(((rd_TSpan t627 x10_3).f0) == ((rd_TSpan t630 x10_3).f0)) || (!(((rd_TSpan t627 x10_3).f1) == ((rd_TSpan t630 x10_3).f1)))) = true
             ·rw [zC c57] at H
              have c57b0 : (!(((rd_TSpan t627 x10_3).f0) == ((rd_TSpan t630 x10_3).f0)) || (!(((rd_TSpan t627 x10_3).f1) == ((rd_TSpan t630 x10_3).f1)))) = true := c57
              clear c57
              exact absurd ((zI H).trans HRt.out) (by decide)
             ·rw [zD c57] at H
              have c57b0 : (!(((rd_TSpan t627 x10_3).f0) == ((rd_TSpan t630 x10_3).f0)) || (!(((rd_TSpan t627 x10_3).f1) == ((rd_TSpan t630 x10_3).f1)))) = false := by simpa using c57
              clear c57
              by_cases c58 : x10_3 < (t633.length : Int)
              ·rw [zC c58] at H
               have c58b0 := zF c58
               clear c58
               by_cases c59 : x10_3 < (t636.length : Int)
               ·rw [zC c59] at H
                have c59b0 := zF c59
                clear c59
                by_cases c60 : ((rdOf false t633 x10_3) != (rdOf false t636 x10_3)) = true
                ·rw [zC c60] at H
                 have c60b0 : ((rdOf false t633 x10_3) != (rdOf false t636 x10_3)) = true := c60
                 (try (have c60b1 : decide ((rdOf false t633 x10_3) = (rdOf false t636 x10_3)) = false := by simpa using c60))
                 (try (have c60b2 : ((rdOf false t633 x10_3) == (rdOf false t636 x10_3)) = false := by simpa using c60))
                 (try (have c60b3 : ¬ ((rdOf false t633 x10_3) = (rdOf false t636 x10_3)) := by simpa using c60))
                 clear c60
                 exact absurd ((zI H).trans HRt.out) (by decide)
                ·rw [zD c60] at H
                 have c60b0 : ((rdOf false t633 x10_3) != (rdOf false t636 x10_3)) = false := by simpa using c60
                 (try (have c60b1 : decide ((rdOf false t633 x10_3) = (rdOf false t636 x10_3)) = true := by simpa using c60))
                 (try (have c60b2 : ((rdOf false t633 x10_3) == (rdOf false t636 x10_3)) = true := by simpa using c60))
                 clear c60
                 have H' := zA H
                 clear H
                 obtain ⟨Ao61, co61, eo61⟩ := Kd.R_slice HO_5.out
                 subst eo61
                 have p642 : 0 ≤ (x10_3 : Int) := zB qA
                 have q642 : x10_3 < (t627.length : Int) := zB qA
                 obtain ⟨ad642, e642, hx642_0, hx642_1⟩ := at_TSpan (Kd.R_reads' HO_5.out).2.2 x10_3 p642 q642
                 cases e642
                 replace p642 := eq_true p642
                 replace q642 := eq_true q642
                 obtain ⟨Ao62, co62, eo62⟩ := Kd.R_slice HO_6.out
                 subst eo62
                 have p643 : 0 ≤ (x10_3 : Int) := zB qA
                 have q643 : x10_3 < (t630.length : Int) := zB qA
                 obtain ⟨ad643, e643, hx643_0, hx643_1⟩ := at_TSpan (Kd.R_reads' HO_6.out).2.2 x10_3 p643 q643
                 cases e643
                 replace p643 := eq_true p643
                 replace q643 := eq_true q643
                 obtain ⟨Ao63, co63, eo63⟩ := Kd.R_slice HO_7.out
                 subst eo63
                 have p644 : 0 ≤ (x10_3 : Int) := zB qA
                 have q644 : x10_3 < (t633.length : Int) := zB qA
                 obtain ⟨ad644, e644, hx644_0⟩ := Kd.at_bool (Kd.R_reads' HO_7.out).2.2 x10_3 p644 q644
                 cases e644
                 replace p644 := eq_true p644
                 replace q644 := eq_true q644
                 obtain ⟨Ao64, co64, eo64⟩ := Kd.R_slice HO_8.out
                 subst eo64
                 have p645 : 0 ≤ (x10_3 : Int) := zB qA
                 have q645 : x10_3 < (t636.length : Int) := zB qA
                 obtain ⟨ad645, e645, hx645_0⟩ := Kd.at_bool (Kd.R_reads' HO_8.out).2.2 x10_3 p645 q645
                 cases e645
                 replace p645 := eq_true p645
                 replace q645 := eq_true q645
                 go_wp2
                 repeat (go_quiet (fail); try go_wp2)
                 go_roundg k3
                 case measure => have := HJ14.out; have := HK2.out; have := HK3.out; omega
                 case rel => exact ⟨(wrap64 (x10_3 + 1)), qT, H', ⟨by have := HJ14.out; have := HK2.out; have := HK3.out; omega⟩, ⟨qR HO_5.out⟩, ⟨qR HO_6.out⟩, ⟨qR HO_7.out⟩, ⟨qR HO_8.out⟩, ⟨qK BK618.out⟩, ⟨qB⟩⟩
               ·rw [zD c59] at H
                exact absurd H (by simp)
              ·rw [zD c58] at H
               exact absurd H (by simp)
            ·rw [zD c56] at H
             exact absurd H (by simp)
           ·rw [zD c55] at H
            exact absurd H (by simp)
          ·rw [zD c54] at H
           have c54b0 := zG c54
           clear c54
           obtain rfl := zI H
           obtain ⟨Ao65, co65, eo65⟩ := Kd.R_slice HO_5.out
           subst eo65
           go_wp2
           repeat (go_quiet (fail); try go_wp2)
           go_ret
           exact ⟨qE, qB⟩
end Go.Proofs.YtpkimbkjjmbmcaaDoor.Q
namespace Go.Proofs.YtpkimbkjjmbmcaaDoor.RSpanSpans
open Go Go.RowKit Go.Proofs.YtpkimbkjjmbmcaaDoorW.PrintWords Go.Proofs.YtpkimbkjjmbmcaaDoor.Q
set_option linter.unusedVariables false
def GIns (x : SIns) : Prop := (Lit.int .i64 (x.f0)).wf = true ∧ (Lit.int .i64 (x.f1)).wf = true ∧ (Lit.int .i64 (x.f2)).wf = true ∧ (Lit.int .i64 (x.f3)).wf = true ∧ (x.f4).size ≤ 140737488351232 ∧ ((x.f5).length * 8 ≤ 140737488351232 ∧ (x.f5).length ≤ maxLen ∧ ∀ y1 ∈ (x.f5), (Lit.int .i64 (y1)).wf = true)
def SpanSpans.Pure : Prop := ∀ (a0_0 : ByteArray) (a0_1 : Int) (a0_2 : Int) (l0_3 : List (List (SIns))), (a0_0).size ≤ 140737488351232 → (Lit.int .i64 (a0_1)).wf = true → (Lit.int .i64 (a0_2)).wf = true → ((l0_3).length * 24 ≤ 140737488351232 ∧ (l0_3).length ≤ maxLen ∧ ∀ y1 ∈ (l0_3), ((y1).length * 72 ≤ 140737488351232 ∧ (y1).length ≤ maxLen ∧ ∀ y2 ∈ (y1), GIns (y2))) → ∃ k, cubbylaw12_SpanSpans.f k a0_0 a0_1 a0_2 l0_3 = some true
end Go.Proofs.YtpkimbkjjmbmcaaDoor.RSpanSpans
namespace Go.Proofs.YtpkimbkjjmbmcaaDoor.Plain
open Go Go.RowKit Go.Proofs.YtpkimbkjjmbmcaaDoorW.PrintWords Go.Proofs.YtpkimbkjjmbmcaaDoorW.PrintMore
theorem wrap_nat {j : Nat} (h : j ≤ 4611686018427387904) : wrap64 ((j : Int) + 1) = ((j + 1 : Nat) : Int) := by
 unfold wrap64
 omega
theorem wrap_pred {j : Nat} (h0 : 0 < j) (h : j ≤ 4611686018427387904) : wrap64 ((j : Int) - 1) = ((j - 1 : Nat) : Int) := by
 unfold wrap64
 omega
theorem wrap_id {i : Int} (h0 : -4611686018427387904 ≤ i) (h : i ≤ 4611686018427387904) : wrap64 i = i := by
 unfold wrap64
 omega
theorem rd_nat (l : List Int) (j : Nat) : rd l (j : Int) = l.getD j 0 := rfl
theorem rd_get {l : List Int} {j : Nat} (h : j < l.length) : rd l (j : Int) = l[j] := by
 rw [rd_nat, List.getD_eq_getElem?_getD, List.getElem?_eq_getElem h]
 rfl
theorem drop_cons {α : Type} {l : List α} {j : Nat} (h : j < l.length) : l.drop j = l[j] :: l.drop (j + 1) := by
 rw [List.drop_eq_getElem_cons h]
theorem loop_eq (bs : ByteArray) : ∀ (n i : Nat) (r : List UInt8), bs.size - i = n → ByteArray.toList.loop bs i r = r.reverse ++ bs.data.toList.drop i := by
 intro n
 induction n with
 | zero =>
  intro i r h
  unfold ByteArray.toList.loop
  rw [zD (by omega), List.drop_eq_nil_of_le (by simp; have : bs.data.size = bs.size := rfl; omega), List.append_nil]
 | succ n ih =>
  intro i r h
  unfold ByteArray.toList.loop
  have hs : bs.data.size = bs.size := rfl
  rw [zC (by omega), ih (i + 1) _ (by omega), List.drop_eq_getElem_cons (i := i) (by simp; omega)]
  have : bs.get! i = bs.data.toList[i]'(by simp; omega) := by
   show bs.data[i]! = _
   rw [getElem!_pos bs.data i (by omega)]
   simp
  rw [this]
  simp
theorem toList_data (bs : ByteArray) : bs.toList = bs.data.toList := by
 unfold ByteArray.toList
 rw [loop_eq bs _ 0 [] rfl]
 simp
end Go.Proofs.YtpkimbkjjmbmcaaDoor.Plain
namespace Go.Proofs.YtpkimbkjjmbmcaaDoor.PlainIr
open Go Go.RowKit Go.Proofs.YtpkimbkjjmbmcaaDoorW.PrintWords Go.Proofs.YtpkimbkjjmbmcaaDoorW.PrintMore Go.Proofs.YtpkimbkjjmbmcaaDoor.Q Go.Proofs.YtpkimbkjjmbmcaaDoor.Plain
set_option linter.unusedVariables false
set_option linter.unusedSimpArgs false
theorem op_cases {op : Int} (h : 1 ≤ op ∧ op ≤ 14) : op = 1 ∨ op = 2 ∨ op = 3 ∨ op = 4 ∨ op = 5 ∨ op = 6 ∨ op = 7 ∨ op = 8 ∨ op = 9 ∨ op = 10 ∨ op = 11 ∨ op = 12 ∨ op = 13 ∨ op = 14 := by omega
theorem shape_none {op : Int} (h : ¬ (1 ≤ op ∧ op ≤ 14)) : ir_shape.f op = some ⟨#[]⟩ := by
 unfold ir_shape.f
 split
 ·have : op = 0 := by omega
  subst this
  rfl
 ·rfl
theorem nil_toList : (⟨#[]⟩ : ByteArray).toList = [] := by decide +kernel
def uses (op a b : Int) (args : List Int) : List Int :=
 if op = 2 ∨ op = 8 ∨ op = 10 ∨ op = 13 ∨ op = 14 then [a] else if (3 ≤ op ∧ op ≤ 7) ∨ op = 9 then [a, b] else if op = 11 then args else []
def defOf (op d : Int) : Int := if (1 ≤ op ∧ op ≤ 8) ∨ op = 11 then d else -1
def lastOp (op : Int) : Bool := decide (12 ≤ op ∧ op ≤ 14)
def targets7 (op d a b : Int) : List Int := if op = 12 then [a] else if op = 13 then [b, d] else []
structure Sh (op : Int) (s : ByteArray) : Prop where
 ne : ¬ s.toList = []
 size : s.size = 3
 b0 : bt s 0 = 114 ↔ ((1 ≤ op ∧ op ≤ 8) ∨ op = 11)
 b1 : bt s 1 = 114 ↔ ((2 ≤ op ∧ op ≤ 10) ∨ op = 13 ∨ op = 14)
 b2 : bt s 2 = 114 ↔ ((3 ≤ op ∧ op ≤ 7) ∨ op = 9)
 f0 : bt s 0 = 32 ↔ (op = 9 ∨ op = 10 ∨ op = 12 ∨ op = 14)
 f1 : bt s 1 = 32 ↔ op = 11
 f2 : bt s 2 = 32 ↔ (op = 1 ∨ op = 2 ∨ op = 8 ∨ op = 10 ∨ op = 11 ∨ op = 12 ∨ op = 14)
 n0 : ¬ bt s 0 = 110
 n1 : bt s 1 = 110 ↔ op = 1
 n2 : ¬ bt s 2 = 110
theorem shape_some {op : Int} (h : 1 ≤ op ∧ op ≤ 14) : ∃ s, ir_shape.f op = some s ∧ Sh op s := by
 rcases op_cases h with rfl | rfl | rfl | rfl | rfl | rfl | rfl | rfl | rfl | rfl | rfl | rfl | rfl | rfl
 all_goals exact ⟨_, rfl, by decide +kernel, rfl, by decide +kernel, by decide +kernel, by decide +kernel, by decide +kernel, by decide +kernel, by decide +kernel, by decide +kernel, by decide +kernel, by decide +kernel⟩
theorem def_eq (op d a b : Int) (nm : ByteArray) (args : List Int) : ir_Def.f op d a b nm args = some (defOf op d) := by
 unfold ir_Def.f defOf
 by_cases h : 1 ≤ op ∧ op ≤ 14
 ·obtain ⟨s, hs, S⟩ := shape_some h
  rw [hs, zJ, zD S.ne, zC (by rw [S.size]; decide)]
  by_cases h0 : (1 ≤ op ∧ op ≤ 8) ∨ op = 11
  ·rw [zC (S.b0.2 h0), zC h0]
  ·rw [zD (fun h => h0 (S.b0.1 h)), zD h0]
 ·rw [shape_none h, zJ, zC nil_toList, zD (by omega)]
theorem refdef_eq (op d a b : Int) (nm : ByteArray) (args : List Int) : cubbyref07_Def.f op d a b nm args = some (defOf op d) := by
 unfold cubbyref07_Def.f defOf
 by_cases h : (1 ≤ op ∧ op ≤ 8) ∨ op = 11
 ·rw [zC h]
  repeat' split
  all_goals first | rfl | omega
 ·rw [zD h]
  repeat' split
  all_goals first | rfl | omega
theorem last_eq (op : Int) : ir_Last.f op = some (lastOp op) := by
 unfold ir_Last.f lastOp
 split
 ·rw [Option.some.injEq, decide_eq_decide]
  omega
 ·rw [zG (by omega)]
theorem reflast_eq (op : Int) : cubbyref07_Last.f op = some (lastOp op) := by
 unfold cubbyref07_Last.f lastOp
 split
 ·rw [zF (by omega)]
 ·split
  ·rw [zF (by omega)]
  ·by_cases h : op = 14
   ·rw [zF (by omega), beq_iff_eq.2 h]
   ·rw [zG (by omega), beq_eq_false_iff_ne.2 h]
theorem targets_eq (op d a b : Int) (nm : ByteArray) (args : List Int) : ir_Targets.f op d a b nm args = some (targets7 op d a b) := by
 unfold ir_Targets.f targets7
 split
 ·rfl
 ·split <;> rfl
theorem reftargets_eq (op d a b : Int) (nm : ByteArray) (args : List Int) : cubbyref07_Targets.f op d a b nm args = some (targets7 op d a b) := by
 unfold cubbyref07_Targets.f targets7
 simp only [zJ]
 split
 ·rw [zC (by simp)]; rfl
 ·split
  ·rw [zC (by simp)]; rfl
  ·rfl
theorem refuses_j1 (k : Nat) (op : Int) (c : Bool) (d a b : Int) (nm : ByteArray) (args : List Int) (ha : args.length ≤ 17592186043904) (hc : c = decide ((3 ≤ op ∧ op ≤ 7) ∨ op = 9)) (h : ¬ (op = 2 ∨ op = 8 ∨ op = 10 ∨ op = 13 ∨ op = 14)) :
 cubbyref07_Uses.j1 (k + 1) [] op c op d a b nm args = some (uses op a b args) := by
 simp only [cubbyref07_Uses.j1, zJ]
 unfold uses
 rw [zD h]
 by_cases h2 : (3 ≤ op ∧ op ≤ 7) ∨ op = 9
 ·rw [zC (by rw [hc]; exact zF h2), zC (by simp), zC h2]
  rfl
 ·rw [zD (by rw [hc]; simpa using h2), zD h2]
  split
  ·rw [zC (by simp; omega)]
   rfl
  ·rfl
theorem refuses_ev (op d a b : Int) (nm : ByteArray) (args : List Int) (ha : args.length ≤ 17592186043904) : Ev (fun k => cubbyref07_Uses.f k op d a b nm args) (uses op a b args) := by
 refine ⟨2, fun k hk => ?_⟩
 obtain ⟨k, rfl⟩ : ∃ m, k = m + 2 := ⟨k - 2, by omega⟩
 show cubbyref07_Uses.f (k + 2) op d a b nm args = some (uses op a b args)
 unfold cubbyref07_Uses.f
 simp only [zJ]
 have yes : (op = 2 ∨ op = 8 ∨ op = 10 ∨ op = 13 ∨ op = 14) → cubbyref07_Uses.j0 (k + 2) [] op true op d a b nm args = some (uses op a b args) := fun h => by
  simp only [cubbyref07_Uses.j0, if_true]
  rw [zC (by simp)]
  unfold uses
  rw [zC h]
  rfl
 by_cases h1 : op = 2
 ·rw [zC h1, beq_iff_eq.2 h1]
  exact yes (.inl h1)
 rw [zD h1]
 by_cases h2 : op = 8
 ·rw [zC h2, beq_iff_eq.2 h2]
  exact yes (by omega)
 rw [zD h2]
 by_cases h3 : op = 10
 ·rw [zC h3, beq_iff_eq.2 h3]
  exact yes (by omega)
 rw [zD h3]
 by_cases h4 : op = 14
 ·rw [zC h4, beq_iff_eq.2 h4]
  exact yes (by omega)
 rw [zD h4]
 by_cases h5 : op = 13
 ·rw [beq_iff_eq.2 h5]
  exact yes (by omega)
 rw [beq_eq_false_iff_ne.2 h5]
 simp only [cubbyref07_Uses.j0]
 rw [zD (by simp)]
 have g : ∀ c, c = decide ((3 ≤ op ∧ op ≤ 7) ∨ op = 9) → cubbyref07_Uses.j1 (k + 1) [] op c op d a b nm args = some (uses op a b args) := fun c hc => refuses_j1 k op c d a b nm args ha hc (by omega)
 repeat' split
 all_goals
  refine g _ ?_
  first
  | (rename_i h; rw [beq_iff_eq.2 h, zF (by omega)])
  | (by_cases h9 : op = 9
     ·rw [beq_iff_eq.2 h9, zF (by omega)]
     ·rw [beq_eq_false_iff_ne.2 h9, zG (by omega)])
theorem uses_j (k : Nat) (out : List Int) (s : ByteArray) (op d a b : Int) (nm : ByteArray) (args : List Int) (ho : out.length ≤ 1) (ha : args.length ≤ 17592186043904) (hs : s.size = 3) :
 ir_Uses.j0 (k + 1) out s op d a b nm args = some (out ++ (if bt s 2 = 114 then [b] else []) ++ (if op = 11 then args else [])) := by
 simp only [ir_Uses.j0]
 rw [zC (by rw [hs]; decide)]
 split
 ·rw [zC (by omega), zJ]
  split
  ·rw [zC (by simp; omega)]
  ·rw [List.append_nil]
 ·split
  ·rw [zC (by omega)]
   simp
  ·simp
theorem uses_ev (op d a b : Int) (nm : ByteArray) (args : List Int) (ha : args.length ≤ 17592186043904) : Ev (fun k => ir_Uses.f k op d a b nm args) (uses op a b args) := by
 refine ⟨1, fun k hk => ?_⟩
 obtain ⟨k, rfl⟩ : ∃ m, k = m + 1 := ⟨k - 1, by omega⟩
 show ir_Uses.f (k + 1) op d a b nm args = some (uses op a b args)
 unfold ir_Uses.f
 by_cases h : 1 ≤ op ∧ op ≤ 14
 ·obtain ⟨s, hs, S⟩ := shape_some h
  rw [hs, zJ, zD S.ne, zC (by rw [S.size]; decide)]
  have hb2 : (if bt s 2 = 114 then [b] else []) = if (3 ≤ op ∧ op ≤ 7) ∨ op = 9 then [b] else [] := by
   by_cases h2 : (3 ≤ op ∧ op ≤ 7) ∨ op = 9
   ·rw [zC (S.b2.2 h2), zC h2]
   ·rw [zD (fun h => h2 (S.b2.1 h)), zD h2]
  by_cases h1 : (2 ≤ op ∧ op ≤ 10) ∨ op = 13 ∨ op = 14
  ·rw [zC (S.b1.2 h1), zC (by simp), uses_j k _ s op d a b nm args (by simp) ha S.size, hb2]
   unfold uses
   by_cases h2 : (3 ≤ op ∧ op ≤ 7) ∨ op = 9
   ·rw [zC h2, zD (by omega), zD (by omega), zC h2]
    rfl
   ·rw [zD h2, zD (by omega), zC (by omega)]
    rfl
  ·rw [zD (fun h => h1 (S.b1.1 h)), uses_j k _ s op d a b nm args (by simp) ha S.size, hb2]
   unfold uses
   rw [zD (show ¬ ((3 ≤ op ∧ op ≤ 7) ∨ op = 9) by omega), zD (show ¬ (op = 2 ∨ op = 8 ∨ op = 10 ∨ op = 13 ∨ op = 14) by omega), zD (show ¬ ((3 ≤ op ∧ op ≤ 7) ∨ op = 9) by omega)]
   simp
 ·rw [shape_none h, zJ, zC nil_toList]
  unfold uses
  rw [zD (by omega), zD (by omega), zD (by omega)]
end Go.Proofs.YtpkimbkjjmbmcaaDoor.PlainIr
namespace Go.Proofs.YtpkimbkjjmbmcaaDoor.Plain
open Go Go.RowKit Go.Proofs.YtpkimbkjjmbmcaaDoorW.PrintWords Go.Proofs.YtpkimbkjjmbmcaaDoorW.PrintMore
theorem scan {α : Type} (g : Nat → Nat → Option α) (n : Nat) (R : Nat → α) (hend : Ev (fun k => g k n) (R n)) (hstep : ∀ i, i < n → Ev (fun k => g k (i + 1)) (R (i + 1)) → Ev (fun k => g k i) (R i)) : ∀ i, i ≤ n → Ev (fun k => g k i) (R i) := by
 have h : ∀ d i, i + d = n → Ev (fun k => g k i) (R i) := by
  intro d
  induction d with
  | zero =>
   intro i hi
   obtain rfl : i = n := by omega
   exact hend
  | succ d ih =>
   intro i hi
   exact hstep i (by omega) (ih (i + 1) (by omega))
 intro i hi
 exact h (n - i) i (by omega)
theorem seek {α : Type} (g : Nat → Nat → Option α) (n : Nat) (bad : Nat → Prop) (e r : α) (hbad : ∀ i, i < n → bad i → Ev (fun k => g k i) e) (hgo : ∀ i, i < n → ¬ bad i → ∀ r', Ev (fun k => g k (i + 1)) r' → Ev (fun k => g k i) r')
 (hr : (∃ i, i < n ∧ bad i) → r = e) (hend : (∀ i, i < n → ¬ bad i) → Ev (fun k => g k n) r) : Ev (fun k => g k 0) r := by
 by_cases h : ∃ i, i < n ∧ bad i
 ·obtain rfl := hr h
  obtain ⟨m, hm, hb⟩ := h
  refine scan g m (fun _ => r) (hbad m hm hb) ?_ 0 (Nat.zero_le _)
  intro i hi hE
  by_cases c : bad i
  ·exact hbad i (by omega) c
  ·exact hgo i (by omega) c _ hE
 ·have hn : ∀ i, i < n → ¬ bad i := fun i hi hb => h ⟨i, hi, hb⟩
  refine scan g n (fun _ => r) (hend hn) ?_ 0 (Nat.zero_le _)
  intro i hi hE
  exact hgo i hi (hn i hi) _ hE
end Go.Proofs.YtpkimbkjjmbmcaaDoor.Plain
namespace Go.Proofs.YtpkimbkjjmbmcaaDoor.PlainBits
open Go Go.RowKit Go.Proofs.YtpkimbkjjmbmcaaDoorW.PrintWords Go.Proofs.YtpkimbkjjmbmcaaDoorW.PrintMore Go.Proofs.YtpkimbkjjmbmcaaDoor.Plain
set_option linter.unusedVariables false
set_option linter.unusedSimpArgs false
theorem shl_one {r : Nat} (h : r < 64) : shl .u64 1 (IntKind.u64.wrap (r : Int)) = ((2 ^ r : Nat) : Int) := by
 have hp : 2 ^ r < 18446744073709551616 := by
  have := Nat.pow_lt_pow_right (a := 2) (by omega) h
  omega
 unfold shl
 rw [IntKind.wrap_u64, IntKind.wrap_u64]
 have h1 : ((r : Int) % 18446744073709551616).toNat = r := by omega
 rw [h1, show IntKind.u64.bits = 64 from rfl, Nat.min_eq_left (by omega), Int.one_mul]
 rw [show ((2 : Int) ^ r) = ((2 ^ r : Nat) : Int) by simp]
 generalize 2 ^ r = q at hp ⊢
 omega
def withB (s r : Nat) : Nat := s ||| 2 ^ r
def withoutB (s r : Nat) : Nat := s &&& (18446744073709551615 - 2 ^ r)
theorem withB_bit (s r i : Nat) : (withB s r).testBit i = (s.testBit i || decide (i = r)) := by
 unfold withB
 rw [Nat.testBit_or, Nat.testBit_two_pow]
 congr 1
 apply decide_eq_decide.2
 exact eq_comm
theorem withoutB_bit {s r i : Nat} (hr : r < 64) (hs : s < 2 ^ 64) : (withoutB s r).testBit i = (s.testBit i && decide (i ≠ r)) := by
 unfold withoutB
 have hp : 2 ^ r < 2 ^ 64 := Nat.pow_lt_pow_right (by omega) hr
 rw [Nat.testBit_and, show 18446744073709551615 - 2 ^ r = 2 ^ 64 - (2 ^ r + 1) by omega, Nat.testBit_two_pow_sub_succ hp, Nat.testBit_two_pow]
 by_cases hi : i < 64
 ·rw [zF hi, Bool.true_and]
  congr 1
  by_cases c : r = i
  ·subst c
   simp
  ·have : i ≠ r := fun e => c e.symm
   simp [c, this]
 ·have : s.testBit i = false := Nat.testBit_lt_two_pow (Nat.lt_of_lt_of_le hs (Nat.pow_le_pow_right (by omega) (by omega)))
  rw [this]
  simp
theorem withB_lt {s r R : Nat} (hr : r < R) (hs : s < 2 ^ R) : withB s r < 2 ^ R := Nat.or_lt_two_pow hs (Nat.pow_lt_pow_right (by omega) hr)
theorem withoutB_lt {s r R : Nat} (hs : s < 2 ^ R) : withoutB s r < 2 ^ R := Nat.lt_of_le_of_lt Nat.and_le_left hs
theorem bits_with {s r : Nat} (hr : r < 64) (hs : s < 2 ^ 64) : Go.bits .or .u64 (s : Int) (shl .u64 1 (IntKind.u64.wrap (r : Int))) = (withB s r : Int) := by
 have hp : 2 ^ r < 2 ^ 64 := Nat.pow_lt_pow_right (by omega) hr
 rw [shl_one hr, u64_or_nat _ _ (by omega) (by omega)]
 rfl
theorem bits_without {s r : Nat} (hr : r < 64) (hs : s < 2 ^ 64) : Go.bits .andNot .u64 (s : Int) (shl .u64 1 (IntKind.u64.wrap (r : Int))) = (withoutB s r : Int) := by
 have hp : 2 ^ r < 2 ^ 64 := Nat.pow_lt_pow_right (by omega) hr
 rw [shl_one hr, u64_andNot_nat _ _ (by omega) (by omega)]
 rfl
theorem wrap_nonneg (n : Int) : 0 ≤ IntKind.u64.wrap n := by
 rw [IntKind.wrap_u64]
 omega
def toN (R s : Nat) : List Nat := (List.range R).filter (fun r => s.testBit r)
def toL (R s : Nat) : List Int := (toN R s).map (fun n : Nat => (n : Int))
theorem mem_toN {R s r : Nat} : r ∈ toN R s ↔ r < R ∧ s.testBit r = true := by
 unfold toN
 simp
theorem filter_first (p : Nat → Bool) (c : Nat) : ∀ (n s : Nat), s ≤ c → c < s + n → (∀ i, s ≤ i → i < c → p i = false) → p c = true → (List.range' s n).filter p = c :: (List.range' s n).filter (fun i => p i && decide (i ≠ c)) := by
 intro n
 induction n with
 | zero =>
  intro s h1 h2
  omega
 | succ n ih =>
  intro s h1 h2 h3 h4
  rw [List.range'_succ]
  by_cases c1 : s = c
  ·subst c1
   rw [List.filter_cons_of_pos h4, List.filter_cons_of_neg (by simp)]
   congr 1
   apply List.filter_congr
   intro i hi
   have := List.mem_range'_1.1 hi
   have : i ≠ s := by omega
   simp [this]
  ·rw [List.filter_cons_of_neg (by rw [h3 s (by omega) (by omega)]; simp), List.filter_cons_of_neg (by rw [h3 s (by omega) (by omega)]; simp)]
   exact ih (s + 1) (by omega) (by omega) (fun i hi hc => h3 i (by omega) hc) h4
theorem low_bit {x : Nat} (h0 : 0 < x) (h : x < 2 ^ 64) : Lib.ctz 64 x < 64 ∧ x.testBit (Lib.ctz 64 x) = true ∧ (∀ i, i < Lib.ctz 64 x → x.testBit i = false) ∧ (∀ i, (x &&& (x - 1)).testBit i = (x.testBit i && decide (i ≠ Lib.ctz 64 x))) := by
 have hc : Lib.ctz 64 x = Lib.ctzFrom 64 x := by
  unfold Lib.ctz
  rw [zD (by omega)]
 rw [hc]
 obtain ⟨m, hm, hlt⟩ := Lib.ctzFrom_spec 64 x h0 h
 generalize Lib.ctzFrom 64 x = c at *
 have hb : ∀ i, x.testBit i = (decide (c ≤ i) && (2 * m + 1).testBit (i - c)) := by
  intro i
  rw [hm, Nat.testBit_two_pow_mul]
 have hp : 0 < 2 ^ c := Nat.pos_of_ne_zero (by simp)
 have hx1 : x - 1 = 2 ^ c * (2 * m) + (2 ^ c - 1) := by
  rw [hm, Nat.mul_add, Nat.mul_one]
  omega
 have hb1 : ∀ i, (x - 1).testBit i = if i < c then (2 ^ c - 1).testBit i else (2 * m).testBit (i - c) := by
  intro i
  rw [hx1, Nat.testBit_two_pow_mul_add _ (by omega)]
 refine ⟨hlt, ?_, ?_, ?_⟩
 ·rw [hb]
  simp
 ·intro i hi
  rw [hb, zG (by omega)]
  rfl
 ·intro i
  rw [Nat.testBit_and, hb1]
  by_cases c1 : i < c
  ·rw [hb, zG (by omega)]
   rfl
  ·rw [zD c1, hb, zF (by omega), Bool.true_and]
   by_cases c2 : i = c
   ·subst c2
    simp
   ·rw [zF c2, Bool.and_true]
    obtain ⟨d, hd⟩ : ∃ d, i - c = d + 1 := ⟨i - c - 1, by omega⟩
    rw [hd, Nat.testBit_succ, Nat.testBit_succ, show (2 * m + 1) / 2 = m by omega, show (2 * m) / 2 = m by omega, Bool.and_self]
theorem toN_low {R x : Nat} (h0 : 0 < x) (h : x < 2 ^ R) (hR : R ≤ 64) : toN R x = Lib.ctz 64 x :: toN R (x &&& (x - 1)) := by
 have h64 : x < 2 ^ 64 := Nat.lt_of_lt_of_le h (Nat.pow_le_pow_right (by omega) hR)
 obtain ⟨h1, h2, h3, h4⟩ := low_bit h0 h64
 have hcR : Lib.ctz 64 x < R := by
  apply Decidable.byContradiction
  intro hn
  have : x.testBit (Lib.ctz 64 x) = false := Nat.testBit_lt_two_pow (Nat.lt_of_lt_of_le h (Nat.pow_le_pow_right (by omega) (by omega)))
  rw [this] at h2
  exact absurd h2 (by simp)
 unfold toN
 rw [List.range_eq_range', filter_first _ (Lib.ctz 64 x) R 0 (by omega) (by omega) (fun i _ hi => h3 i hi) h2]
 congr 1
 apply List.filter_congr
 intro i _
 rw [h4]
theorem toN_zero (R : Nat) : toN R 0 = [] := by
 unfold toN
 rw [List.filter_eq_nil_iff]
 intro a _
 simp
theorem toN_len (R s : Nat) : (toN R s).length ≤ R := by
 unfold toN
 have := List.length_filter_le (fun r => s.testBit r) (List.range R)
 rw [List.length_range] at this
 exact this
theorem toN_ext {R s t : Nat} (hs : s < 2 ^ R) (ht : t < 2 ^ R) (h : ∀ r, r < R → s.testBit r = t.testBit r) : s = t := by
 apply Nat.eq_of_testBit_eq
 intro i
 by_cases c : i < R
 ·exact h i c
 ·rw [Nat.testBit_lt_two_pow (Nat.lt_of_lt_of_le hs (Nat.pow_le_pow_right (by omega) (by omega))), Nat.testBit_lt_two_pow (Nat.lt_of_lt_of_le ht (Nat.pow_le_pow_right (by omega) (by omega)))]
def Sub (s t : Nat) : Prop := ∀ r, s.testBit r = true → t.testBit r = true
theorem filter_mono {p q : Nat → Bool} : ∀ (l : List Nat), (∀ i ∈ l, p i = true → q i = true) → (l.filter p).length ≤ (l.filter q).length ∧ ((l.filter p).length = (l.filter q).length → ∀ i ∈ l, p i = q i)
 | [], _ => by simp
 | a :: l, h => by
  obtain ⟨h1, h2⟩ := filter_mono l (fun i hi => h i (List.mem_cons_of_mem _ hi))
  have ha := h a List.mem_cons_self
  cases hp : p a <;> cases hq : q a
  ·rw [List.filter_cons_of_neg (by simp [hp]), List.filter_cons_of_neg (by simp [hq])]
   refine ⟨h1, fun e i hi => ?_⟩
   rcases List.mem_cons.1 hi with rfl | hi
   ·rw [hp, hq]
   ·exact h2 e i hi
  ·rw [List.filter_cons_of_neg (by simp [hp]), List.filter_cons_of_pos hq, List.length_cons]
   exact ⟨by omega, fun e => by omega⟩
  ·rw [hp, hq] at ha
   exact absurd (ha rfl) (by simp)
  ·rw [List.filter_cons_of_pos hp, List.filter_cons_of_pos hq, List.length_cons, List.length_cons]
   refine ⟨by omega, fun e i hi => ?_⟩
   rcases List.mem_cons.1 hi with rfl | hi
   ·rw [hp, hq]
   ·exact h2 (by omega) i hi
theorem toN_mono {R s t : Nat} (h : Sub s t) : (toN R s).length ≤ (toN R t).length := (filter_mono _ (fun i _ => h i)).1
theorem toN_eq {R s t : Nat} (h : Sub s t) (hs : s < 2 ^ R) (ht : t < 2 ^ R) (e : (toN R s).length = (toN R t).length) : s = t :=
 toN_ext hs ht fun r hr => (filter_mono _ (fun i _ => h i)).2 e r (List.mem_range.2 hr)
end Go.Proofs.YtpkimbkjjmbmcaaDoor.PlainBits
namespace Go.Proofs.YtpkimbkjjmbmcaaDoor.PlainFix
open Go.Proofs.YtpkimbkjjmbmcaaDoor.PlainBits
set_option linter.unusedVariables false
set_option linter.unusedSimpArgs false
def at_ (x : List Nat) (b : Nat) : Nat := x.getD b 0
def LE (x y : List Nat) : Prop := ∀ b, Sub (at_ x b) (at_ y b)
theorem LE.refl (x : List Nat) : LE x x := fun _ _ h => h
theorem LE.trans {x y z : List Nat} (h : LE x y) (k : LE y z) : LE x z := fun b r hr => k b r (h b r hr)
structure Eqs (n R : Nat) (A : List Nat → Nat → Nat) : Prop where
 mono : ∀ x y, LE x y → ∀ b, b < n → Sub (A x b) (A y b)
 lt : ∀ x, (∀ b, at_ x b < 2 ^ R) → ∀ b, b < n → A x b < 2 ^ R
theorem at_map {n : Nat} {f : Nat → Nat} {b : Nat} : at_ ((List.range n).map f) b = if b < n then f b else 0 := by
 unfold at_
 rw [List.getD_eq_getElem?_getD]
 split
 ·next h =>
  rw [List.getElem?_map, List.getElem?_range h]
  rfl
 ·next h =>
  rw [List.getElem?_eq_none (by simp; omega)]
  rfl
theorem at_set {x : List Nat} {b c v : Nat} (hb : b < x.length) : at_ (x.set b v) c = if c = b then v else at_ x c := by
 unfold at_
 rw [List.getD_eq_getElem?_getD, List.getD_eq_getElem?_getD, List.getElem?_set]
 by_cases h : b = c
 ·subst h
  rw [zC rfl, zC rfl, zC hb]
  rfl
 ·rw [zD h, zD (fun e => h e.symm)]
theorem at_out {x : List Nat} {b : Nat} (h : x.length ≤ b) : at_ x b = 0 := by
 unfold at_
 rw [List.getD_eq_getElem?_getD, List.getElem?_eq_none h]
 rfl
theorem at_zero (n b : Nat) : at_ (List.replicate n 0) b = 0 := by
 unfold at_
 rw [List.getD_eq_getElem?_getD, List.getElem?_replicate]
 split <;> rfl
theorem zero_LE (n : Nat) (y : List Nat) : LE (List.replicate n 0) y := by
 intro b r h
 rw [at_zero] at h
 simp at h
theorem list_ext {n R : Nat} {x y : List Nat} (hx : x.length = n) (hy : y.length = n) (h : ∀ b, b < n → at_ x b = at_ y b) : x = y := by
 apply List.ext_getElem (by omega)
 intro i h1 h2
 have := h i (by omega)
 unfold at_ at this
 rw [List.getD_eq_getElem?_getD, List.getD_eq_getElem?_getD, List.getElem?_eq_getElem h1, List.getElem?_eq_getElem h2] at this
 exact this
section
variable {n R : Nat} {A : List Nat → Nat → Nat}
def Pre (n : Nat) (A : List Nat → Nat → Nat) (z : List Nat) : Prop := ∀ b, b < n → Sub (A z b) (at_ z b)
structure On (n R : Nat) (A : List Nat → Nat → Nat) (y : List Nat) : Prop where
 len : y.length = n
 lt : ∀ b, at_ y b < 2 ^ R
 up : ∀ b, b < n → Sub (at_ y b) (A y b)
 least : ∀ z, Pre n A z → LE y z
theorem on_zero : On n R A (List.replicate n 0) := by
 refine ⟨List.length_replicate, fun b => ?_, fun b _ r h => ?_, fun z _ => zero_LE n z⟩
 ·rw [at_zero]
  exact Nat.pos_of_ne_zero (by simp)
 ·rw [at_zero] at h
  simp at h
theorem on_eq {x y : List Nat} (hx : On n R A x) (hy : On n R A y) (px : ∀ b, b < n → A x b = at_ x b) (py : ∀ b, b < n → A y b = at_ y b) : x = y := by
 refine list_ext (R := R) hx.len hy.len fun b hb => ?_
 refine toN_ext (hx.lt b) (hy.lt b) fun r _ => ?_
 have h1 := hx.least y (fun c hc r hr => by rw [← py c hc]; exact hr) b r
 have h2 := hy.least x (fun c hc r hr => by rw [← px c hc]; exact hr) b r
 cases e1 : (at_ x b).testBit r <;> cases e2 : (at_ y b).testBit r
 ·rfl
 ·exact absurd (h2 e2) (by rw [e1]; simp)
 ·exact absurd (h1 e1) (by rw [e2]; simp)
 ·rfl
variable (E : Eqs n R A)
include E
theorem on_set {y : List Nat} (h : On n R A y) {b : Nat} (hb : b < n) : On n R A (y.set b (A y b)) ∧ LE y (y.set b (A y b)) := by
 have hlen := h.len
 have hle : LE y (y.set b (A y b)) := by
  intro c r hr
  rw [at_set (by omega)]
  split
  ·next e =>
   subst e
   exact h.up c hb r hr
  ·exact hr
 refine ⟨⟨by rw [List.length_set]; exact hlen, fun c => ?_, fun c hc r hr => ?_, fun z hz c r hr => ?_⟩, hle⟩
 ·rw [at_set (by omega)]
  split
  ·exact E.lt y h.lt b hb
  ·exact h.lt c
 ·apply E.mono _ _ hle c hc
  rw [at_set (by omega)] at hr
  split at hr
  ·next e =>
   subst e
   exact hr
  ·exact h.up c hc r hr
 ·rw [at_set (by omega)] at hr
  split at hr
  ·next e =>
   subst e
   exact hz c hb r (E.mono _ _ (h.least z hz) c hb r hr)
  ·exact h.least z hz c r hr
theorem on_all {y : List Nat} (h : On n R A y) : On n R A ((List.range n).map (A y)) ∧ LE y ((List.range n).map (A y)) := by
 have hlen := h.len
 have hle : LE y ((List.range n).map (A y)) := by
  intro c r hr
  rw [at_map]
  split
  ·next e => exact h.up c e r hr
  ·next e =>
   rw [at_out (by omega)] at hr
   simp at hr
 refine ⟨⟨by simp, fun c => ?_, fun c hc r hr => ?_, fun z hz c r hr => ?_⟩, hle⟩
 ·rw [at_map]
  split
  ·next e => exact E.lt y h.lt c e
  ·exact Nat.pos_of_ne_zero (by simp)
 ·apply E.mono _ _ hle c hc
  rw [at_map, zC hc] at hr
  exact hr
 ·rw [at_map] at hr
  split at hr
  ·next e => exact hz c e r (E.mono _ _ (h.least z hz) c e r hr)
  ·simp at hr
end

def card (R : Nat) : List Nat → Nat
 | [] => 0
 | s :: l => (toN R s).length + card R l
theorem card_le (R : Nat) : ∀ l : List Nat, card R l ≤ l.length * R
 | [] => by simp [card]
 | s :: l => by
  have := card_le R l
  have := toN_len R s
  unfold card
  rw [List.length_cons, Nat.succ_mul]
  omega
theorem card_mono (R : Nat) : ∀ {x y : List Nat}, x.length = y.length → (∀ b, Sub (at_ x b) (at_ y b)) → card R x ≤ card R y
 | [], [], _, _ => Nat.le_refl _
 | [], _ :: _, h, _ => by simp at h
 | _ :: _, [], h, _ => by simp at h
 | s :: x, t :: y, h, hs => by
  have h1 := toN_mono (R := R) (hs 0)
  have h2 := card_mono R (x := x) (y := y) (by simpa using h) (fun b => hs (b + 1))
  unfold card
  exact Nat.add_le_add h1 h2
theorem card_eq (R : Nat) : ∀ {x y : List Nat}, x.length = y.length → (∀ b, Sub (at_ x b) (at_ y b)) → (∀ b, at_ x b < 2 ^ R) → (∀ b, at_ y b < 2 ^ R) → card R x = card R y → x = y
 | [], [], _, _, _, _, _ => rfl
 | [], _ :: _, h, _, _, _, _ => by simp at h
 | _ :: _, [], h, _, _, _, _ => by simp at h
 | s :: x, t :: y, h, hs, hx, hy, e => by
  have h1 := toN_mono (R := R) (hs 0)
  have h2 := card_mono R (x := x) (y := y) (by simpa using h) (fun b => hs (b + 1))
  have h3 : (toN R s).length ≤ (toN R t).length := h1
  unfold card at e
  have e1 : s = t := toN_eq (hs 0) (hx 0) (hy 0) (by show (toN R s).length = (toN R t).length; omega)
  have e2 : x = y := card_eq R (by simpa using h) (fun b => hs (b + 1)) (fun b => hx (b + 1)) (fun b => hy (b + 1)) (by omega)
  rw [e1, e2]
end Go.Proofs.YtpkimbkjjmbmcaaDoor.PlainFix
namespace Go.Proofs.YtpkimbkjjmbmcaaDoor.PlainSuccs
open Go Go.RowKit Go.Proofs.YtpkimbkjjmbmcaaDoorW.PrintWords Go.Proofs.YtpkimbkjjmbmcaaDoorW.PrintMore Go.Proofs.YtpkimbkjjmbmcaaDoor.Q Go.Proofs.YtpkimbkjjmbmcaaDoor.Plain
def targets (x : SIns) : List Int := if x.f0 = 12 then [x.f2] else if x.f0 = 13 then [x.f3, x.f1] else []
def addT (n : Nat) (out : List Int) (t : Int) : List Int := if 0 ≤ t ∧ t < n ∧ t ∉ out then out ++ [t] else out
def blockAt (x : List (List SIns)) (i : Int) : List SIns := x.getD i.toNat []
def lastOf (b : List SIns) : SIns := b.getD (b.length - 1) zIns
def succs (x : List (List SIns)) (i : Int) : List Int :=
 if i < 0 ∨ (x.length : Int) ≤ i ∨ blockAt x i = [] then [] else (targets (lastOf (blockAt x i))).foldl (addT x.length) []
theorem targets_len (x : SIns) : (targets x).length ≤ 2 := by
 unfold targets
 split
 ·simp
 ·split <;> simp
theorem addT_len (n : Nat) (out : List Int) (t : Int) : (addT n out t).length ≤ out.length + 1 := by
 unfold addT
 split <;> simp
theorem foldT_len (n : Nat) : ∀ (l out : List Int), (l.foldl (addT n) out).length ≤ out.length + l.length
 | [], _ => by simp
 | t :: l, out => by
  have := foldT_len n l (addT n out t)
  have := addT_len n out t
  simp only [List.foldl_cons, List.length_cons]
  omega
theorem succs_len (x : List (List SIns)) (i : Int) : (succs x i).length ≤ 2 := by
 unfold succs
 split
 ·simp
 ·have := foldT_len x.length (targets (lastOf (blockAt x i))) []
  have := targets_len (lastOf (blockAt x i))
  simp at *
  omega
theorem addT_mem (n : Nat) (out : List Int) (t : Int) (h : ∀ y ∈ out, 0 ≤ y ∧ y < n) : ∀ y ∈ addT n out t, 0 ≤ y ∧ y < n := by
 unfold addT
 split
 ·rename_i hc
  intro y hy
  rcases List.mem_append.1 hy with hy | hy
  ·exact h y hy
  ·rw [List.mem_singleton.1 hy]
   exact ⟨hc.1, hc.2.1⟩
 ·exact h
theorem foldT_mem (n : Nat) : ∀ (l out : List Int), (∀ y ∈ out, 0 ≤ y ∧ y < n) → ∀ y ∈ l.foldl (addT n) out, 0 ≤ y ∧ y < n
 | [], _, h => h
 | t :: l, out, h => foldT_mem n l (addT n out t) (addT_mem n out t h)
theorem succs_mem (x : List (List SIns)) (i : Int) : ∀ y ∈ succs x i, 0 ≤ y ∧ y < x.length := by
 unfold succs
 split
 ·simp
 ·exact foldT_mem _ _ _ (by simp)
theorem ir_targets (x : SIns) : ir_Targets.f x.f0 x.f1 x.f2 x.f3 x.f4 x.f5 = some (targets x) := by
 unfold ir_Targets.f targets
 split
 ·rfl
 ·split <;> rfl
theorem ref_targets (x : SIns) : cubbyref07_Targets.f x.f0 x.f1 x.f2 x.f3 x.f4 x.f5 = some (targets x) := by
 unfold cubbyref07_Targets.f targets
 simp only [zJ]
 split
 ·rw [zC (by simp)]; rfl
 ·split
  ·rw [zC (by simp)]; rfl
  ·rfl
theorem has_loop (l : List Int) (x : Int) (hl : l.length ≤ 4611686018427387904) : ∀ (d j : Nat), l.length - j = d → j ≤ l.length → Ev (fun k => cubbyref09_has.l0 k l x (j : Int)) (decide (x ∈ l.drop j)) := by
 intro d
 induction d with
 | zero =>
  intro j hd hj
  refine Ev.step (f := fun _ => some false) (fun k => by simp only [cubbyref09_has.l0]; rw [zD (by omega)]) ?_
  rw [List.drop_eq_nil_of_le (by omega)]
  exact Ev.now _
 | succ d ih =>
  intro j hd hj
  have hlt : j < l.length := by omega
  rw [drop_cons hlt]
  by_cases e : l[j] = x
  ·refine Ev.step (f := fun _ => some true) (fun k => by simp only [cubbyref09_has.l0]; rw [zC (by omega), zC (by omega), rd_get hlt, zC e]) ?_
   rw [zF (by simp [e])]
   exact Ev.now _
  ·refine Ev.step (f := fun k => cubbyref09_has.l0 k l x ((j + 1 : Nat) : Int)) (fun k => by simp only [cubbyref09_has.l0]; rw [zC (by omega), zC (by omega), rd_get hlt, zD e, wrap_nat (by omega)]) ?_
   have := ih (j + 1) (by omega) (by omega)
   rw [show (decide (x ∈ l[j] :: l.drop (j + 1))) = decide (x ∈ l.drop (j + 1)) by rw [decide_eq_decide, List.mem_cons]; exact ⟨fun h => h.resolve_left (Ne.symm e), Or.inr⟩]
   exact this
theorem has_ev (l : List Int) (x : Int) (hl : l.length ≤ 4611686018427387904) : Ev (fun k => cubbyref09_has.f k l x) (decide (x ∈ l)) := by
 have := has_loop l x hl l.length 0 (by omega) (by omega)
 simpa [cubbyref09_has.f] using this
theorem index_loop (l : List Int) (x : Int) (hl : l.length ≤ 4611686018427387904) : ∀ (d j : Nat), l.length - j = d → j ≤ l.length → ∃ r, Ev (fun k => slices_Index_int_int.l0 k l x (l.length : Int) (j : Int)) r ∧ (0 ≤ r ↔ x ∈ l.drop j) := by
 intro d
 induction d with
 | zero =>
  intro j hd hj
  refine ⟨-1, Ev.step (f := fun _ => some (-1)) (fun k => by simp only [slices_Index_int_int.l0]; rw [zD (by omega)]) (Ev.now _), ?_⟩
  rw [List.drop_eq_nil_of_le (by omega)]
  simp
 | succ d ih =>
  intro j hd hj
  have hlt : j < l.length := by omega
  rw [drop_cons hlt]
  by_cases e : x = l[j]
  ·refine ⟨j, Ev.step (f := fun _ => some (j : Int)) (fun k => by simp only [slices_Index_int_int.l0]; rw [zC (by omega), zC (by omega), zC (by omega), rd_get hlt, zC e]) (Ev.now _), ?_⟩
   exact ⟨fun _ => by rw [e]; exact List.mem_cons_self, fun _ => by omega⟩
  ·obtain ⟨r, hr, hx⟩ := ih (j + 1) (by omega) (by omega)
   refine ⟨r, Ev.step (f := fun k => slices_Index_int_int.l0 k l x (l.length : Int) ((j + 1 : Nat) : Int)) (fun k => by simp only [slices_Index_int_int.l0]; rw [zC (by omega), zC (by omega), zC (by omega), rd_get hlt, zD e, wrap_nat (by omega)]) hr, ?_⟩
   rw [hx, List.mem_cons]
   exact ⟨Or.inr, fun h => h.resolve_left e⟩
theorem contains_ev (l : List Int) (x : Int) (hl : l.length ≤ 4611686018427387904) : Ev (fun k => slices_Contains_int_int.f k l x) (decide (x ∈ l)) := by
 obtain ⟨r, hr, hx⟩ := index_loop l x hl l.length 0 (by omega) (by omega)
 refine Ev.bind (g := fun k => slices_Index_int_int.f k l x) (f := fun _ t => some (decide (t ≥ 0))) hr ?_
 rw [List.drop_zero] at hx
 rw [show decide (x ∈ l) = decide (r ≥ 0) from by rw [decide_eq_decide]; exact hx.symm]
 exact Ev.now _
theorem succs_loop (x : List (List SIns)) (l : List Int) (hl : l.length ≤ 1000) : ∀ (d j : Nat) (out : List Int), l.length - j = d → j ≤ l.length → out.length + d ≤ 1000 →
 Ev (fun k => flow_Succs.l0 k x out l (l.length : Int) (j : Int)) ((l.drop j).foldl (addT x.length) out) := by
 intro d
 induction d with
 | zero =>
  intro j out hd hj ho
  refine Ev.step (f := fun _ => some out) (fun k => by simp only [flow_Succs.l0]; rw [zD (by omega)]) ?_
  rw [List.drop_eq_nil_of_le (by omega)]
  exact Ev.now _
 | succ d ih =>
  intro j out hd hj ho
  have hlt : j < l.length := by omega
  rw [drop_cons hlt, List.foldl_cons]
  have hs : ∀ out', out'.length ≤ out.length + 1 → Ev (fun k => flow_Succs.l0 k x out' l (l.length : Int) ((j + 1 : Nat) : Int)) ((l.drop (j + 1)).foldl (addT x.length) out') := fun out' h => ih (j + 1) out' (by omega) (by omega) (by omega)
  by_cases h0 : 0 ≤ l[j]
  ·by_cases h1 : l[j] < x.length
   ·have hc := contains_ev out l[j] (by omega)
    refine Ev.step (f := fun k => (slices_Contains_int_int.f k out l[j]).bind fun t => if t = true then flow_Succs.l0 k x out l (l.length : Int) ((j + 1 : Nat) : Int) else if out.length < 17592186044416 then flow_Succs.l0 k x (out ++ [l[j]]) l (l.length : Int) ((j + 1 : Nat) : Int) else none) (fun k => by
     simp only [flow_Succs.l0]; rw [zC (by omega), zC (by omega), zC (by omega), rd_get hlt, zC h0, zC h1, wrap_nat (by omega)]) ?_
    refine Ev.bind hc ?_
    by_cases hm : l[j] ∈ out
    ·rw [show addT x.length out l[j] = out by unfold addT; rw [zD (by simp [hm])]]
     simp only [hm, decide_true, if_true]
     exact hs out (by omega)
    ·rw [show addT x.length out l[j] = out ++ [l[j]] by unfold addT; rw [zC ⟨h0, h1, hm⟩]]
     simp only [hm, decide_false, Bool.false_eq_true, if_false, show out.length < 17592186044416 from by omega, if_true]
     exact hs _ (by simp)
   ·rw [show addT x.length out l[j] = out by unfold addT; rw [zD (by omega)]]
    refine Ev.step (f := fun k => flow_Succs.l0 k x out l (l.length : Int) ((j + 1 : Nat) : Int)) (fun k => by
     simp only [flow_Succs.l0]; rw [zC (by omega), zC (by omega), zC (by omega), rd_get hlt, zC h0, zD h1, wrap_nat (by omega)]) (hs out (by omega))
  ·rw [show addT x.length out l[j] = out by unfold addT; rw [zD (by omega)]]
   refine Ev.step (f := fun k => flow_Succs.l0 k x out l (l.length : Int) ((j + 1 : Nat) : Int)) (fun k => by
    simp only [flow_Succs.l0]; rw [zC (by omega), zC (by omega), zC (by omega), rd_get hlt, zD (by omega), wrap_nat (by omega)]) (hs out (by omega))
theorem refsuccs_loop (x : List (List SIns)) (l : List Int) (hl : l.length ≤ 1000) : ∀ (d j : Nat) (out : List Int), l.length - j = d → j ≤ l.length → out.length + d ≤ 1000 →
 Ev (fun k => cubbyref09_Succs.l0 k x out l (j : Int)) ((l.drop j).foldl (addT x.length) out) := by
 intro d
 induction d with
 | zero =>
  intro j out hd hj ho
  refine Ev.step (f := fun _ => some out) (fun k => by simp only [cubbyref09_Succs.l0]; rw [zD (by omega)]) ?_
  rw [List.drop_eq_nil_of_le (by omega)]
  exact Ev.now _
 | succ d ih =>
  intro j out hd hj ho
  have hlt : j < l.length := by omega
  rw [drop_cons hlt, List.foldl_cons]
  have hs : ∀ out', out'.length ≤ out.length + 1 → Ev (fun k => cubbyref09_Succs.l0 k x out' l ((j + 1 : Nat) : Int)) ((l.drop (j + 1)).foldl (addT x.length) out') := fun out' h => ih (j + 1) out' (by omega) (by omega) (by omega)
  by_cases h0 : 0 ≤ l[j]
  ·by_cases h1 : l[j] < x.length
   ·have hc := has_ev out l[j] (by omega)
    refine Ev.step (f := fun k => (cubbyref09_has.f k out l[j]).bind fun t => if t = true then cubbyref09_Succs.l0 k x out l ((j + 1 : Nat) : Int) else if out.length < 17592186044416 then cubbyref09_Succs.l0 k x (out ++ [l[j]]) l ((j + 1 : Nat) : Int) else none) (fun k => by
     simp only [cubbyref09_Succs.l0]; rw [zC (by omega), zC (by omega), rd_get hlt, zC h0, zC h1, wrap_nat (by omega)]) ?_
    refine Ev.bind hc ?_
    by_cases hm : l[j] ∈ out
    ·rw [show addT x.length out l[j] = out by unfold addT; rw [zD (by simp [hm])]]
     simp only [hm, decide_true, if_true]
     exact hs out (by omega)
    ·rw [show addT x.length out l[j] = out ++ [l[j]] by unfold addT; rw [zC ⟨h0, h1, hm⟩]]
     simp only [hm, decide_false, Bool.false_eq_true, if_false, show out.length < 17592186044416 from by omega, if_true]
     exact hs _ (by simp)
   ·rw [show addT x.length out l[j] = out by unfold addT; rw [zD (by omega)]]
    refine Ev.step (f := fun k => cubbyref09_Succs.l0 k x out l ((j + 1 : Nat) : Int)) (fun k => by
     simp only [cubbyref09_Succs.l0]; rw [zC (by omega), zC (by omega), rd_get hlt, zC h0, zD h1, wrap_nat (by omega)]) (hs out (by omega))
  ·rw [show addT x.length out l[j] = out by unfold addT; rw [zD (by omega)]]
   refine Ev.step (f := fun k => cubbyref09_Succs.l0 k x out l ((j + 1 : Nat) : Int)) (fun k => by
    simp only [cubbyref09_Succs.l0]; rw [zC (by omega), zC (by omega), rd_get hlt, zD (by omega), wrap_nat (by omega)]) (hs out (by omega))
theorem rd_last {b : List SIns} (hb : b ≠ []) (hl : b.length ≤ 4611686018427387904) : (0 ≤ wrap64 ((b.length : Int) - 1)) ∧ (wrap64 ((b.length : Int) - 1) < b.length) ∧ rd_TIns b (wrap64 ((b.length : Int) - 1)) = lastOf b := by
 have h0 : 0 < b.length := List.length_pos_iff.2 hb
 rw [wrap_pred h0 hl]
 refine ⟨by omega, by omega, ?_⟩
 rfl
def Small (x : List (List SIns)) : Prop := x.length ≤ 4611686018427387904 ∧ ∀ b ∈ x, b.length ≤ 4611686018427387904
theorem small_at {x : List (List SIns)} (h : Small x) (i : Int) : (blockAt x i).length ≤ 4611686018427387904 := by
 unfold blockAt
 rw [List.getD_eq_getElem?_getD]
 cases e : x[i.toNat]? with
 | none => simp
 | some b => exact h.2 b (List.mem_of_getElem? e)
theorem succs_ev (x : List (List SIns)) (i : Int) (h : Small x) : Ev (fun k => flow_Succs.f k x i) (succs x i) := by
 have nil : Ev (fun k => flow_Succs.j0 k x i true) ([] : List Int) := Ev.step (f := fun _ => some []) (fun k => by simp only [flow_Succs.j0, if_true]) (Ev.now _)
 by_cases h0 : i < 0
 ·refine Ev.congr (f := fun k => flow_Succs.j0 k x i true) (fun k => by unfold flow_Succs.f; rw [zC h0]) ?_
  rw [show succs x i = [] by unfold succs; rw [zC (Or.inl h0)]]
  exact nil
 ·by_cases h1 : i < x.length
  ·have hb := small_at h i
   by_cases h2 : blockAt x i = []
   ·refine Ev.congr (f := fun k => flow_Succs.j0 k x i true) (fun k => by
     unfold flow_Succs.f; rw [zD h0, zD (by omega), zC (by omega), zC h1]
     rw [show (((rd_LIns x i).length : Int) == 0) = true from by rw [show rd_LIns x i = [] from h2]; rfl]) ?_
    rw [show succs x i = [] by unfold succs; rw [zC (Or.inr (Or.inr h2))]]
    exact nil
   ·obtain ⟨p1, p2, p3⟩ := rd_last h2 hb
    refine Ev.congr (f := fun k => flow_Succs.j0 k x i false) (fun k => by
     unfold flow_Succs.f; rw [zD h0, zD (by omega), zC (by omega), zC h1]
     rw [show (((rd_LIns x i).length : Int) == 0) = false from by
      rw [beq_eq_false_iff_ne]
      intro e
      exact h2 (List.eq_nil_of_length_eq_zero (by exact Int.ofNat.inj e))]) ?_
    rw [show succs x i = (targets (lastOf (blockAt x i))).foldl (addT x.length) [] by unfold succs; rw [zD (by simp only [h2, or_false]; omega)]]
    have ht := targets_len (lastOf (blockAt x i))
    refine Ev.step (f := fun k => flow_Succs.l0 k x [] (targets (lastOf (blockAt x i))) ((targets (lastOf (blockAt x i))).length : Int) 0) (fun k => by
     simp only [flow_Succs.j0]
     rw [zD (by simp), zC (by omega), zC h1]
     show (if 0 ≤ wrap64 (((blockAt x i).length : Int) - 1) then _ else _) = _
     rw [zC p1]
     show (if wrap64 (((blockAt x i).length : Int) - 1) < ((blockAt x i).length : Int) then _ else _) = _
     rw [zC p2]
     show (ir_Targets.f (rd_TIns (blockAt x i) (wrap64 (((blockAt x i).length : Int) - 1))).f0 (rd_TIns (blockAt x i) (wrap64 (((blockAt x i).length : Int) - 1))).f1 (rd_TIns (blockAt x i) (wrap64 (((blockAt x i).length : Int) - 1))).f2 (rd_TIns (blockAt x i) (wrap64 (((blockAt x i).length : Int) - 1))).f3 (rd_TIns (blockAt x i) (wrap64 (((blockAt x i).length : Int) - 1))).f4 (rd_TIns (blockAt x i) (wrap64 (((blockAt x i).length : Int) - 1))).f5).bind _ = _
     rw [p3, ir_targets]
     rfl) ?_
    have := succs_loop x (targets (lastOf (blockAt x i))) (by omega) _ 0 [] rfl (by omega) (by simp; omega)
    simpa using this
  ·refine Ev.congr (f := fun k => flow_Succs.j0 k x i true) (fun k => by unfold flow_Succs.f; rw [zD h0, zC (by omega)]) ?_
   rw [show succs x i = [] by unfold succs; rw [zC (Or.inr (Or.inl (by omega)))]]
   exact nil
theorem refsuccs_ev (x : List (List SIns)) (i : Int) (h : Small x) : Ev (fun k => cubbyref09_Succs.f k x i) (succs x i) := by
 have nil : Ev (fun k => cubbyref09_Succs.j0 k x i [] true) ([] : List Int) := Ev.step (f := fun _ => some []) (fun k => by simp only [cubbyref09_Succs.j0, if_true]) (Ev.now _)
 by_cases h0 : i < 0
 ·refine Ev.congr (f := fun k => cubbyref09_Succs.j0 k x i [] true) (fun k => by unfold cubbyref09_Succs.f; simp only [zJ]; rw [zC h0]) ?_
  rw [show succs x i = [] by unfold succs; rw [zC (Or.inl h0)]]
  exact nil
 ·by_cases h1 : i < x.length
  ·have hb := small_at h i
   by_cases h2 : blockAt x i = []
   ·refine Ev.congr (f := fun k => cubbyref09_Succs.j0 k x i [] true) (fun k => by
     unfold cubbyref09_Succs.f; simp only [zJ]; rw [zD h0, zD (by omega), zC (by omega), zC h1]
     rw [show (((rd_LIns x i).length : Int) == 0) = true from by rw [show rd_LIns x i = [] from h2]; rfl]) ?_
    rw [show succs x i = [] by unfold succs; rw [zC (Or.inr (Or.inr h2))]]
    exact nil
   ·obtain ⟨p1, p2, p3⟩ := rd_last h2 hb
    refine Ev.congr (f := fun k => cubbyref09_Succs.j0 k x i [] false) (fun k => by
     unfold cubbyref09_Succs.f; simp only [zJ]; rw [zD h0, zD (by omega), zC (by omega), zC h1]
     rw [show (((rd_LIns x i).length : Int) == 0) = false from by
      rw [beq_eq_false_iff_ne]
      intro e
      exact h2 (List.eq_nil_of_length_eq_zero (by exact Int.ofNat.inj e))]) ?_
    rw [show succs x i = (targets (lastOf (blockAt x i))).foldl (addT x.length) [] by unfold succs; rw [zD (by simp only [h2, or_false]; omega)]]
    have ht := targets_len (lastOf (blockAt x i))
    refine Ev.step (f := fun k => cubbyref09_Succs.l0 k x [] (targets (lastOf (blockAt x i))) 0) (fun k => by
     simp only [cubbyref09_Succs.j0]
     rw [zD (by simp), zC (by omega), zC h1]
     show (if 0 ≤ wrap64 (((blockAt x i).length : Int) - 1) then _ else _) = _
     rw [zC p1]
     show (if wrap64 (((blockAt x i).length : Int) - 1) < ((blockAt x i).length : Int) then _ else _) = _
     rw [zC p2]
     show (cubbyref07_Targets.f (rd_TIns (blockAt x i) (wrap64 (((blockAt x i).length : Int) - 1))).f0 (rd_TIns (blockAt x i) (wrap64 (((blockAt x i).length : Int) - 1))).f1 (rd_TIns (blockAt x i) (wrap64 (((blockAt x i).length : Int) - 1))).f2 (rd_TIns (blockAt x i) (wrap64 (((blockAt x i).length : Int) - 1))).f3 (rd_TIns (blockAt x i) (wrap64 (((blockAt x i).length : Int) - 1))).f4 (rd_TIns (blockAt x i) (wrap64 (((blockAt x i).length : Int) - 1))).f5).bind _ = _
     rw [p3, ref_targets]
     rfl) ?_
    have := refsuccs_loop x (targets (lastOf (blockAt x i))) (by omega) _ 0 [] rfl (by omega) (by simp; omega)
    simpa using this
  ·refine Ev.congr (f := fun k => cubbyref09_Succs.j0 k x i [] true) (fun k => by unfold cubbyref09_Succs.f; simp only [zJ]; rw [zD h0, zC (by omega)]) ?_
   rw [show succs x i = [] by unfold succs; rw [zC (Or.inr (Or.inl (by omega)))]]
   exact nil
end Go.Proofs.YtpkimbkjjmbmcaaDoor.PlainSuccs
namespace Go.Proofs.YtpkimbkjjmbmcaaDoor.PlainName
open Go Go.RowKit Go.Proofs.YtpkimbkjjmbmcaaDoorW.PrintWords Go.Proofs.YtpkimbkjjmbmcaaDoorW.PrintMore Go.Proofs.YtpkimbkjjmbmcaaDoor.Q Go.Proofs.YtpkimbkjjmbmcaaDoor.Plain
set_option linter.unusedVariables false
set_option linter.unusedSimpArgs false
def lowD (x : UInt8) : Bool := decide ((97 ≤ x.toNat ∧ x.toNat ≤ 122) ∨ (48 ≤ x.toNat ∧ x.toNat ≤ 57))
def nameOk (s : ByteArray) : Bool := decide (1 ≤ s.size ∧ s.size ≤ 12 ∧ 97 ≤ bt s 0) && s.data.toList.all lowD
theorem cut_has (x : UInt8) : nameCut.data.toList.contains x = lowD x := by
 have h : ∀ n, n < 256 → nameCut.data.toList.contains (UInt8.ofNat n) = lowD (UInt8.ofNat n) := by decide +kernel
 have := h x.toNat x.toNat_lt
 rwa [UInt8.ofNat_toNat] at this
theorem dw_nil {p : UInt8 → Bool} : ∀ {l : List UInt8}, l.dropWhile p = [] ↔ ∀ x, x ∈ l → p x = true
 | [] => by simp
 | a :: t => by
  rw [List.dropWhile_cons]
  by_cases h : p a = true
  ·rw [zC h, dw_nil (l := t)]
   constructor
   ·intro g x hx
    rcases List.mem_cons.1 hx with rfl | hx
    ·exact h
    ·exact g x hx
   ·exact fun g x hx => g x (List.mem_cons_of_mem _ hx)
  ·rw [zD h]
   constructor
   ·intro g
    exact absurd g (by simp)
   ·intro g
    exact absurd (g a List.mem_cons_self) h
theorem trim_nil (l cs : List UInt8) : Lib.trimS l cs = [] ↔ l.all (cs.contains ·) = true := by
 unfold Lib.trimS Lib.trimLeftS Lib.trimRightS
 constructor
 ·intro h
  rw [dw_nil] at h
  rw [List.all_eq_true]
  intro x hx
  have h2 : x ∈ l.reverse := List.mem_reverse.2 hx
  rw [← List.takeWhile_append_dropWhile (p := fun x => cs.contains x) (l := l.reverse)] at h2
  rcases List.mem_append.1 h2 with h3 | h3
  ·exact (List.all_eq_true.1 (List.all_takeWhile (p := fun x => cs.contains x) (l := l.reverse))) x h3
  ·exact h x (List.mem_reverse.2 h3)
 ·intro h
  have h1 : l.reverse.dropWhile (cs.contains ·) = [] := by
   rw [dw_nil]
   intro x hx
   exact List.all_eq_true.1 h x (List.mem_reverse.1 hx)
  rw [h1]
  rfl
theorem size_list (s : ByteArray) : s.data.toList.length = s.size := by simp
theorem bt_get {s : ByteArray} {j : Nat} (h : j < s.data.toList.length) : bt s (j : Int) = ((s.data.toList[j]).toNat : Int) := by
 have hs := size_list s
 unfold bt
 rw [dif_pos (by omega)]
 rfl
theorem name_eq (s : ByteArray) : ir_Name.f s = some (nameOk s) := by
 have hs := size_list s
 unfold ir_Name.f
 rw [toList_data]
 by_cases h0 : s.data.toList = []
 ·have : s.size = 0 := by
   rw [h0] at hs
   exact hs.symm
  rw [zC h0]
  unfold nameOk
  rw [zG (by omega)]
  rfl
 ·have h1 : 0 < s.size := by
   rw [← hs]
   exact List.length_pos_iff.2 h0
  rw [zD h0]
  by_cases h2 : (s.size : Int) > 12
  ·rw [zC h2]
   unfold nameOk
   rw [zG (by omega)]
   rfl
  ·rw [zD h2, zC (by omega)]
   by_cases h3 : bt s 0 < 97
   ·rw [zC h3]
    unfold nameOk
    rw [zG (by omega)]
    rfl
   ·rw [zD h3]
    unfold strings_Trim.f
    rw [zC ⟨by omega, rfl⟩]
    simp only [zJ]
    rw [toList_data]
    unfold nameOk
    rw [zF (by omega), Bool.true_and, List.toList_toArray]
    congr 1
    have hc : s.data.toList.all (nameCut.data.toList.contains ·) = s.data.toList.all lowD := by
     congr 1
     funext x
     exact cut_has x
    have ht := trim_nil s.data.toList nameCut.data.toList
    rw [hc] at ht
    by_cases ha : s.data.toList.all lowD = true
    ·rw [ha]
     exact beq_iff_eq.2 (ht.2 ha)
    ·rw [Bool.not_eq_true _ |>.mp ha]
     exact beq_eq_false_iff_ne.2 fun e => ha (ht.1 e)
def restOk (s : ByteArray) (j : Nat) : Bool := (s.data.toList.drop j).all lowD && decide (j = 0 → 97 ≤ bt s 0)
theorem refname_loop (s : ByteArray) (hl : s.size ≤ 12) : ∀ (d j : Nat), s.size - j = d → j ≤ s.size → (j = 0 → 0 < s.size) → Ev (fun k => cubbyref07_Name.l0 k s (j : Int)) (restOk s j) := by
 have hs := size_list s
 intro d
 induction d with
 | zero =>
  intro j hd hj h0
  have : restOk s j = true := by
   unfold restOk
   rw [List.drop_eq_nil_of_le (by omega)]
   simp
   omega
  rw [this]
  exact Ev.step (f := fun _ => some true) (fun k => by simp only [cubbyref07_Name.l0]; rw [zD (by omega)]) (Ev.now _)
 | succ d ih =>
  intro j hd hj h0
  have hlt : j < s.data.toList.length := by omega
  have hb := bt_get hlt
  have hR : restOk s j = (lowD (s.data.toList[j]) && decide (j = 0 → 97 ≤ bt s 0) && restOk s (j + 1)) := by
   unfold restOk
   rw [drop_cons hlt]
   simp
   cases lowD s.data.toList[j] <;> cases (List.drop (j + 1) s.data.toList).all lowD <;> simp
  have hlow : lowD (s.data.toList[j]) = decide ((97 ≤ bt s (j : Int) ∧ bt s (j : Int) ≤ 122) ∨ (48 ≤ bt s (j : Int) ∧ bt s (j : Int) ≤ 57)) := by
   unfold lowD
   rw [hb]
   apply decide_eq_decide.2
   omega
  have hj0 : j = 0 → bt s (j : Int) = bt s 0 := by
   rintro rfl
   rfl
  rw [hR, hlow]
  have hstep : ∀ k, cubbyref07_Name.l0 (k + 1) s (j : Int) = (if (97 ≤ bt s (j : Int) ∧ bt s (j : Int) ≤ 122) ∨ ((48 ≤ bt s (j : Int) ∧ bt s (j : Int) ≤ 57) ∧ j ≠ 0) then cubbyref07_Name.l0 k s ((j + 1 : Nat) : Int) else some false) := by
   intro k
   simp only [cubbyref07_Name.l0]
   rw [zC (by omega : (j : Int) < (s.size : Int)), zC (by omega : (0 : Int) ≤ (j : Int)), wrap_nat (by omega)]
   repeat' split
   all_goals first
    | rfl
    | omega
  by_cases c : (97 ≤ bt s (j : Int) ∧ bt s (j : Int) ≤ 122) ∨ ((48 ≤ bt s (j : Int) ∧ bt s (j : Int) ≤ 57) ∧ j ≠ 0)
  ·refine Ev.step (fun k => (hstep k).trans (zC c)) ?_
   rw [zF (by omega), zF (by intro h; have := hj0 h; omega), Bool.true_and, Bool.true_and]
   exact ih (j + 1) (by omega) (by omega) (by omega)
  ·refine Ev.step (f := fun _ => some false) (fun k => (hstep k).trans (zD c)) ?_
   have : (decide ((97 ≤ bt s (j : Int) ∧ bt s (j : Int) ≤ 122) ∨ (48 ≤ bt s (j : Int) ∧ bt s (j : Int) ≤ 57)) && decide (j = 0 → 97 ≤ bt s 0)) = false := by
    by_cases c1 : (97 ≤ bt s (j : Int) ∧ bt s (j : Int) ≤ 122) ∨ (48 ≤ bt s (j : Int) ∧ bt s (j : Int) ≤ 57)
    ·rw [zG (p := (j = 0 → 97 ≤ bt s 0)) (fun h => by
      have h9 : j = 0 := by omega
      have := hj0 h9
      have := h h9
      omega), Bool.and_false]
    ·rw [zG c1, Bool.false_and]
   rw [this, Bool.false_and]
   exact Ev.now _
theorem refname_ev (s : ByteArray) : Ev (fun k => cubbyref07_Name.f k s) (nameOk s) := by
 have hyes : (s.size < 1 ∨ 12 < s.size) → Ev (fun k => cubbyref07_Name.j0 k s true) (nameOk s) := fun h => by
  have : nameOk s = false := by
   unfold nameOk
   rw [zG (by omega)]
   rfl
  rw [this]
  exact Ev.step (f := fun _ => some false) (fun k => by simp only [cubbyref07_Name.j0, if_true]) (Ev.now _)
 by_cases h1 : (s.size : Int) < 1
 ·exact Ev.congr (fun k => by unfold cubbyref07_Name.f; rw [zC h1]) (hyes (by omega))
 refine Ev.congr (f := fun k => cubbyref07_Name.j0 k s (decide ((s.size : Int) > 12))) (fun k => by unfold cubbyref07_Name.f; rw [zD h1]) ?_
 by_cases h2 : (s.size : Int) > 12
 ·rw [zF h2]
  exact hyes (by omega)
 ·rw [zG h2]
  refine Ev.step (f := fun k => cubbyref07_Name.l0 k s ((0 : Nat) : Int)) (fun k => by simp only [cubbyref07_Name.j0]; rw [zD (by simp)]; rfl) ?_
  have := refname_loop s (by omega) s.size 0 (by omega) (by omega) (by omega)
  have hR : restOk s 0 = nameOk s := by
   unfold restOk nameOk
   rw [List.drop_zero, Bool.and_comm]
   congr 1
   apply decide_eq_decide.2
   constructor
   ·intro h
    exact ⟨by omega, by omega, h rfl⟩
   ·intro h _
    exact h.2.2
  rw [← hR]
  exact this
end Go.Proofs.YtpkimbkjjmbmcaaDoor.PlainName
namespace Go.Proofs.YtpkimbkjjmbmcaaDoor.PlainOne
open Go Go.RowKit Go.Proofs.YtpkimbkjjmbmcaaDoorW.PrintWords Go.Proofs.YtpkimbkjjmbmcaaDoorW.PrintMore Go.Proofs.YtpkimbkjjmbmcaaDoor.Q Go.Proofs.YtpkimbkjjmbmcaaDoor.Plain Go.Proofs.YtpkimbkjjmbmcaaDoor.PlainIr Go.Proofs.YtpkimbkjjmbmcaaDoor.PlainName
set_option linter.unusedVariables false
set_option linter.unusedSimpArgs false
def hasD (op : Int) : Prop := (1 ≤ op ∧ op ≤ 8) ∨ op = 11
instance (op : Int) : Decidable (hasD op) := by unfold hasD; infer_instance
def bareP (op d a b : Int) (nm : ByteArray) (args : List Int) : Prop :=
 (op = 11 ∨ (nm.toList = ([] : List UInt8) ∧ args.length = 0)) ∧ ((op = 9 ∨ op = 10 ∨ op = 12 ∨ op = 14) → d = 0) ∧ (op = 11 → a = 0) ∧ ((op = 1 ∨ op = 2 ∨ op = 8 ∨ op = 10 ∨ op = 11 ∨ op = 12 ∨ op = 14) → b = 0)
instance (op d a b : Int) (nm : ByteArray) (args : List Int) : Decidable (bareP op d a b nm args) := by unfold bareP; infer_instance
def e5 (op : Int) (args : List Int) : Int := if op = 11 ∧ 4 < args.length then 192 else 0
def e4 (op : Int) (nm : ByteArray) (args : List Int) : Int := if op = 11 ∧ nameOk nm = false then 70 else e5 op args
def e3 (blocks op d a b : Int) (nm : ByteArray) (args : List Int) : Int := if (targets7 op d a b).any (oddReg blocks) = true then 74 else e4 op nm args
def e2 (blocks op d a b : Int) (nm : ByteArray) (args : List Int) : Int := if op = 1 ∧ (a < 0 ∨ 65536 ≤ a) then 81 else e3 blocks op d a b nm args
def e1 (regs blocks op d a b : Int) (nm : ByteArray) (args : List Int) : Int := if (hasD op ∧ oddReg regs d = true) ∨ (uses op a b args).any (oddReg regs) = true then 73 else e2 blocks op d a b nm args
def oneE (regs blocks op d a b : Int) (nm : ByteArray) (args : List Int) (last : Bool) : Int := if (1 ≤ op ∧ op ≤ 14) ∧ lastOp op = last ∧ bareP op d a b nm args then e1 regs blocks op d a b nm args else 72
theorem odd_iff (m n : Int) : oddReg m n = true ↔ n < 0 ∨ m ≤ n := by
 unfold oddReg
 exact decide_eq_true_iff
theorem any_odd {m : Int} {l : List Int} : l.any (oddReg m) = true ↔ ∃ i : Nat, i < l.length ∧ oddReg m (rd l (i : Int)) = true := by
 rw [List.any_eq_true]
 constructor
 ·rintro ⟨x, hx, h⟩
  obtain ⟨i, hi, rfl⟩ := List.mem_iff_getElem.1 hx
  exact ⟨i, hi, by rw [rd_get hi]; exact h⟩
 ·rintro ⟨i, hi, h⟩
  rw [rd_get hi] at h
  exact ⟨_, List.getElem_mem hi, h⟩

theorem refwithin_ev (l : List Int) (most : Int) (hl : l.length ≤ 4611686018427387904) : Ev (fun k => cubbyref07_within.f k l most) (!(l.any (oddReg most))) := by
 show Ev (fun k => cubbyref07_within.l0 k l most ((0 : Nat) : Int)) _
 refine seek (fun k i => cubbyref07_within.l0 k l most (i : Int)) l.length (fun i => oddReg most (rd l (i : Int)) = true) false _ ?_ ?_ ?_ ?_
 ·intro i hi hb
  rw [odd_iff] at hb
  refine Ev.step (f := fun _ => some false) (fun k => ?_) (Ev.now _)
  simp only [cubbyref07_within.l0]
  rw [zC (by omega), zC (by omega)]
  split
  ·rfl
  ·rw [zC (by omega)]
 ·intro i hi hb r' hE
  rw [odd_iff] at hb
  refine Ev.step (fun k => ?_) hE
  simp only [cubbyref07_within.l0]
  rw [zC (by omega), zC (by omega), zD (by omega), zD (by omega), wrap_nat (by omega)]
 ·intro h
  rw [any_odd.2 h]
  rfl
 ·intro h
  have : l.any (oddReg most) = false := by
   rw [← Bool.not_eq_true, any_odd]
   rintro ⟨i, hi, hb⟩
   exact h i hi hb
  rw [this]
  exact Ev.step (f := fun _ => some true) (fun k => by simp only [cubbyref07_within.l0]; rw [zD (by omega)]) (Ev.now _)
theorem refbare_ev (op d a b : Int) (nm : ByteArray) (args : List Int) (h : 1 ≤ op ∧ op ≤ 14) : Ev (fun k => cubbyref07_bare.f k op d a b nm args) (decide (bareP op d a b nm args)) := by
 have h3 : ∀ B, (B = true ↔ op = 10 ∨ op = 12 ∨ op = 14) → (op = 10 ∨ op = 11 ∨ op = 12 ∨ op = 14) → Ev (fun k => cubbyref07_bare.j3 k op B op d a b nm args) (if op = 11 then decide (a = 0 ∧ b = 0) else decide (d = 0 ∧ b = 0)) := by
  intro B hB ho
  refine Ev.step (f := fun _ => some _) (fun k => ?_) (Ev.now _)
  simp only [cubbyref07_bare.j3]
  by_cases c : op = 11
  ·rw [zD (by rw [hB]; omega), zC c, zC c]
   by_cases c1 : a = 0
   ·rw [zC c1]
    simp [c1]
    rfl
   ·rw [zD c1]
    simp [c1]
  ·rw [zC (by rw [hB]; omega), zD c]
   by_cases c1 : d = 0
   ·rw [zC c1]
    simp [c1]
    rfl
   ·rw [zD c1]
    simp [c1]
 have h2 : ∀ B, (B = true ↔ (3 ≤ op ∧ op ≤ 7) ∨ op = 13) → ¬ (op = 1 ∨ op = 2 ∨ op = 8) → Ev (fun k => cubbyref07_bare.j2 k op B op d a b nm args) (if (3 ≤ op ∧ op ≤ 7) ∨ op = 13 then true else if op = 9 then decide (d = 0) else if op = 11 then decide (a = 0 ∧ b = 0) else decide (d = 0 ∧ b = 0)) := by
  intro B hB ho
  by_cases c : (3 ≤ op ∧ op ≤ 7) ∨ op = 13
  ·rw [zC c]
   exact Ev.step (f := fun _ => some true) (fun k => by simp only [cubbyref07_bare.j2]; rw [zC (hB.2 c)]) (Ev.now _)
  ·rw [zD c]
   by_cases c1 : op = 9
   ·rw [zC c1]
    exact Ev.step (f := fun _ => some (d == 0)) (fun k => by simp only [cubbyref07_bare.j2]; rw [zD (by rw [hB]; exact c), zC c1]) (Ev.now _)
   ·rw [zD c1]
    by_cases c2 : op = 10
    ·exact Ev.step (fun k => by simp only [cubbyref07_bare.j2]; rw [zD (by rw [hB]; exact c), zD c1, zC c2]) (h3 (op == 10) (by rw [beq_iff_eq]; omega) (by omega))
    ·by_cases c3 : op = 14
     ·exact Ev.step (fun k => by simp only [cubbyref07_bare.j2]; rw [zD (by rw [hB]; exact c), zD c1, zD c2, zC c3]) (h3 (op == 14) (by rw [beq_iff_eq]; omega) (by omega))
     ·exact Ev.step (fun k => by simp only [cubbyref07_bare.j2]; rw [zD (by rw [hB]; exact c), zD c1, zD c2, zD c3]) (h3 (op == 12) (by rw [beq_iff_eq]; omega) (by omega))
 have h1 : ∀ B, (B = true ↔ op = 1 ∨ op = 2 ∨ op = 8) → Ev (fun k => cubbyref07_bare.j1 k op B op d a b nm args) (if op = 1 ∨ op = 2 ∨ op = 8 then decide (b = 0) else if (3 ≤ op ∧ op ≤ 7) ∨ op = 13 then true else if op = 9 then decide (d = 0) else if op = 11 then decide (a = 0 ∧ b = 0) else decide (d = 0 ∧ b = 0)) := by
  intro B hB
  by_cases c : op = 1 ∨ op = 2 ∨ op = 8
  ·rw [zC c]
   exact Ev.step (f := fun _ => some (b == 0)) (fun k => by simp only [cubbyref07_bare.j1]; rw [zC (hB.2 c)]) (Ev.now _)
  ·rw [zD c]
   have hn : ¬ B = true := by rw [hB]; exact c
   by_cases c3 : op = 3
   ·exact Ev.step (fun k => by simp only [cubbyref07_bare.j1]; rw [zD hn, zC c3]) (h2 (op == 3) (by rw [beq_iff_eq]; omega) c)
   by_cases c4 : op = 4
   ·exact Ev.step (fun k => by simp only [cubbyref07_bare.j1]; rw [zD hn, zD c3, zC c4]) (h2 (op == 4) (by rw [beq_iff_eq]; omega) c)
   by_cases c5 : op = 5
   ·exact Ev.step (fun k => by simp only [cubbyref07_bare.j1]; rw [zD hn, zD c3, zD c4, zC c5]) (h2 (op == 5) (by rw [beq_iff_eq]; omega) c)
   by_cases c6 : op = 6
   ·exact Ev.step (fun k => by simp only [cubbyref07_bare.j1]; rw [zD hn, zD c3, zD c4, zD c5, zC c6]) (h2 (op == 6) (by rw [beq_iff_eq]; omega) c)
   by_cases c7 : op = 7
   ·exact Ev.step (fun k => by simp only [cubbyref07_bare.j1]; rw [zD hn, zD c3, zD c4, zD c5, zD c6, zC c7]) (h2 (op == 7) (by rw [beq_iff_eq]; omega) c)
   ·exact Ev.step (fun k => by simp only [cubbyref07_bare.j1]; rw [zD hn, zD c3, zD c4, zD c5, zD c6, zD c7]) (h2 (op == 13) (by rw [beq_iff_eq]; omega) c)
 have h0 : Ev (fun k => cubbyref07_bare.j0 k false op d a b nm args) (if op = 1 ∨ op = 2 ∨ op = 8 then decide (b = 0) else if (3 ≤ op ∧ op ≤ 7) ∨ op = 13 then true else if op = 9 then decide (d = 0) else if op = 11 then decide (a = 0 ∧ b = 0) else decide (d = 0 ∧ b = 0)) := by
  by_cases c1 : op = 1
  ·exact Ev.step (fun k => by simp only [cubbyref07_bare.j0]; rw [zD Bool.false_ne_true, zC c1]) (h1 (op == 1) (by rw [beq_iff_eq]; omega))
  by_cases c2 : op = 2
  ·exact Ev.step (fun k => by simp only [cubbyref07_bare.j0]; rw [zD Bool.false_ne_true, zD c1, zC c2]) (h1 (op == 2) (by rw [beq_iff_eq]; omega))
  ·exact Ev.step (fun k => by simp only [cubbyref07_bare.j0]; rw [zD Bool.false_ne_true, zD c1, zD c2]) (h1 (op == 8) (by rw [beq_iff_eq]; omega))
 have hsame : (op = 11 ∨ (nm.toList = ([] : List UInt8) ∧ args.length = 0)) → (if op = 1 ∨ op = 2 ∨ op = 8 then decide (b = 0) else if (3 ≤ op ∧ op ≤ 7) ∨ op = 13 then true else if op = 9 then decide (d = 0) else if op = 11 then decide (a = 0 ∧ b = 0) else decide (d = 0 ∧ b = 0)) = decide (bareP op d a b nm args) := by
  intro hb
  unfold bareP
  repeat' split
  all_goals first
   | (apply decide_eq_decide.2; constructor <;> intro hx <;> first | omega | (refine ⟨hb, ?_, ?_, ?_⟩ <;> omega))
   | (symm; apply zF; refine ⟨hb, ?_, ?_, ?_⟩ <;> omega)
 by_cases c : op = 11
 ·rw [← hsame (.inl c)]
  exact Ev.congr (fun k => by unfold cubbyref07_bare.f; rw [zC c]) h0
 ·by_cases c1 : nm.toList = ([] : List UInt8)
  ·refine Ev.congr (fun k => by unfold cubbyref07_bare.f; rw [zD c, zC c1]) ?_
   by_cases c2 : (args.length : Int) > 0
   ·rw [zF c2, zG (by unfold bareP; omega)]
    exact Ev.step (f := fun _ => some false) (fun k => by simp only [cubbyref07_bare.j0]; rw [zC trivial]) (Ev.now _)
   ·rw [zG c2, ← hsame (.inr ⟨c1, by omega⟩)]
    exact h0
  ·refine Ev.congr (fun k => by unfold cubbyref07_bare.f; rw [zD c, zD c1]) ?_
   rw [zG (p := bareP op d a b nm args) (by
    unfold bareP
    rintro ⟨h4 | h4, _⟩
    ·exact c h4
    ·exact c1 h4.1)]
   exact Ev.step (f := fun _ => some false) (fun k => by simp only [cubbyref07_bare.j0]; rw [zC trivial]) (Ev.now _)
theorem uses_short {op a b : Int} {args : List Int} (ha : args.length ≤ 17592186043904) : (uses op a b args).length ≤ 4611686018427387904 := by
 unfold uses
 repeat' split
 all_goals first | omega | simp
theorem targets_short (op d a b : Int) : (targets7 op d a b).length ≤ 4611686018427387904 := by
 unfold targets7
 repeat' split
 all_goals simp
theorem defOf_iff {op d : Int} : (defOf op d = -1 ↔ ¬ hasD op ∨ d = -1) ∧ (hasD op → defOf op d = d) := by
 unfold defOf hasD
 constructor
 ·split <;> omega
 ·intro h
  rw [zC h]
section
variable (op d a b : Int) (nm : ByteArray) (args : List Int)
theorem r4 (B : Bool) : Ev (fun k => cubbyref07_One.j4 k B op d a b nm args) (if B = true then 70 else e5 op args) := by
 refine Ev.step (f := fun _ => some _) (fun k => ?_) (Ev.now _)
 simp only [cubbyref07_One.j4]
 unfold e5
 repeat' split
 all_goals first | rfl | omega
theorem r3 (blocks : Int) (B : Bool) : Ev (fun k => cubbyref07_One.j3 k blocks B op d a b nm args) (if B = true then 81 else e3 blocks op d a b nm args) := by
 cases B
 ·rw [zD Bool.false_ne_true]
  refine Ev.step (fun k => by simp only [cubbyref07_One.j3]; rw [zD Bool.false_ne_true, reftargets_eq, zJ]) (Ev.bind (refwithin_ev (targets7 op d a b) blocks (targets_short op d a b)) ?_)
  unfold e3
  by_cases c : (targets7 op d a b).any (oddReg blocks) = true
  ·rw [zC c, c]
   exact Ev.congr (f := fun _ => some 74) (fun k => by rw [zD (by decide)]) (Ev.now _)
  ·rw [zD c, (Bool.not_eq_true _).mp c]
   unfold e4
   by_cases c1 : op = 11
   ·refine Ev.congr (fun k => by rw [zC (by decide), zC c1]) (Ev.bind (refname_ev nm) ?_)
    have := r4 op d a b nm args (!nameOk nm)
    cases hn : nameOk nm
    ·rw [hn] at this
     rw [zC ⟨c1, rfl⟩]
     exact this
    ·rw [hn] at this
     rw [zD (by simp)]
     exact this
   ·rw [zD (fun h => c1 h.1)]
    exact Ev.congr (fun k => by rw [zC (by decide), zD c1]) (r4 op d a b nm args false)
 ·exact Ev.step (f := fun _ => some 81) (fun k => by simp only [cubbyref07_One.j3]; rw [zC trivial]) (Ev.now _)
theorem r2 (blocks : Int) (B : Bool) : Ev (fun k => cubbyref07_One.j2 k blocks B op d a b nm args) (if B = true then 73 else e2 blocks op d a b nm args) := by
 cases B
 ·rw [zD Bool.false_ne_true]
  unfold e2
  by_cases c : op = 1
  ·by_cases c1 : a < 0
   ·rw [zC ⟨c, .inl c1⟩]
    exact Ev.step (fun k => by simp only [cubbyref07_One.j2]; rw [zD Bool.false_ne_true, zC c, zC c1]) (r3 op d a b nm args blocks true)
   ·refine Ev.step (fun k => by simp only [cubbyref07_One.j2]; rw [zD Bool.false_ne_true, zC c, zD c1]) ?_
    have := r3 op d a b nm args blocks (decide (a ≥ 65536))
    by_cases c2 : a ≥ 65536
    ·rw [zC ⟨c, .inr c2⟩]
     rw [zF c2] at this ⊢
     exact this
    ·rw [zD (by omega)]
     rw [zG c2] at this ⊢
     exact this
  ·rw [zD (by omega)]
   exact Ev.step (fun k => by simp only [cubbyref07_One.j2]; rw [zD Bool.false_ne_true, zD c]) (r3 op d a b nm args blocks false)
 ·exact Ev.step (f := fun _ => some 73) (fun k => by simp only [cubbyref07_One.j2]; rw [zC trivial]) (Ev.now _)
theorem r1 (h : 1 ≤ op ∧ op ≤ 14) (blocks : Int) (B : Bool) : Ev (fun k => cubbyref07_One.j1 k blocks B op d a b nm args) (if B = true ∨ (hasD op ∧ d = -1) then 73 else e2 blocks op d a b nm args) := by
 cases B
 ·have hd := (defOf_iff (op := op) (d := d)).1
  by_cases c : defOf op d = -1
  ·by_cases c9 : op = 9
   ·rw [zD (by unfold hasD; rintro (x | x) <;> first | exact absurd x (by decide) | omega)]
    exact Ev.step (fun k => by simp only [cubbyref07_One.j1]; rw [zD Bool.false_ne_true, refdef_eq, zJ, zC c, zC c9]) (r2 op d a b nm args blocks false)
   ·by_cases c10 : op = 10
    ·rw [zD (by unfold hasD; rintro (x | x) <;> first | exact absurd x (by decide) | omega)]
     exact Ev.step (fun k => by simp only [cubbyref07_One.j1]; rw [zD Bool.false_ne_true, refdef_eq, zJ, zC c, zD c9, zC c10]) (r2 op d a b nm args blocks false)
    ·refine Ev.step (fun k => by simp only [cubbyref07_One.j1]; rw [zD Bool.false_ne_true, refdef_eq, zJ, zC c, zD c9, zD c10, reflast_eq, zJ]) ?_
     have := r2 op d a b nm args blocks (!lastOp op)
     by_cases cl : 12 ≤ op ∧ op ≤ 14
     ·rw [zD (by unfold hasD; rintro (x | x) <;> first | exact absurd x (by decide) | omega)]
      rw [show lastOp op = true from zF cl] at this ⊢
      exact this
     ·rw [zC (.inr ⟨by unfold hasD; omega, by unfold hasD at hd; omega⟩)]
      rw [show lastOp op = false from zG cl] at this ⊢
      exact this
  ·rw [zD (by
    rintro (x | x)
    ·exact absurd x (by decide)
    ·exact c (hd.2 (.inr x.2)))]
   exact Ev.step (fun k => by simp only [cubbyref07_One.j1]; rw [zD Bool.false_ne_true, refdef_eq, zJ, zD c]) (r2 op d a b nm args blocks false)
 ·rw [zC (.inl rfl)]
  exact Ev.step (f := fun _ => some 73) (fun k => by simp only [cubbyref07_One.j1]; rw [zC trivial]) (Ev.now _)
theorem r0 (h : 1 ≤ op ∧ op ≤ 14) (ha : args.length ≤ 17592186043904) (regs blocks : Int) (B : Bool) : Ev (fun k => cubbyref07_One.j0 k regs blocks B op d a b nm args) (if B = true then 72 else e1 regs blocks op d a b nm args) := by
 cases B
 ·rw [zD Bool.false_ne_true]
  have hd := (defOf_iff (op := op) (d := d))
  have hj : Ev (fun k => (cubbyref07_Uses.f k op d a b nm args).bind fun t273 => (cubbyref07_within.f k t273 regs).bind fun t276 => cubbyref07_One.j1 k blocks (!t276) op d a b nm args) (if (uses op a b args).any (oddReg regs) = true ∨ (hasD op ∧ d = -1) then 73 else e2 blocks op d a b nm args) := by
   refine Ev.bind (refuses_ev op d a b nm args ha) (Ev.bind (refwithin_ev _ regs (uses_short ha)) ?_)
   have := r1 op d a b nm args h blocks ((uses op a b args).any (oddReg regs))
   rw [Bool.not_not]
   exact this
  by_cases c : defOf op d = -1
  ·refine Ev.step (fun k => by simp only [cubbyref07_One.j0]; rw [zD Bool.false_ne_true, refdef_eq, zJ, zC c]) ?_
   have e : e1 regs blocks op d a b nm args = (if (uses op a b args).any (oddReg regs) = true ∨ (hasD op ∧ d = -1) then 73 else e2 blocks op d a b nm args) := by
    unfold e1
    have h1 : ((hasD op ∧ oddReg regs d = true) ∨ (uses op a b args).any (oddReg regs) = true) ↔ ((uses op a b args).any (oddReg regs) = true ∨ (hasD op ∧ d = -1)) := by
     rw [odd_iff]
     have h2 := hd.1.1 c
     constructor
     ·rintro (⟨x, _⟩ | x)
      ·exact .inr ⟨x, by rcases h2 with h2 | h2; exact absurd x h2; exact h2⟩
      ·exact .inl x
     ·rintro (x | ⟨x, y⟩)
      ·exact .inr x
      ·exact .inl ⟨x, .inl (by omega)⟩
    simp only [h1]
   rw [e]
   exact hj
  ·have hh : hasD op := Decidable.byContradiction fun x => c (hd.1.2 (.inl x))
   have hdd := hd.2 hh
   have hne : d ≠ -1 := fun x => c (hd.1.2 (.inr x))
   by_cases c1 : d < 0
   ·have e : e1 regs blocks op d a b nm args = 73 := by
     unfold e1
     rw [zC (.inl ⟨hh, (odd_iff _ _).2 (.inl c1)⟩)]
    rw [e]
    have := r1 op d a b nm args h blocks true
    rw [zC (.inl rfl)] at this
    exact Ev.step (fun k => by simp only [cubbyref07_One.j0]; rw [zD Bool.false_ne_true, refdef_eq, zJ, zD c, zJ, zC (by omega)]) this
   ·by_cases c2 : d ≥ regs
    ·have e : e1 regs blocks op d a b nm args = 73 := by
      unfold e1
      rw [zC (.inl ⟨hh, (odd_iff _ _).2 (.inr c2)⟩)]
     rw [e]
     have := r1 op d a b nm args h blocks true
     rw [zC (.inl rfl)] at this
     exact Ev.step (fun k => by simp only [cubbyref07_One.j0]; rw [zD Bool.false_ne_true, refdef_eq, zJ, zD c, zJ, zD (by omega), zJ, zC (by omega)]) this
    ·have e : e1 regs blocks op d a b nm args = (if (uses op a b args).any (oddReg regs) = true ∨ (hasD op ∧ d = -1) then 73 else e2 blocks op d a b nm args) := by
      unfold e1
      have h1 : ((hasD op ∧ oddReg regs d = true) ∨ (uses op a b args).any (oddReg regs) = true) ↔ ((uses op a b args).any (oddReg regs) = true ∨ (hasD op ∧ d = -1)) := by
       rw [odd_iff]
       constructor
       ·rintro (⟨_, x⟩ | x)
        ·omega
        ·exact .inl x
       ·rintro (x | ⟨_, y⟩)
        ·exact .inr x
        ·exact absurd y hne
      simp only [h1]
     rw [e]
     exact Ev.step (fun k => by simp only [cubbyref07_One.j0]; rw [zD Bool.false_ne_true, refdef_eq, zJ, zD c, zJ, zD (by omega), zJ, zD (by omega)]) hj
 ·exact Ev.step (f := fun _ => some 72) (fun k => by simp only [cubbyref07_One.j0]; rw [zC trivial]) (Ev.now _)
theorem refone_ev (ha : args.length ≤ 17592186043904) (regs blocks : Int) (last : Bool) : Ev (fun k => cubbyref07_One.f k op d a b nm args regs blocks last) (oneE regs blocks op d a b nm args last) := by
 unfold oneE
 have hyes : Ev (fun k => cubbyref07_One.j0 k regs blocks true op d a b nm args) 72 := Ev.step (f := fun _ => some 72) (fun k => by simp only [cubbyref07_One.j0]; rw [zC trivial]) (Ev.now _)
 by_cases c0 : op < 1
 ·rw [zD (by omega)]
  exact Ev.congr (fun k => by unfold cubbyref07_One.f; rw [zC c0]) hyes
 by_cases c1 : op > 14
 ·rw [zD (by omega)]
  exact Ev.congr (fun k => by unfold cubbyref07_One.f; rw [zD c0, zC c1]) hyes
 have h : 1 ≤ op ∧ op ≤ 14 := by omega
 by_cases c2 : lastOp op = last
 ·refine Ev.congr (fun k => by unfold cubbyref07_One.f; rw [zD c0, zD c1, reflast_eq, zJ, zD (by simp [c2])]) (Ev.bind (refbare_ev op d a b nm args h) ?_)
  have := r0 op d a b nm args h ha regs blocks (!decide (bareP op d a b nm args))
  by_cases c3 : bareP op d a b nm args
  ·rw [zC ⟨h, c2, c3⟩]
   rw [zF c3] at this ⊢
   exact this
  ·rw [zD (fun x => c3 x.2.2)]
   rw [zG c3] at this ⊢
   exact this
 ·rw [zD (fun x => c2 x.2.1)]
  exact Ev.congr (fun k => by unfold cubbyref07_One.f; rw [zD c0, zD c1, reflast_eq, zJ, zC (by simpa using c2)]) hyes
end
end Go.Proofs.YtpkimbkjjmbmcaaDoor.PlainOne
namespace Go.Proofs.YtpkimbkjjmbmcaaDoor.PlainLive
open Go Go.RowKit Go.Proofs.YtpkimbkjjmbmcaaDoorW.PrintWords Go.Proofs.YtpkimbkjjmbmcaaDoorW.PrintMore Go.Proofs.YtpkimbkjjmbmcaaDoor.Q Go.Proofs.YtpkimbkjjmbmcaaDoor.Plain Go.Proofs.YtpkimbkjjmbmcaaDoor.PlainIr Go.Proofs.YtpkimbkjjmbmcaaDoor.PlainBits Go.Proofs.YtpkimbkjjmbmcaaDoor.PlainFix Go.Proofs.YtpkimbkjjmbmcaaDoor.PlainSuccs Go.Proofs.YtpkimbkjjmbmcaaDoor.PlainOne
set_option linter.unusedVariables false
set_option linter.unusedSimpArgs false
theorem mem_toL {R s r : Nat} : (r : Int) ∈ toL R s ↔ r < R ∧ s.testBit r = true := by
 unfold toL
 rw [List.mem_map]
 constructor
 ·rintro ⟨q, hq, e⟩
  have : q = r := by omega
  subst this
  exact mem_toN.1 hq
 ·intro h
  exact ⟨r, mem_toN.2 h, rfl⟩
theorem toL_nat {R s : Nat} {n : Int} (h : n ∈ toL R s) : ∃ r : Nat, n = r ∧ r < R ∧ s.testBit r = true := by
 unfold toL at h
 obtain ⟨q, hq, rfl⟩ := List.mem_map.1 h
 exact ⟨q, rfl, mem_toN.1 hq⟩
theorem toL_len (R s : Nat) : (toL R s).length ≤ R := by
 unfold toL
 rw [List.length_map]
 exact toN_len R s

theorem foldB_bit (r : Nat) : ∀ (l : List Int) (s : Nat), (∀ n ∈ l, 0 ≤ n) → (l.foldl (fun s n => withB s n.toNat) s).testBit r = (s.testBit r || decide ((r : Int) ∈ l))
 | [], s, _ => by simp
 | n :: l, s, h => by
  have h0 := h n List.mem_cons_self
  rw [List.foldl_cons, foldB_bit r l _ (fun m hm => h m (List.mem_cons_of_mem _ hm)), withB_bit, Bool.or_assoc]
  congr 1
  rw [← Bool.decide_or]
  apply decide_eq_decide.2
  rw [List.mem_cons]
  constructor
  ·rintro (e | e)
   ·left
    omega
   ·exact .inr e
  ·rintro (e | e)
   ·left
    omega
   ·exact .inr e
theorem foldB_lt {R : Nat} : ∀ (l : List Int) (s : Nat), (∀ n ∈ l, 0 ≤ n ∧ n < R) → s < 2 ^ R → l.foldl (fun s n => withB s n.toNat) s < 2 ^ R
 | [], s, _, hs => hs
 | n :: l, s, h, hs => by
  have h0 := h n List.mem_cons_self
  exact foldB_lt l _ (fun m hm => h m (List.mem_cons_of_mem _ hm)) (withB_lt (by omega) hs)
theorem foldB_mono : ∀ (l : List Int) (s t : Nat), Sub s t → Sub (l.foldl (fun s n => withB s n.toNat) s) (l.foldl (fun s n => withB s n.toNat) t)
 | [], s, t, h => h
 | n :: l, s, t, h => by
  refine foldB_mono l _ _ fun r hr => ?_
  rw [withB_bit, Bool.or_eq_true] at hr ⊢
  rcases hr with hr | hr
  ·exact .inl (h r hr)
  ·exact .inr hr
def thrN (x : SIns) (s : Nat) : Nat := (uses x.f0 x.f2 x.f3 x.f5).foldl (fun s n => withB s n.toNat) (if 0 ≤ defOf x.f0 x.f1 then withoutB s (defOf x.f0 x.f1).toNat else s)
theorem thrN_mono (x : SIns) (s t : Nat) (h : Sub s t) : Sub (thrN x s) (thrN x t) := by
 unfold thrN
 apply foldB_mono
 split
 ·intro r hr
  unfold withoutB at hr ⊢
  rw [Nat.testBit_and, Bool.and_eq_true] at hr ⊢
  exact ⟨h r hr.1, hr.2⟩
 ·exact h
structure RegsOk (R : Nat) (x : SIns) : Prop where
 le : R ≤ 64
 use : ∀ n ∈ uses x.f0 x.f2 x.f3 x.f5, 0 ≤ n ∧ n < R
 def_ : defOf x.f0 x.f1 < R ∧ (0 ≤ defOf x.f0 x.f1 ∨ defOf x.f0 x.f1 = -1)
theorem thrN_lt {R : Nat} {x : SIns} (O : RegsOk R x) {s : Nat} (hs : s < 2 ^ R) : thrN x s < 2 ^ R := by
 unfold thrN
 apply foldB_lt _ _ O.use
 split
 ·exact withoutB_lt hs
 ·exact hs
theorem lt64 {R s : Nat} (hR : R ≤ 64) (hs : s < 2 ^ R) : s < 2 ^ 64 := Nat.lt_of_lt_of_le hs (Nat.pow_le_pow_right (by omega) hR)
theorem thrN_bit {R : Nat} {x : SIns} (O : RegsOk R x) {s : Nat} (hs : s < 2 ^ R) (r : Nat) : (thrN x s).testBit r = ((s.testBit r && decide ((r : Int) ≠ defOf x.f0 x.f1)) || decide ((r : Int) ∈ uses x.f0 x.f2 x.f3 x.f5)) := by
 have hd := O.def_
 have hR := O.le
 unfold thrN
 rw [foldB_bit r _ _ (fun n hn => (O.use n hn).1)]
 congr 1
 split
 ·next h =>
  rw [withoutB_bit (by omega) (lt64 hR hs)]
  congr 1
  apply decide_eq_decide.2
  omega
 ·next h =>
  rw [zF (by omega), Bool.and_true]
def orN (inn : List Nat) (l : List Int) : Nat := l.foldl (fun s k => s ||| at_ inn k.toNat) 0
theorem foldO_mono {x y : List Nat} (h : LE x y) : ∀ (l : List Int) (s t : Nat), Sub s t → Sub (l.foldl (fun s k => s ||| at_ x k.toNat) s) (l.foldl (fun s k => s ||| at_ y k.toNat) t)
 | [], s, t, hs => hs
 | k :: l, s, t, hs => by
  refine foldO_mono h l _ _ fun r hr => ?_
  rw [Nat.testBit_or, Bool.or_eq_true] at hr ⊢
  rcases hr with hr | hr
  ·exact .inl (hs r hr)
  ·exact .inr (h _ r hr)
theorem foldO_lt {R : Nat} {x : List Nat} (h : ∀ b, at_ x b < 2 ^ R) : ∀ (l : List Int) (s : Nat), s < 2 ^ R → l.foldl (fun s k => s ||| at_ x k.toNat) s < 2 ^ R
 | [], s, hs => hs
 | k :: l, s, hs => foldO_lt h l _ (Nat.or_lt_two_pow hs (h _))
def aheadN (bs : List (List SIns)) (inn : List Nat) (b i : Nat) : Nat := ((bs.getD b []).drop i).foldr thrN (orN inn (succs bs (b : Int)))
theorem foldr_mono : ∀ (l : List SIns) (s t : Nat), Sub s t → Sub (l.foldr thrN s) (l.foldr thrN t)
 | [], s, t, h => h
 | x :: l, s, t, h => thrN_mono x _ _ (foldr_mono l s t h)
theorem foldr_lt {R : Nat} : ∀ (l : List SIns) (s : Nat), (∀ x ∈ l, RegsOk R x) → s < 2 ^ R → l.foldr thrN s < 2 ^ R
 | [], s, _, h => h
 | x :: l, s, hO, h => thrN_lt (hO x List.mem_cons_self) (foldr_lt l s (fun y hy => hO y (List.mem_cons_of_mem _ hy)) h)
theorem aheadN_eqs (bs : List (List SIns)) (R : Nat) (hO : ∀ b ∈ bs, ∀ x ∈ b, RegsOk R x) : Eqs bs.length R (fun x b => aheadN bs x b 0) := by
 refine ⟨fun x y h b _ => foldr_mono _ _ _ (foldO_mono h _ _ _ (fun _ h => h)), fun x h b hb => ?_⟩
 unfold aheadN
 refine foldr_lt _ _ (fun z hz => ?_) (foldO_lt h _ _ (Nat.pos_of_ne_zero (by simp)))
 have hz := List.mem_of_mem_drop hz
 rw [List.getD_eq_getElem?_getD, List.getElem?_eq_getElem hb] at hz
 exact hO _ (List.getElem_mem hb) z hz

theorem refhas_ev (l : List Int) (x : Int) (hl : l.length ≤ 4611686018427387904) : Ev (fun k => cubbyref11_has.f k l x) (decide (x ∈ l)) := by
 show Ev (fun k => cubbyref11_has.l0 k l x ((0 : Nat) : Int)) _
 refine seek (fun k i => cubbyref11_has.l0 k l x (i : Int)) l.length (fun i => rd l (i : Int) = x) true _ ?_ ?_ ?_ ?_
 ·intro i hi hb
  exact Ev.step (f := fun _ => some true) (fun k => by simp only [cubbyref11_has.l0]; rw [zC (by omega), zC (by omega), zC hb]) (Ev.now _)
 ·intro i hi hb r' hE
  exact Ev.step (fun k => by simp only [cubbyref11_has.l0]; rw [zC (by omega), zC (by omega), zD hb, wrap_nat (by omega)]) hE
 ·rintro ⟨i, hi, hb⟩
  rw [rd_get hi] at hb
  exact zF (hb ▸ List.getElem_mem hi)
 ·intro h
  rw [zG (fun hx => by
   obtain ⟨i, hi, e⟩ := List.mem_iff_getElem.1 hx
   exact h i hi ((rd_get hi).trans e))]
  exact Ev.step (f := fun _ => some false) (fun k => by simp only [cubbyref11_has.l0]; rw [zD (by omega)]) (Ev.now _)
def unionL (R : Nat) (a b : List Int) : List Int := ((List.range R).filter (fun r : Nat => decide ((r : Int) ∈ a) || decide ((r : Int) ∈ b))).map (fun n : Nat => (n : Int))
theorem refunion_ev (a b : List Int) (R : Nat) (hR : R ≤ 1000) (ha : a.length ≤ 4611686018427387904) (hb : b.length ≤ 4611686018427387904) : Ev (fun k => cubbyref11_union.f k a b (R : Int)) (unionL R a b) := by
 have h : ∀ (d r : Nat) (out : List Int), r + d = R → out.length ≤ r → Ev (fun k => cubbyref11_union.l0 k a b (R : Int) out (r : Int)) (out ++ ((List.range' r d).filter (fun r : Nat => decide ((r : Int) ∈ a) || decide ((r : Int) ∈ b))).map (fun n : Nat => (n : Int))) := by
  intro d
  induction d with
  | zero =>
   intro r out hr ho
   rw [List.range'_zero, List.filter_nil, List.map_nil, List.append_nil]
   exact Ev.step (f := fun _ => some out) (fun k => by simp only [cubbyref11_union.l0]; rw [zD (by omega)]) (Ev.now _)
  | succ d ih =>
   intro r out hr ho
   rw [List.range'_succ]
   refine Ev.step (fun k => by simp only [cubbyref11_union.l0]; rw [zC (by omega)]) (Ev.bind (refhas_ev a (r : Int) ha) ?_)
   by_cases c : (r : Int) ∈ a
   ·rw [List.filter_cons_of_pos (by simp [c]), List.map_cons]
    have := ih (r + 1) (out ++ [(r : Int)]) (by omega) (by simp; omega)
    rw [List.append_assoc, List.singleton_append] at this
    exact Ev.congr (fun k => by rw [zF c, zC rfl, zC (by omega), wrap_nat (by omega)]) this
   ·refine Ev.congr (fun k => by rw [zG c, zD Bool.false_ne_true]) (Ev.bind (refhas_ev b (r : Int) hb) ?_)
    by_cases c1 : (r : Int) ∈ b
    ·rw [List.filter_cons_of_pos (by simp [c1]), List.map_cons]
     have := ih (r + 1) (out ++ [(r : Int)]) (by omega) (by simp; omega)
     rw [List.append_assoc, List.singleton_append] at this
     exact Ev.congr (fun k => by rw [zF c1, zC rfl, zC (by omega), wrap_nat (by omega)]) this
    ·rw [List.filter_cons_of_neg (by simp [c, c1])]
     exact Ev.congr (fun k => by rw [zG c1, zD Bool.false_ne_true, wrap_nat (by omega)]) (ih (r + 1) out (by omega) (by omega))
 have := h R 0 [] (by omega) (by simp)
 rw [List.nil_append, ← List.range_eq_range'] at this
 exact this
theorem unionL_toL {R s t : Nat} : unionL R (toL R s) (toL R t) = toL R (s ||| t) := by
 unfold unionL
 show _ = (toN R (s ||| t)).map _
 unfold toN
 congr 1
 apply List.filter_congr
 intro r hr
 have hr := List.mem_range.1 hr
 rw [Nat.testBit_or, Bool.eq_iff_iff, Bool.or_eq_true, Bool.or_eq_true, decide_eq_true_iff, decide_eq_true_iff, mem_toL, mem_toL]
 simp [hr]
theorem refthrough_ev {R : Nat} {x : SIns} (O : RegsOk R x) (hx : x.f5.length ≤ 17592186043904) {s : Nat} (hs : s < 2 ^ R) : Ev (fun k => cubbyref11_through.f k x.f0 x.f1 x.f2 x.f3 x.f4 x.f5 (toL R s) (R : Int)) (toL R (thrN x s)) := by
 have hR := O.le
 have hlen := toL_len R s
 have h : ∀ (d j : Nat) (out : List Int), j + d = (toL R s).length → out.length ≤ j → Ev (fun k => cubbyref11_through.l0 k (toL R s) (R : Int) out (j : Int) x.f0 x.f1 x.f2 x.f3 x.f4 x.f5) (unionL R (out ++ ((toL R s).drop j).filter (fun n => decide (n ≠ defOf x.f0 x.f1))) (uses x.f0 x.f2 x.f3 x.f5)) := by
  intro d
  induction d with
  | zero =>
   intro j out hj ho
   rw [List.drop_eq_nil_of_le (by omega), List.filter_nil, List.append_nil]
   refine Ev.step (fun k => by simp only [cubbyref11_through.l0]; rw [zD (by omega)]) (Ev.bind (refuses_ev x.f0 x.f1 x.f2 x.f3 x.f4 x.f5 (by omega)) ?_)
   refine Ev.bind (refunion_ev out _ R (by omega) (by omega) (uses_short (by omega))) (Ev.now _)
  | succ d ih =>
   intro j out hj ho
   have hlt : j < (toL R s).length := by omega
   rw [drop_cons hlt]
   by_cases c : (toL R s)[j] = defOf x.f0 x.f1
   ·rw [List.filter_cons_of_neg (by simp [c])]
    exact Ev.step (fun k => by simp only [cubbyref11_through.l0]; rw [zC (by omega), zC (by omega), refdef_eq, zJ, rd_get hlt, zC c, wrap_nat (by omega)]) (ih (j + 1) out (by omega) (by omega))
   ·rw [List.filter_cons_of_pos (by simp [c])]
    have := ih (j + 1) (out ++ [(toL R s)[j]]) (by omega) (by simp; omega)
    rw [List.append_assoc, List.singleton_append] at this
    exact Ev.step (fun k => by simp only [cubbyref11_through.l0]; rw [zC (by omega), zC (by omega), refdef_eq, zJ, rd_get hlt, zD c, zC (by omega), wrap_nat (by omega)]) this
 have := h (toL R s).length 0 [] (by omega) (by simp)
 rw [List.nil_append, List.drop_zero] at this
 have e : unionL R ((toL R s).filter (fun n => decide (n ≠ defOf x.f0 x.f1))) (uses x.f0 x.f2 x.f3 x.f5) = toL R (thrN x s) := by
  unfold unionL
  show _ = (toN R (thrN x s)).map _
  unfold toN
  congr 1
  apply List.filter_congr
  intro r hr
  have hr := List.mem_range.1 hr
  rw [thrN_bit O hs, Bool.eq_iff_iff, Bool.or_eq_true, Bool.or_eq_true, Bool.and_eq_true, decide_eq_true_iff, decide_eq_true_iff, decide_eq_true_iff, List.mem_filter, mem_toL, decide_eq_true_iff]
  simp [hr]
 rw [e] at this
 exact this
theorem toL_zero (R : Nat) : toL R 0 = [] := by
 unfold toL
 rw [toN_zero]
 rfl
theorem rdL_map {R : Nat} {inn : List Nat} {b : Int} (h0 : 0 ≤ b) (h : b < inn.length) : rd_LInt (inn.map (toL R)) b = toL R (at_ inn b.toNat) := by
 show (inn.map (toL R)).getD b.toNat [] = _
 unfold at_
 rw [List.getD_eq_getElem?_getD, List.getD_eq_getElem?_getD, List.getElem?_map, List.getElem?_eq_getElem (by omega : b.toNat < inn.length)]
 rfl
structure BlocksOk (R : Nat) (bs : List (List SIns)) : Prop where
 le : R ≤ 64
 len : bs.length ≤ 1000
 row : ∀ b ∈ bs, b.length ≤ 1000
 regs : ∀ b ∈ bs, ∀ x ∈ b, RegsOk R x
 args : ∀ b ∈ bs, ∀ x ∈ b, x.f5.length ≤ 17592186043904
theorem BlocksOk.small {R : Nat} {bs : List (List SIns)} (h : BlocksOk R bs) : Small bs := ⟨by have := h.len; omega, fun b hb => by have := h.row b hb; omega⟩
theorem getD_get {bs : List (List SIns)} {b : Nat} (h : b < bs.length) : bs.getD b [] = bs[b] := by
 rw [List.getD_eq_getElem?_getD, List.getElem?_eq_getElem h]
 rfl
theorem rd_row {bs : List (List SIns)} {b : Nat} (h : b < bs.length) : rd_LIns bs (b : Int) = bs.getD b [] := rfl
theorem rd_ins {l : List SIns} {j : Nat} (h : j < l.length) : rd_TIns l (j : Int) = l[j] := by
 show l.getD j zIns = _
 rw [List.getD_eq_getElem?_getD, List.getElem?_eq_getElem h]
 rfl
theorem row_fold {row : List SIns} {i m : Nat} (hi : i ≤ m) (hm : m < row.length) (s : Nat) : ((row.take (m + 1)).drop i).foldr thrN s = ((row.take m).drop i).foldr thrN (thrN row[m] s) := by
 rw [List.take_succ_eq_append_getElem hm, List.drop_append_of_le_length (by rw [List.length_take]; omega), List.foldr_append]
 rfl
section
variable (pn : ByteArray) (pp : Int) {R : Nat} {bs : List (List SIns)} (O : BlocksOk R bs) {inn : List Nat} (hlen : inn.length = bs.length)
include O hlen
theorem refbehind_ev (b : Int) : Ev (fun k => cubbyref11_behind.f k pn pp (R : Int) bs (inn.map (toL R)) b) (toL R (orN inn (succs bs b))) := by
 have hle := O.le
 refine Ev.bind (refsuccs_ev bs b O.small) ?_
 have hm := succs_mem bs b
 have hl := succs_len bs b
 generalize succs bs b = l at *
 have h : ∀ (d j s : Nat), j + d = l.length → Ev (fun k => cubbyref11_behind.l0 k (inn.map (toL R)) (toL R s) l (j : Int) pn pp (R : Int) bs) (toL R ((l.drop j).foldl (fun s k => s ||| at_ inn k.toNat) s)) := by
  intro d
  induction d with
  | zero =>
   intro j s hj
   rw [List.drop_eq_nil_of_le (by omega)]
   exact Ev.step (f := fun _ => some (toL R s)) (fun k => by simp only [cubbyref11_behind.l0]; rw [zD (by omega)]) (Ev.now _)
  | succ d ih =>
   intro j s hj
   have hjl : j < l.length := by omega
   have h1 := hm _ (List.getElem_mem hjl)
   rw [drop_cons hjl, List.foldl_cons]
   have hu := refunion_ev (toL R s) (toL R (at_ inn (l[j]).toNat)) R (by omega) (by have := toL_len R s; omega) (by have := toL_len R (at_ inn (l[j]).toNat); omega)
   rw [unionL_toL] at hu
   refine Ev.step (fun k => by simp only [cubbyref11_behind.l0]; rw [zC (by omega), zC (by omega), rd_get hjl, zC (by omega), zC (by rw [List.length_map]; omega), rdL_map (by omega) (by omega)]) (Ev.bind hu ?_)
   exact Ev.congr (fun k => by rw [wrap_nat (by omega)]) (ih (j + 1) _ (by omega))
 have := h l.length 0 0 (by omega)
 rw [toL_zero, List.drop_zero] at this
 exact this
end
theorem or_lt {R : Nat} (bs : List (List SIns)) {inn : List Nat} (hlt : ∀ b, at_ inn b < 2 ^ R) (b : Int) : orN inn (succs bs b) < 2 ^ R := foldO_lt hlt _ _ (Nat.pos_of_ne_zero (by simp))
section
variable (pn : ByteArray) (pp : Int) {R : Nat} {bs : List (List SIns)} (O : BlocksOk R bs) {inn : List Nat} (hlen : inn.length = bs.length) (hlt : ∀ b, at_ inn b < 2 ^ R)
include O hlen hlt
theorem refahead_ev {b i : Nat} (hb : b < bs.length) (hi : i ≤ (bs.getD b []).length) : Ev (fun k => cubbyref11_ahead.f k pn pp (R : Int) bs (inn.map (toL R)) (b : Int) (i : Int)) (toL R (aheadN bs inn b i)) := by
 have hbl := O.len
 refine Ev.bind (refbehind_ev pn pp O hlen (b : Int)) ?_
 have hs0 := or_lt bs hlt (b : Int)
 unfold aheadN
 generalize orN inn (succs bs (b : Int)) = s0 at *
 have hrow := getD_get hb
 have hr := O.row _ (List.getElem_mem hb)
 have hregs := O.regs _ (List.getElem_mem hb)
 have hargs := O.args _ (List.getElem_mem hb)
 rw [← hrow] at hr hregs hargs
 generalize hg : bs.getD b [] = row at *
 have h : ∀ (d m s : Nat), i + d = m → m ≤ row.length → s < 2 ^ R → Ev (fun k => cubbyref11_ahead.l0 k (b : Int) (i : Int) (toL R s) ((m : Int) - 1) pn pp (R : Int) bs) (toL R (((row.take m).drop i).foldr thrN s)) := by
  intro d
  induction d with
  | zero =>
   intro m s hm hml hs
   rw [List.drop_eq_nil_of_le (by rw [List.length_take]; omega)]
   exact Ev.step (f := fun _ => some (toL R s)) (fun k => by simp only [cubbyref11_ahead.l0]; rw [zD (by omega)]) (Ev.now _)
  | succ d ih =>
   intro m s hm hml hs
   obtain ⟨m', rfl⟩ : ∃ m', m = m' + 1 := ⟨m - 1, by omega⟩
   have hm' : m' < row.length := by omega
   rw [row_fold (by omega) hm']
   have hx := hregs _ (List.getElem_mem hm')
   rw [show (((m' + 1 : Nat) : Int) - 1) = (m' : Int) by omega]
   refine Ev.step (fun k => by simp only [cubbyref11_ahead.l0]; rw [zC (by omega), zC (by omega), zC (by omega), zC (by omega), rd_row hb, hg, zC (by omega), rd_ins hm']) (Ev.bind (refthrough_ev hx (hargs _ (List.getElem_mem hm')) hs) ?_)
   exact Ev.congr (fun k => by rw [wrap_id (by omega) (by omega)]) (ih m' _ (by omega) (by omega) (thrN_lt hx hs))
 have := h (row.length - i) row.length s0 (by omega) (Nat.le_refl _) hs0
 rw [List.take_length] at this
 exact Ev.congr (fun k => by rw [zC (by omega), zC (by omega), rd_row hb, hg, wrap_id (by omega) (by omega)]) this
end
end Go.Proofs.YtpkimbkjjmbmcaaDoor.PlainLive
