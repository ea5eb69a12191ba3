/-
  The closure of mach.one that leads a block's number to the first block, or nowhere: what it writes.
-/
import Derived.Test.YtbipipbfiekbgaaDoorSq
import Derived.Test.YtbipipbfiekbgaaDoorQmachbelow
namespace Go.Proofs.YtbipipbfiekbgaaDoor.Q
open Go.RowKit Go.Proofs.YtbipipbfiekbgaaDoorW.PrintWords Go.Proofs.YtbipipbfiekbgaaDoorW.PrintLast Go.Proofs.YtbipipbfiekbgaaDoorW.PrintMore
set_option linter.unusedVariables false

def mach_one_1.f (a0_0 : ByteArray) (a0_1 a0_2 a0_3 : Int) (l0_4 : List (List SIns)) (a1 : Int) : Option Int := some (if 0 ≤ a1 ∧ a1 < (l0_4.length : Int) then 0 else -1)
set_option maxHeartbeats 8000000 in
set_option maxRecDepth 100000 in
theorem mach_one_1.to (a0_0 : ByteArray) (a0_1 a0_2 a0_3 : Int) (A0_4 : Option Addr) (c0_4 : Nat) (l0_4 : List (List SIns)) (a1 : Int) (r : Int) (w : World) (hr0_4 : Kd.C (Kd.slice 31 kIns) w A0_4 l0_4.length l0_4) (hc0_4 : l0_4.length ≤ c0_4) (h : mach_one_1.f a0_0 a0_1 a0_2 a0_3 l0_4 a1 = some r)
    {gc gx j : Nat} (hbk : w.heap[gc]? = some (.cells #[.string a0_0, .int .i64 a0_1, .int .i64 a0_2, .int .i64 a0_3, .slice A0_4 l0_4.length c0_4] 24 (0, 0))) (hx : w.cell? ⟨gx, j, none⟩ = some (.int .i64 a1)) (hf : w.frozen? ⟨gx, j, none⟩ = false) :
    Calls Tryd.prog 35 #[.pointer (some ⟨gx, j, none⟩), .pointer (some ⟨gc, 0, none⟩)] w fun e w' => e = .returned (.tuple #[]) ∧ ∃ w1, Below w.heap.size w w1 ∧ w' = w1.setCell ⟨gx, j, none⟩ (.int .i64 r) := by
  have hcl : w.cell? ⟨gc, 4, none⟩ = some (.slice A0_4 l0_4.length c0_4) := (blk_cell hbk 4).trans rfl
  have hb : mach_below.f a1 (l0_4.length : Int) = some (decide (0 ≤ a1 ∧ a1 < (l0_4.length : Int))) := by
    unfold mach_below.f
    by_cases c : a1 ≥ 0
    · rw [if_pos c]
      congr 1
      apply decide_eq_decide.2
      omega
    · rw [if_neg c, decide_eq_false (by omega)]
  have HBW := Aside0.mk hb
  clear hbk hr0_4 hc0_4 hb
  unfold mach_one_1.f at h
  by_cases c : 0 ≤ a1 ∧ a1 < (l0_4.length : Int)
  · rw [if_pos c] at h
    obtain rfl := Option.some.inj h
    rw [decide_eq_true c] at HBW
    clear c h
    go_enter Tryd.func35, Tryd.ntmps35
    go_wp2
    go_quiet ((go_at_call 22; exact Calls.quiet_of ((mach_below.calls a1 (l0_4.length : Int) true _ HBW.out).mono (by rintro e w' ⟨rfl, ⟨nd, rfl⟩⟩; exact ⟨rfl, nd, rfl⟩))))
    go_wp2
    first | go_end0 | ((try simp only [Exit.inBlock, Exit.then]); refine bodyPost_ret (results_none rfl _ _ _) rfl ?_)
    exact ⟨rfl, _, pw_below_drewN (Below.refl _ w) _, rfl⟩
  · rw [if_neg c] at h
    obtain rfl := Option.some.inj h
    rw [decide_eq_false c] at HBW
    clear c h
    go_enter Tryd.func35, Tryd.ntmps35
    go_wp2
    go_quiet ((go_at_call 22; exact Calls.quiet_of ((mach_below.calls a1 (l0_4.length : Int) false _ HBW.out).mono (by rintro e w' ⟨rfl, ⟨nd, rfl⟩⟩; exact ⟨rfl, nd, rfl⟩))))
    go_wp2
    first | go_end0 | ((try simp only [Exit.inBlock, Exit.then]); refine bodyPost_ret (results_none rfl _ _ _) rfl ?_)
    exact ⟨rfl, _, pw_below_drewN (Below.refl _ w) _, rfl⟩
end Go.Proofs.YtbipipbfiekbgaaDoor.Q
