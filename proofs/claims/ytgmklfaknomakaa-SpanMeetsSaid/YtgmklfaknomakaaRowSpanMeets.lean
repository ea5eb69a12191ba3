/- For every input the law SpanMeets returns true, and its arguments read behind the call as they did: no condition. -/
import Derived.Test.YtgmklfaknomakaaRows
import Derived.Test.YtgmklfaknomakaaOpen
import Derived.Test.YtgmklfaknomakaaStmtSpanMeets
import Derived.Test.YtgmklfaknomakaaPureSpanMeets
import Derived.WalkKit
import Derived.ProofKit
import Derived.OpenShut
import Derived.ShutString
import Derived.ChangeOld
import Derived.Below
import Derived.SizedLaws
namespace Go.Proofs.Ytgmklfaknomakaa.RSpanMeets
open Go.ChangeShapes Go.WideShapes Go.ChangeAt
open Go.ChangeMaps (open_string shut_string)
open Go Go.RowKit Go.Proofs.YtgmklfaknomakaaW.PrintWords Go.Proofs.YtgmklfaknomakaaW.PrintLast Go.Proofs.YtgmklfaknomakaaW.PrintMore Go.Proofs.Ytgmklfaknomakaa.PSpanMeets Go.Proofs.Ytgmklfaknomakaa.Open
set_option linter.unusedVariables false
theorem own : ownKnob Try.prog.godebug = none := by kernel_rfl
theorem laidOut : laidOutB Try.prog = true := by kernel_rfl
set_option maxRecDepth 100000 in
theorem lifted (os : Os) (started : os.Started) (H : Type) (enc : TypeId × Value → H) :
    ReturnsInHanded {} Try.checked os 3 .any (Rows.spanMeetsSpec.pre6 enc Try.prog Try.f3 Rows.spanMeetsRow.domain false) (Rows.spanMeetsSpec.post enc Try.prog Try.f3 false true false false) := by
  refine returnsInHanded_of_change_sized (C := Try.checked) own started (by kernel_rfl) Try.func3
    (ChangeSpec.witness6 (enc := enc) (C := Try.checked) false ⟨#[], #[.agg #[.int .i64 0, .int .i64 0], .agg #[.int .i64 0, .int .i64 0]], []⟩ 8 (by kernel_rfl) (by kernel_rfl) (by kernel_rfl) (by kernel_rfl)) ?_
  intro W base args ds gs before hval0 hW hcnd hsz0 _
  have hsz : (DataW.weightsEach Try.prog (Try.f3.params.toList ++ Rows.spanMeetsSpec.plain.varTypes Try.prog) (ds ++ gs)).all (· ≤ reachBytes) = true := hsz0
  have hval : ∀ (j : Nat) t v, Try.f3.params[j]? = some t → args[j]? = some v → Value.okWide Try.prog W .any base t v := hval0
  have hW' := hW
  obtain ⟨p, q, hA0, hV, rfl, hfz, hnd⟩ := hW
  have hA : DataW.TrodAll enc Try.prog W 0 (fun _ => true) true Try.f3.params.toList args.toList ds p := hA0
  rw [Try.params3] at hA hval hsz
  obtain ⟨v0, vs0, d0, ds0, p0, q0, hargs, rfl, rfl, h0, r0⟩ := trodAll_cons hA
  obtain ⟨v1, vs1, d1, ds1, p1, q1, rfl, rfl, rfl, h1, r1⟩ := trodAll_cons r0
  obtain ⟨rfl, rfl, rfl⟩ := trodAll_nil r1
  obtain rfl : args = #[v0, v1] := by cases args; simp_all
  obtain ⟨rfl, rfl⟩ := trodVars_none hV
  have lt0 : ∀ x ∈ p0, x.block < W.heap.size := by obtain ⟨m, hm⟩ := h0; exact DataW.trod_lt m _ _ _ hm
  obtain ⟨cs0, rfl, -⟩ := okWide_struct Try.underlying23 (hval 0 23 v0 rfl rfl)
  obtain ⟨⟨a0_0, a0_1⟩, hk0, gg0⟩ := (Opens.struct Try.underlying23 (by kernel_rfl) (OpensFs.cons rfl (Opens.int (Try.underlying3) (by kernel_rfl)) (OpensFs.one rfl (Opens.int (Try.underlying3) (by kernel_rfl)))) : Opens Try.prog 23 (Kd.pair (Kd.int .i64) (Kd.int .i64)) (fun y => ((Lit.int .i64 (y.1)).wf = true ∧ (Lit.int .i64 (y.2)).wf = true))).arg h0 hsz (j := 0) rfl rfl
  obtain ⟨g0_0, g0_1⟩ := gg0
  obtain ⟨_, _, h0_, rfl, rfl⟩ := hk0
  obtain rfl : cs0 = #[.int .i64 a0_0, .int .i64 a0_1] := by
    cases cs0
    simp [Value.cells] at h0_
    simp [h0_]
  have lt1 : ∀ x ∈ p1, x.block < W.heap.size := by obtain ⟨m, hm⟩ := h1; exact DataW.trod_lt m _ _ _ hm
  obtain ⟨cs1, rfl, -⟩ := okWide_struct Try.underlying23 (hval 1 23 v1 rfl rfl)
  obtain ⟨⟨a1_0, a1_1⟩, hk1, gg1⟩ := (Opens.struct Try.underlying23 (by kernel_rfl) (OpensFs.cons rfl (Opens.int (Try.underlying3) (by kernel_rfl)) (OpensFs.one rfl (Opens.int (Try.underlying3) (by kernel_rfl)))) : Opens Try.prog 23 (Kd.pair (Kd.int .i64) (Kd.int .i64)) (fun y => ((Lit.int .i64 (y.1)).wf = true ∧ (Lit.int .i64 (y.2)).wf = true))).arg h1 hsz (j := 1) rfl rfl
  obtain ⟨g1_0, g1_1⟩ := gg1
  obtain ⟨_, _, h0_, rfl, rfl⟩ := hk1
  obtain rfl : cs1 = #[.int .i64 a1_0, .int .i64 a1_1] := by
    cases cs1
    simp [Value.cells] at h0_
    simp [h0_]
  clear hA0 hval0 hsz0 hsz
  have hf := Pure.SpanMeets a0_0 a0_1 a1_0 a1_1 g0_0 g0_1 g1_0 g1_1
  refine (PSpanMeets.cubbylaw12_SpanMeets.calls a0_0 a0_1 a1_0 a1_1 true W  hf).mono ?_
  rintro e W' ⟨rfl, hd⟩
  have bel : Below W.heap.size W W' := hd
  exact ⟨_, rfl, _, _, _, [], _, [], hW', trodAll_mk1 (shut_bool Try.underlying4 _), (trodAll_cons_mk (Below.trod laidOut (by kernel_rfl) (of_decide_eq_true (by kernel_rfl)) h0 bel lt0) (trodAll_cons_mk (Below.trod laidOut (by kernel_rfl) (of_decide_eq_true (by kernel_rfl)) h1 bel lt1) trodAll_mk0)), rfl, bel.frame _, fun h => by cases h⟩
theorem over : Rows.spanMeetsRow.holds Try.pinned (OpenSpec.ofChange Rows.spanMeetsSpec) :=
  OpenClaim.holds_of_wide 3 Try.f3 rfl rfl rfl rfl rfl rfl rfl ⟨rfl, rfl, rfl, rfl, rfl⟩ rfl rfl rfl rfl rfl (by kernel_rfl) Try.func3 (by kernel_rfl)
    (of_decide_eq_true (by kernel_rfl)) (by unfold Func.isWrapper; first | (rw [if_pos (by decide +kernel)]; kernel_rfl) | (rw [if_neg (by decide +kernel)]; exact ⟨rfl, rfl⟩))
    (fun os started H enc _ => lifted os started H enc)
end Go.Proofs.Ytgmklfaknomakaa.RSpanMeets
namespace Go.Proofs.Ytgmklfaknomakaa
/-- The row, under a short name, for the claim. -/
theorem spanMeets_holds : Rows.SpanMeetsSaid := RSpanMeets.over
#print axioms spanMeets_holds
end Go.Proofs.Ytgmklfaknomakaa
