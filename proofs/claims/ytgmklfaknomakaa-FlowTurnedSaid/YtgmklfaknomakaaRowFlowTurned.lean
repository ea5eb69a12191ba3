/- For every input the law FlowTurned returns true, and its arguments read behind the call as they did: no condition. -/
import Derived.Test.YtgmklfaknomakaaRows
import Derived.Test.YtgmklfaknomakaaOpen
import Derived.Test.YtgmklfaknomakaaStmtFlowTurned
import Derived.Test.YtgmklfaknomakaaPureFlowTurned
import Derived.WalkKit
import Derived.ProofKit
import Derived.OpenShut
import Derived.ShutString
import Derived.ChangeOld
import Derived.Below
import Derived.SizedLaws
namespace Go.Proofs.Ytgmklfaknomakaa.RFlowTurned
open Go.ChangeShapes Go.WideShapes Go.ChangeAt
open Go.ChangeMaps (open_string shut_string)
open Go Go.RowKit Go.Proofs.YtgmklfaknomakaaW.PrintWords Go.Proofs.YtgmklfaknomakaaW.PrintLast Go.Proofs.YtgmklfaknomakaaW.PrintMore Go.Proofs.Ytgmklfaknomakaa.Q Go.Proofs.Ytgmklfaknomakaa.Open
set_option linter.unusedVariables false
theorem own : ownKnob Try.prog.godebug = none := by kernel_rfl
theorem laidOut : laidOutB Try.prog = true := by kernel_rfl
theorem opensIns : Opens Try.prog 37 kIns GIns :=
  (Opens.iso (fun x : SIns => (x.f0, x.f1, x.f2, x.f3, x.f4, x.f5)) (fun y => ⟨y.1, y.2.1, y.2.2.1, y.2.2.2.1, y.2.2.2.2.1, y.2.2.2.2.2⟩) (fun _ => rfl) (Opens.struct Try.underlying37 (by kernel_rfl) (OpensFs.cons rfl (Opens.int (Try.underlying3) (by kernel_rfl)) (OpensFs.cons rfl (Opens.int (Try.underlying3) (by kernel_rfl)) (OpensFs.cons rfl (Opens.int (Try.underlying3) (by kernel_rfl)) (OpensFs.cons rfl (Opens.int (Try.underlying3) (by kernel_rfl)) (OpensFs.cons rfl (Opens.string (Try.underlying9) (by kernel_rfl)) (OpensFs.one rfl (Opens.slice (B := 8) (Try.underlying28) (by kernel_rfl) (by kernel_rfl) (Opens.int (Try.underlying3) (by kernel_rfl))))))))))).imp (fun _ h => h)
set_option maxRecDepth 100000 in
theorem lifted (os : Os) (started : os.Started) (H : Type) (enc : TypeId × Value → H) :
    ReturnsInHanded {} Try.checked os 8 .any (Rows.flowTurnedSpec.pre6 enc Try.prog Try.f8 Rows.flowTurnedRow.domain false) (Rows.flowTurnedSpec.post enc Try.prog Try.f8 false true false false) := by
  refine returnsInHanded_of_change_sized (C := Try.checked) own started (by kernel_rfl) Try.func8
    (ChangeSpec.witness6 (enc := enc) (C := Try.checked) false ⟨#[], #[.slice none 0 0, .int .u8 0, .int .u8 0], []⟩ 8 (by kernel_rfl) (by kernel_rfl) (by kernel_rfl) (by kernel_rfl)) ?_
  intro W base args ds gs before hval0 hW hcnd hsz0 _
  have hsz : (DataW.weightsEach Try.prog (Try.f8.params.toList ++ Rows.flowTurnedSpec.plain.varTypes Try.prog) (ds ++ gs)).all (· ≤ reachBytes) = true := hsz0
  have hval : ∀ (j : Nat) t v, Try.f8.params[j]? = some t → args[j]? = some v → Value.okWide Try.prog W .any base t v := hval0
  have hW' := hW
  obtain ⟨p, q, hA0, hV, rfl, hfz, hnd⟩ := hW
  have hA : DataW.TrodAll enc Try.prog W 0 (fun _ => true) true Try.f8.params.toList args.toList ds p := hA0
  rw [Try.params8] at hA hval hsz
  obtain ⟨v0, vs0, d0, ds0, p0, q0, hargs, rfl, rfl, h0, r0⟩ := trodAll_cons hA
  obtain ⟨v1, vs1, d1, ds1, p1, q1, rfl, rfl, rfl, h1, r1⟩ := trodAll_cons r0
  obtain ⟨v2, vs2, d2, ds2, p2, q2, rfl, rfl, rfl, h2, r2⟩ := trodAll_cons r1
  obtain ⟨rfl, rfl, rfl⟩ := trodAll_nil r2
  obtain rfl : args = #[v0, v1, v2] := by cases args; simp_all
  obtain ⟨rfl, rfl⟩ := trodVars_none hV
  have lt0 : ∀ x ∈ p0, x.block < W.heap.size := by obtain ⟨m, hm⟩ := h0; exact DataW.trod_lt m _ _ _ hm
  obtain ⟨A0, len0, c0, rfl⟩ := okWide_slice Try.underlying25 (hval 0 25 v0 rfl rfl)
  obtain ⟨l0, ⟨_, _, e0, hc0, hr0⟩, g0⟩ := ((Opens.slice (B := 24) (Try.underlying25) (by kernel_rfl) (by kernel_rfl) (Opens.slice (B := 72) (Try.underlying38) (by kernel_rfl) (by kernel_rfl) opensIns)) : Opens Try.prog 25 (Kd.slice 38 (Kd.slice 37 kIns)) (fun x => ((x).length * 24 ≤ 140737488351232 ∧ (x).length ≤ maxLen ∧ ∀ y1 ∈ (x), ((y1).length * 72 ≤ 140737488351232 ∧ (y1).length ≤ maxLen ∧ ∀ y2 ∈ (y1), GIns (y2))))).arg h0 hsz (j := 0) rfl rfl
  simp [Value.cells] at e0
  obtain ⟨rfl, rfl, rfl⟩ := e0
  have lt1 : ∀ x ∈ p1, x.block < W.heap.size := by obtain ⟨m, hm⟩ := h1; exact DataW.trod_lt m _ _ _ hm
  obtain ⟨a1, rfl, rfl, rfl, w1⟩ := open_int Try.underlying5 (hval 1 5 v1 rfl rfl) h1
  have lt2 : ∀ x ∈ p2, x.block < W.heap.size := by obtain ⟨m, hm⟩ := h2; exact DataW.trod_lt m _ _ _ hm
  obtain ⟨a2, rfl, rfl, rfl, w2⟩ := open_int Try.underlying5 (hval 2 5 v2 rfl rfl) h2
  clear hA0 hval0 hsz0 hsz
  obtain ⟨k, hf⟩ := Pure.FlowTurned l0 a1 a2 g0 w1 w2
  refine (Q.cubbylaw09_FlowTurned.calls k A0 c0 l0 a1 a2 true W hr0 hc0 hf).mono ?_
  rintro e W' ⟨rfl, hd⟩
  have bel : Below W.heap.size W W' := hd
  exact ⟨_, rfl, _, _, _, [], _, [], hW', trodAll_mk1 (shut_bool Try.underlying4 _), (trodAll_cons_mk (Below.trod laidOut (by kernel_rfl) (of_decide_eq_true (by kernel_rfl)) h0 bel lt0) (trodAll_cons_mk (Below.trod laidOut (by kernel_rfl) (of_decide_eq_true (by kernel_rfl)) h1 bel lt1) (trodAll_cons_mk (Below.trod laidOut (by kernel_rfl) (of_decide_eq_true (by kernel_rfl)) h2 bel lt2) trodAll_mk0))), rfl, bel.frame _, fun h => by cases h⟩
theorem over : Rows.flowTurnedRow.holds Try.pinned (OpenSpec.ofChange Rows.flowTurnedSpec) :=
  OpenClaim.holds_of_wide 8 Try.f8 rfl rfl rfl rfl rfl rfl rfl ⟨rfl, rfl, rfl, rfl, rfl⟩ rfl rfl rfl rfl rfl (by kernel_rfl) Try.func8 (by kernel_rfl)
    (of_decide_eq_true (by kernel_rfl)) (by unfold Func.isWrapper; first | (rw [if_pos (by decide +kernel)]; kernel_rfl) | (rw [if_neg (by decide +kernel)]; exact ⟨rfl, rfl⟩))
    (fun os started H enc _ => lifted os started H enc)
end Go.Proofs.Ytgmklfaknomakaa.RFlowTurned
namespace Go.Proofs.Ytgmklfaknomakaa
/-- The row, under a short name, for the claim. -/
theorem flowTurned_holds : Rows.FlowTurnedSaid := RFlowTurned.over
#print axioms flowTurned_holds
end Go.Proofs.Ytgmklfaknomakaa
