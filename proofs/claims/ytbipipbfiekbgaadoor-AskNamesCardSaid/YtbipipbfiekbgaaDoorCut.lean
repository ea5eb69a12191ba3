/-
  strings.Cut at a blank: what stands ahead of the first one, what stands behind it, and whether there is one.
-/
import Derived.Test.YtbipipbfiekbgaaDoorQ0
import Derived.Test.YtbipipbfiekbgaaDoorShelfP
import Derived.Lib.CutLaws
namespace Go.Proofs.YtbipipbfiekbgaaDoor.Q
open Go.RowKit Go.Shelf Go.Proofs.YtbipipbfiekbgaaDoorW.PrintWords Go.Proofs.YtbipipbfiekbgaaDoorW.PrintLast Go.Proofs.YtbipipbfiekbgaaDoorW.PrintMore
set_option linter.unusedVariables false

def blankS : ByteArray := ⟨#[32]⟩
/-- The place of the first blank; none: -1. -/
def blankAt (s : ByteArray) : Int := Lib.indexByte s.data.toList 32
def strings_Cut.f (a0 a1 : ByteArray) : Option (ByteArray × ByteArray × Bool) :=
  if a1 = blankS ∧ a0.size ≤ 4611686018427387904 then (if 0 ≤ blankAt a0 ∧ blankAt a0 < a0.size then some (a0.extract 0 (blankAt a0).toNat, a0.extract ((blankAt a0).toNat + 1) a0.size, true) else if blankAt a0 = -1 then some (a0, ByteArray.empty, false) else none) else none
set_option maxHeartbeats 8000000 in
set_option maxRecDepth 100000 in
theorem cut_lite (s : ByteArray) (r1 r2 : ByteArray) (r3 : Bool) (w : World) (h : strings_Cut.f s blankS = some (r1, r2, r3)) :
    Calls Tryd.prog 44 #[.string s, .string blankS] w fun e w' => e = .returned (.tuple #[.string r1, .string r2, .bool r3]) ∧ Drawn0 w w' := by
  unfold strings_Cut.f at h
  split at h
  · next c =>
    have hs := c.2
    have hb : blankS.size = 1 := rfl
    clear c
    split at h
    · next c1 =>
      obtain ⟨c2, c3⟩ := c1
      obtain ⟨i, hi⟩ : ∃ i : Nat, blankAt s = i := ⟨(blankAt s).toNat, by omega⟩
      rw [hi] at h c2 c3
      rw [Int.toNat_natCast] at h
      simp only [Option.some.injEq, Prod.mk.injEq] at h
      obtain ⟨rfl, rfl, rfl⟩ := h
      have HI := Aside0.mk hi
      clear hi
      have d1 : (0 : Int) ≤ (i : Int) := by omega
      have d2 : (i : Int) ≤ (s.size : Int) := by omega
      have d3 : (0 : Int) ≤ (i : Int) + 1 := by omega
      have d4 : (i : Int) + 1 ≤ (s.size : Int) := by omega
      go_enter Tryd.func44, Tryd.ntmps44
      go_wp2_with (go_at_call 57; refine (Any.stringslite_Index_one Tryd.lays219 s 32 _).mono ?_; rintro e w' ⟨rfl, rfl⟩; rw [show Lib.indexByte s.data.toList 32 = (i : Int) from HI.out])
      go_quiet (fail)
      go_wp2
      go_ret3
      exact ⟨rfl, (Drawn0.refl _).step _⟩
    · next c1 =>
      split at h
      · next c2 =>
        simp only [Option.some.injEq, Prod.mk.injEq] at h
        obtain ⟨rfl, rfl, rfl⟩ := h
        have HI := Aside0.mk c2
        clear c1 c2
        go_enter Tryd.func44, Tryd.ntmps44
        go_wp2_with (go_at_call 57; refine (Any.stringslite_Index_one Tryd.lays219 s 32 _).mono ?_; rintro e w' ⟨rfl, rfl⟩; rw [show Lib.indexByte s.data.toList 32 = -1 from HI.out])
        go_ret3
        exact ⟨rfl, Drawn0.refl _⟩
      · exact absurd h (by simp)
  · exact absurd h (by simp)
theorem strings_Cut.calls (a0 a1 : ByteArray) (r1 : ByteArray) (r2 : ByteArray) (r3 : Bool) (w : World) (h : strings_Cut.f a0 a1 = some (r1, r2, r3)) :
    Calls Tryd.prog 30 #[.string a0, .string a1] w fun e w' => e = .returned (.tuple #[.string r1, .string r2, .bool r3]) ∧ Drawn0 w w' := by
  have hb : a1 = blankS := by
    unfold strings_Cut.f at h
    split at h
    · next c => exact c.1
    · exact absurd h (by simp)
  subst hb
  have H := Aside0.mk h
  clear h
  go_enter Tryd.func30, Tryd.ntmps30
  go_wp2_with (go_at_call 44; refine (cut_lite a0 r1 r2 r3 _ H.out).mono ?_; rintro e w' ⟨rfl, ⟨n, rfl⟩⟩)
  go_ret3
  exact ⟨rfl, (Drawn0.refl _).step _⟩
end Go.Proofs.YtbipipbfiekbgaaDoor.Q
