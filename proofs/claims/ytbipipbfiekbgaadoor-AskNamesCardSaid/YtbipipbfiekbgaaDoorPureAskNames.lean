/- The law AskNames over lists and numbers: of a name a request is one just if it is a name. -/
import Derived.Test.YtbipipbfiekbgaaDoorStmtAskNames
import Derived.Test.YtbipipbfiekbgaaDoorPlainAsk2
namespace Go.Proofs.YtbipipbfiekbgaaDoor.RAskNames.Pure
open Go Go.RowKit Go.Proofs.YtbipipbfiekbgaaDoorW.PrintWords Go.Proofs.YtbipipbfiekbgaaDoorW.PrintMore Go.Proofs.YtbipipbfiekbgaaDoor.Q Go.Proofs.YtbipipbfiekbgaaDoor.Plain Go.Proofs.YtbipipbfiekbgaaDoor.PlainName Go.Proofs.YtbipipbfiekbgaaDoor.PlainAsk
set_option linter.unusedVariables false
theorem none_from (s : ByteArray) : ∀ (d : Nat) (k : Int), (∀ j, k ≤ j → j < k + d → ¬ hit j s) → parseFrom s d k = (0, ⟨#[]⟩, ⟨#[]⟩, 210)
  | 0, k, h => rfl
  | d + 1, k, h => by
    unfold parseFrom
    rw [if_neg (h k (by omega) (by omega))]
    exact none_from s d (k + 1) (fun j h1 h2 => h j (by omega) (by omega))
theorem parse_at (s : ByteArray) (K : Int) (h : ∀ j, 1 ≤ j → j ≤ 9 → j ≠ K → ¬ hit j s) : ∀ (d : Nat) (k : Int), 1 ≤ k → k + d = 10 → k ≤ K → K ≤ 9 → parseFrom s d k = if hit K s then (K, nameFor K s, textFor K s, 0) else (0, ⟨#[]⟩, ⟨#[]⟩, 210)
  | 0, k, h1, h2, h3, h4 => by omega
  | d + 1, k, h1, h2, h3, h4 => by
    unfold parseFrom
    by_cases c : k = K
    · subst c
      by_cases ch : hit k s
      · rw [if_pos ch, if_pos ch]
      · rw [if_neg ch, if_neg ch]
        exact none_from s d (k + 1) (fun j g1 g2 => h j (by omega) (by omega) (by omega))
    · rw [if_neg (h k h1 (by omega) c)]
      exact parse_at s K h d (k + 1) (by omega) (by omega) (by omega) h4
theorem wd_inj {j K : Int} (hj : 2 ≤ j ∧ j ≤ 6) (hK : 2 ≤ K ∧ K ≤ 6) (h : (wd j).data.toList = (wd K).data.toList) : j = K := by
  have c1 : j = 2 ∨ j = 3 ∨ j = 4 ∨ j = 5 ∨ j = 6 := by omega
  have c2 : K = 2 ∨ K = 3 ∨ K = 4 ∨ K = 5 ∨ K = 6 := by omega
  rcases c1 with rfl | rfl | rfl | rfl | rfl <;> rcases c2 with rfl | rfl | rfl | rfl | rfl <;> first | rfl | exact absurd h (by decide +kernel)
theorem only {K : Int} (hK : 2 ≤ K ∧ K ≤ 6) {s : ByteArray} {t : List UInt8} (hs : s.data.toList = (wd K).data.toList ++ (32 :: t)) : ∀ j, 1 ≤ j → j ≤ 9 → j ≠ K → ¬ hit j s := by
  intro j h1 h9 hne hh
  by_cases c1 : j = 1
  · subst c1
    obtain ⟨u, hu⟩ := hit_one.1 hh
    rw [hs] at hu
    have hd := congrArg List.head? hu
    have c2 : K = 2 ∨ K = 3 ∨ K = 4 ∨ K = 5 ∨ K = 6 := by omega
    rcases c2 with rfl | rfl | rfl | rfl | rfl
    · exact absurd (show (some (98 : UInt8)) = some 115 from hd) (by decide)
    · exact absurd (show (some (102 : UInt8)) = some 115 from hd) (by decide)
    · exact absurd (show (some (100 : UInt8)) = some 115 from hd) (by decide)
    · exact absurd (show (some (112 : UInt8)) = some 115 from hd) (by decide)
    · exact absurd (show (some (117 : UInt8)) = some 115 from hd) (by decide)
  · by_cases c2 : j ≤ 6
    · obtain ⟨u, hu, -⟩ := (hit_name ⟨by omega, c2⟩).1 hh
      obtain ⟨a1, a2, -⟩ := blank_split ⟨by omega, by omega⟩ hs
      obtain ⟨b1, b2, -⟩ := blank_split ⟨by omega, by omega⟩ hu
      have e : (wd j).size = (wd K).size := by omega
      rw [e, a2] at b2
      exact hne (wd_inj ⟨by omega, c2⟩ hK b2.symm)
    · have hb := (hit_bare ⟨by omega, h9⟩).1 hh
      apply wd_blank (k := j) ⟨h1, h9⟩
      rw [← hb, hs]
      simp
theorem u8_range {n : Int} (h : (Lit.int .u8 n).wf = true) : 0 ≤ n ∧ n ≤ 255 := by
  have := bounds_u8 h
  omega
theorem word_at {k : Int} (h0 : 0 ≤ k) (h : k < 5) : rdOf ByteArray.empty ([(⟨#[98, 117, 105, 108, 100]⟩ : ByteArray), (⟨#[102, 101, 116, 99, 104]⟩ : ByteArray), (⟨#[100, 114, 111, 112]⟩ : ByteArray), (⟨#[112, 105, 110]⟩ : ByteArray), (⟨#[117, 110, 112, 105, 110]⟩ : ByteArray)] : List ByteArray) k = wd (k + 2) := by
  have c : k = 0 ∨ k = 1 ∨ k = 2 ∨ k = 3 ∨ k = 4 := by omega
  rcases c with rfl | rfl | rfl | rfl | rfl <;> rfl
theorem AskNames : AskNames.Pure := by
  intro a nm ha hn
  refine Ev.rounds ?_
  have ha := u8_range ha
  by_cases c0 : (nm.size : Int) > 1024
  · exact Ev.congr (f := fun _ => some true) (fun q => by unfold cubbylaw21_AskNames.f; rw [if_pos c0]) (Ev.now _)
  have ht : 0 ≤ Int.tmod (wrap64 a) 5 ∧ Int.tmod (wrap64 a) 5 < 5 := by
    rw [wrap_id (by omega) (by omega)]
    exact ⟨Int.tmod_nonneg 5 (by omega), Int.tmod_lt_of_pos a (by omega)⟩
  have hw := word_at ht.1 ht.2
  have hws := wd_size (Int.tmod (wrap64 a) 5 + 2)
  have hsz : (wd (Int.tmod (wrap64 a) 5 + 2) ++ (⟨#[32]⟩ : ByteArray)).size = (wd (Int.tmod (wrap64 a) 5 + 2)).size + 1 := ap_size _ _
  have hsz2 : ((wd (Int.tmod (wrap64 a) 5 + 2) ++ (⟨#[32]⟩ : ByteArray)) ++ nm).size = (wd (Int.tmod (wrap64 a) 5 + 2)).size + 1 + nm.size := by rw [ap_size, hsz]
  refine Ev.congr (fun q => by unfold cubbylaw21_AskNames.f; rw [if_neg c0, Option.bind_some, if_pos ht.1, if_pos (by simp only [List.length_cons, List.length_nil]; omega), hw, if_pos (by omega), if_pos (by omega)]) ?_
  generalize Int.tmod (wrap64 a) 5 = k at ht hws hsz hsz2 ⊢
  have hs : ((wd (k + 2) ++ (⟨#[32]⟩ : ByteArray)) ++ nm).data.toList = (wd (k + 2)).data.toList ++ (32 :: nm.data.toList) := by
    rw [ap_list, ap_list, List.append_assoc]
    rfl
  generalize (wd (k + 2) ++ (⟨#[32]⟩ : ByteArray)) ++ nm = s at hs hsz2 ⊢
  have hK : 2 ≤ k + 2 ∧ k + 2 ≤ 6 := by omega
  obtain ⟨r, ⟨s1, s2, s3, s4⟩, hE⟩ := parse_ev s (by omega)
  have hp : parseA s = _ := parse_at s (k + 2) (only hK hs) 9 1 (by omega) (by omega) (by omega) (by omega)
  have htail := tail_of hs
  have hname : nameOk (tailOf (k + 2) s) = nameOk nm := by
    have : tailOf (k + 2) s = nm := by
      apply toList_inj.1
      rw [tl_data]
      exact htail
    rw [this]
  have hnf : (nameFor (k + 2) s).toList = nm.toList := by
    unfold nameFor
    rw [if_pos hK, tl_data]
    exact htail
  have htf : (textFor (k + 2) s) = ⟨#[]⟩ := by
    unfold textFor
    rw [if_neg (by omega)]
  have hhit : hit (k + 2) s ↔ nameOk nm = true := by
    rw [hit_name hK, ← hname]
    exact ⟨fun ⟨t, _, h⟩ => h, fun h => ⟨_, hs, h⟩⟩
  refine Ev.bind hE (Ev.bind (refparse_ev s (by omega)) (Ev.congr (fun q => by rw [if_pos s4]) (Ev.bind (refname_ev nm) ?_)))
  rw [hp] at s1 s2 s3 s4
  by_cases c : nameOk nm = true
  · rw [if_pos (hhit.2 c)] at s1 s2 s3 s4
    have s4' : r.2.2.2 = 0 := s4
    have s1' : r.1 = k + 2 := s1
    have s2' : r.2.1.toList = nm.toList := s2.trans hnf
    have s3' : r.2.2.1.toList = ([] : List UInt8) := by
      rw [s3]
      show (textFor (k + 2) s).toList = _
      rw [htf]
      decide +kernel
    exact Ev.congr (f := fun _ => some true) (fun q => by rw [c, s4', if_neg (by decide), if_pos rfl, if_pos (by rw [s1', wrap_id (by omega) (by omega)]; omega), if_pos s2', s3']; rfl) (Ev.now _)
  · rw [if_neg (fun h => c (hhit.1 h))] at s1 s2 s3 s4
    have s4' : r.2.2.2 = 210 := s4
    have c' : nameOk nm = false := by simpa using c
    exact Ev.congr (f := fun _ => some true) (fun q => by rw [c', s4', if_neg (by decide), if_neg (by decide)]) (Ev.now _)
end Go.Proofs.YtbipipbfiekbgaaDoor.RAskNames.Pure
