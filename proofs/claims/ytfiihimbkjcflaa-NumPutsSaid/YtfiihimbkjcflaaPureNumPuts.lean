/- num.Put puts any number behind any bytes as the document does, and num.Get reads it again; no conditions. -/
import Derived.Test.YtfiihimbkjcflaaNKnown
import Derived.Test.YtfiihimbkjcflaaNRPut
import Derived.Test.YtfiihimbkjcflaaNGet
set_option linter.unusedSimpArgs false
set_option linter.unusedVariables false
namespace Go.Proofs.Ytfiihimbkjcflaa.Pure
open Go Go.RowKit Go.Proofs.Ytfiihimbkjcflaa.PAll Go.Proofs.Ytfiihimbkjcflaa.Num Go.Proofs.YtfiihimbkjcflaaW.PrintWords Go.Proofs.YtfiihimbkjcflaaW.PrintLast
theorem NumPuts : norialaw1_NumPuts.Pure := by
  intro l0 a1 _ _ hb ha
  have hB := isB_of_wf hb
  have hu := wf_u64 ha
  obtain ⟨k, hk⟩ : ∃ k, 200 ≤ k := ⟨_, Nat.le_refl _⟩
  refine ⟨k, ?_⟩
  unfold norialaw1_NumPuts.f
  rw [known_k (by omega)]
  simp only [Option.bind_some, if_true]
  by_cases hl : (l0.length : Int) > 200
  · rw [if_pos hl]
  · rw [if_neg hl, put_eq k hu.1 hu.2 (by omega) (by omega), rput_eq k hu.1 hu.2 (by omega) (by omega)]
    simp only [Option.bind_some]
    have hlen := enc_len10 (u := a1.toNat) (by omega)
    have hg := get_eq (l := l0 ++ enc a1.toNat) (a := (l0.length : Int)) k (isB_append hB (enc_isB _)) (by omega) (by simp; omega) (by simp; omega) (by omega)
    rw [Int.toNat_natCast, List.drop_left] at hg
    have hp := gd_put a1.toNat (by omega) []
    rw [List.append_nil] at hp
    rw [hg, hp]
    simp only [Option.bind_some, if_true]
    rw [if_pos (by omega), wr (by simp; omega) (by simp; omega)]
    simp
    omega
end Go.Proofs.Ytfiihimbkjcflaa.Pure
