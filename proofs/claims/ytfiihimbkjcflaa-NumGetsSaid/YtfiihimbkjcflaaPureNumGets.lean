/- num.Get and num.Get4 read any bytes from any place on as the document does; what num.Get reads is put so again; no conditions. -/
import Derived.Test.YtfiihimbkjcflaaNKnown
import Derived.Test.YtfiihimbkjcflaaNRGet
import Derived.Test.YtfiihimbkjcflaaNPut
import Derived.Test.YtfiihimbkjcflaaNR4
set_option linter.unusedSimpArgs false
set_option linter.unusedVariables false
namespace Go.Proofs.Ytfiihimbkjcflaa.Pure
open Go Go.RowKit Go.Proofs.Ytfiihimbkjcflaa.PAll Go.Proofs.Ytfiihimbkjcflaa.Num Go.Proofs.YtfiihimbkjcflaaW.PrintWords Go.Proofs.YtfiihimbkjcflaaW.PrintLast
theorem NumGets : norialaw1_NumGets.Pure := by
  intro l0 a1 _ _ hb ha
  have hB := isB_of_wf hb
  have hi := wf_i64 ha
  obtain ⟨k, hk⟩ : ∃ k, 200 ≤ k := ⟨_, Nat.le_refl _⟩
  refine ⟨k, ?_⟩
  unfold norialaw1_NumGets.f
  rw [known_k (by omega)]
  simp only [Option.bind_some, if_true]
  by_cases hl : (l0.length : Int) > 200
  · rw [if_pos hl]
  · rw [if_neg hl, rget4_k hk, get4_eq k hB (by omega) hi.1 hi.2 (by omega)]
    by_cases ho : a1 < 0 ∨ (l0.length : Int) < a1
    · rw [get_out k ho (by omega), rget_out k ho (by omega)]
      simp
    · rw [get_eq k hB (by omega) (by omega) (by omega) (by omega), rget_eq k hB (by omega) (by omega) (by omega) (by omega)]
      simp only [Option.bind_some, if_true]
      rcases gd_res (l0.drop a1.toNat) 0 0 (isB_drop hB _) with h | h | ⟨U, N, h⟩
      · rw [h]; simp
      · rw [h]; simp
      · rw [h]
        obtain ⟨v, e1, e2, e3, e4, e5, _⟩ := gd_back _ 0 0 U N (isB_drop hB _) (by omega) h (by decide)
        simp only [Nat.pow_zero, Nat.mul_one, Nat.zero_add] at e1 e5
        subst e1
        simp only [if_true]
        rw [put_eq k (by omega) (by omega) (by simp) (by omega)]
        simp only [Option.bind_some, List.nil_append]
        rw [Int.toNat_natCast]
        rw [List.length_drop] at e3
        obtain rfl : N = ((enc v).length : Int) := by omega
        rw [wr (x := a1 + ((enc v).length : Int)) (by omega) (by omega), if_pos (by omega), if_pos (by omega), if_pos (by omega)]
        have ht : (l0.take (a1 + ((enc v).length : Int)).toNat).drop a1.toNat = enc v := by
          rw [List.drop_take, show (a1 + ((enc v).length : Int)).toNat - a1.toNat = (enc v).length from by omega]
          exact e4
        rw [ht]
        simp
end Go.Proofs.Ytfiihimbkjcflaa.Pure
