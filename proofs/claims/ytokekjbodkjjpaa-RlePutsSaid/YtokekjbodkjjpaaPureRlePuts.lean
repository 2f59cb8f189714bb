/- Any numbers told in runs are told as the document says, and read again they are the same, in as many runs; no conditions. -/
import Derived.Test.YtokekjbodkjjpaaRRef
set_option linter.unusedSimpArgs false
set_option linter.unusedVariables false
namespace Go.Proofs.Ytokekjbodkjjpaa.Pure
open Go Go.RowKit Go.Proofs.Ytokekjbodkjjpaa.PAll Go.Proofs.YtokekjbodkjjpaaW.PrintWords Go.Proofs.YtokekjbodkjjpaaW.PrintLast Go.Proofs.YtokekjbodkjjpaaW.PrintMore Go.Proofs.Ytokekjbodkjjpaa.Num
theorem RlePuts : norialaw5_RlePuts.Pure := by
  intro l hL1 hL2 hwf
  obtain ⟨rs, rfl, hg⟩ := exists_runs l (isV_of_wf hwf)
  obtain ⟨k, hk⟩ : ∃ k, 100000 ≤ k := ⟨100000, Nat.le_refl _⟩
  refine ⟨k, ?_⟩
  unfold norialaw5_RlePuts.f
  rw [known_k (by omega), Option.bind_some, if_pos rfl]
  by_cases hc : ((expand rs).length : Int) > 600
  · rw [if_pos hc]
  · rw [if_neg hc, rput_runs hg (by omega) (by omega), Option.bind_some, rget_put hg (Nat.le_refl _) (by omega) (by omega), Option.bind_some, refput_eq hg (by omega) (by omega), Option.bind_some, if_pos rfl, runs_eq hg (by omega) (by omega), Option.bind_some, refruns_eq hg (by omega) (by omega), Option.bind_some, if_pos rfl, if_pos rfl,
      same_self (l := expand rs) (by omega) (by omega), Option.bind_some]
end Go.Proofs.Ytokekjbodkjjpaa.Pure
