/- Any numbers told in steps are told as the document says, and read again they are the same; no conditions. -/
import Derived.Test.YtalgjhmehilioaaDRef
set_option linter.unusedSimpArgs false
set_option linter.unusedVariables false
namespace Go.Proofs.Ytalgjhmehilioaa.Pure
open Go Go.RowKit Go.Proofs.Ytalgjhmehilioaa.PAll Go.Proofs.YtalgjhmehilioaaW.PrintWords Go.Proofs.YtalgjhmehilioaaW.PrintLast Go.Proofs.YtalgjhmehilioaaW.PrintMore Go.Proofs.Ytalgjhmehilioaa.Num
theorem DeltaPuts : norialaw6_DeltaPuts.Pure := by
  intro l hL1 hL2 hwf
  have hl := isI_of_wf hwf
  obtain ⟨k, hk⟩ : ∃ k, 5000000 ≤ k := ⟨5000000, Nat.le_refl _⟩
  refine ⟨k + 1, ?_⟩
  unfold norialaw6_DeltaPuts.f
  rw [known_k (by omega), Option.bind_some, if_pos rfl]
  by_cases hc : (l.length : Int) > 300
  · rw [if_pos hc]
  · rw [if_neg hc]
    obtain ⟨r, hr, he⟩ := dput_ok (k := k + 1) hl (by omega) (by omega)
    obtain ⟨s, hs, hf⟩ := rput_steps (k := k + 1) hl (by omega) (by omega)
    have e := packs_unique hs hr
    subst e
    rw [he, Option.bind_some, dget_put hl (by omega) hs hk, Option.bind_some, hf, Option.bind_some, if_pos rfl, dsteps_eq hl (by omega) (by omega), Option.bind_some, rsteps_eq hl (by omega) (by omega), Option.bind_some,
      same_self (by rw [steps_len]; omega) (by rw [steps_len]; omega), Option.bind_some, if_pos rfl, if_pos rfl, ints_self (l := l) (by omega) (by omega), Option.bind_some]
end Go.Proofs.Ytalgjhmehilioaa.Pure
