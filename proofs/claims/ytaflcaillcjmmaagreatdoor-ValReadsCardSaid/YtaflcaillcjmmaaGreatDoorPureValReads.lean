/- Any text as a value, or why it is none, as the document tells; what is one is told so again and may be; no conditions. -/
import Derived.Test.YtaflcaillcjmmaaGreatDoorVKnown
import Derived.Test.YtaflcaillcjmmaaGreatDoorRdB
import Derived.Test.YtaflcaillcjmmaaGreatDoorPAllx12
set_option linter.unusedSimpArgs false
set_option linter.unusedVariables false
namespace Go.Proofs.YtaflcaillcjmmaaGreatDoor.Pure
open Go Go.RowKit Go.Proofs.YtaflcaillcjmmaaGreatDoor.PAll Go.Proofs.YtaflcaillcjmmaaGreatDoor.Num Go.Proofs.YtaflcaillcjmmaaGreatDoor.Help Go.Proofs.YtaflcaillcjmmaaGreatDoorW.PrintWords Go.Proofs.YtaflcaillcjmmaaGreatDoorW.PrintLast Go.Proofs.YtaflcaillcjmmaaGreatDoorW.PrintMore
theorem ValReads : norialaw3_ValReads.Pure := by
  intro a ha
  refine ⟨5001, ?_⟩
  unfold norialaw3_ValReads.f
  rw [known_k (by omega), Option.bind_some, if_pos rfl]
  by_cases h : (a.size : Int) > 700
  · rw [if_pos h]
  · rw [if_neg h]
    obtain ⟨L, rfl⟩ : ∃ L, a = ofL L := ⟨_, (toList_ofL a).symm⟩
    rw [ofL_size] at h
    have hF := fine_all 5000 (by omega) L (by omega)
    rw [parse_all 5001 (by omega) L (by omega), ref_all 5001 (by omega) L (by omega)]
    generalize pval L = r at hF
    obtain ⟨t, n, s, c, e⟩ := r
    obtain ⟨h1, h2, h3⟩ := hF
    simp only at h1 h2 h3
    simp only [Option.bind_some, norialaw3_Of.f, if_true]
    rw [h1]
    simp only [beq_self_eq_true, Bool.not_true, Bool.or_self]
    simp only [norialaw3_ValReads.j0]
    rw [if_neg (by simp)]
    by_cases he : e = 0
    · rw [if_pos he, h2 he, Option.bind_some, if_pos rfl, h3 he]
      rfl
    · rw [if_neg he]
end Go.Proofs.YtaflcaillcjmmaaGreatDoor.Pure
