/- Any two rooms: whether each may be, whether a block is in both; no conditions. -/
import Derived.Test.YtijhfdhcnagkcaaEBase
import Derived.Test.YtijhfdhcnagkcaaPAllx6
set_option linter.unusedSimpArgs false
set_option linter.unusedVariables false
namespace Go.Proofs.Ytijhfdhcnagkcaa.Pure
open Go Go.RowKit Go.Proofs.Ytijhfdhcnagkcaa.PAll Go.Proofs.YtijhfdhcnagkcaaW.PrintWords Go.Proofs.YtijhfdhcnagkcaaW.PrintLast Go.Proofs.YtijhfdhcnagkcaaW.PrintMore Go.Proofs.Ytijhfdhcnagkcaa.Num
theorem any_j0 {a b : S23} {n : Int} (ha : ext_Check.f a.f0 a.f1 n = some 0) (hb : ext_Check.f b.f0 b.f1 n = some 0) {k : Nat} (hk : 3000 ≤ k) : norialaw14_ExtAny.j0 (k + 1) false a.f0 a.f1 b.f0 b.f1 = some true := by
  have hsa : small a := check_small ha
  have hsb : small b := check_small hb
  have ha4 : a.f1 ≤ 1024 := by have := check_bd ha; have := mn_max n; omega
  simp only [norialaw14_ExtAny.j0]
  rw [if_neg (by simp), ovl_eq hsa hsb, Option.bind_some, of_eq, Option.bind_some, of_eq, Option.bind_some, rovl_eq hsa hsb ha4 hk, Option.bind_some, if_pos (by simp), Option.bind_some, ovl_eq hsb hsa, Option.bind_some, ovl_comm b a, if_pos (by simp), ovl_eq hsa hsa, Option.bind_some, ovl_self hsa.1]
theorem ExtAny : ∀ (a0 a1 b0 b1 n : Int), ∃ k, norialaw14_ExtAny.f k a0 a1 b0 b1 n = some true := by
  intro a0 a1 b0 b1 n
  refine ⟨3001, ?_⟩
  have ht : norialaw14_ExtAny.j0 3001 true a0 a1 b0 b1 = some true := by
    show norialaw14_ExtAny.j0 (3000 + 1) true a0 a1 b0 b1 = some true
    simp only [norialaw14_ExtAny.j0]
    rw [if_pos trivial]
  obtain ⟨c, hc⟩ := check_some a0 a1 n
  unfold norialaw14_ExtAny.f
  rw [extKnown, Option.bind_some, if_pos rfl, hc, Option.bind_some, of_eq, Option.bind_some, check_ref, hc, Option.bind_some, if_pos rfl, Option.bind_some]
  by_cases c0 : c = 0
  · subst c0
    obtain ⟨e, he⟩ := check_some b0 b1 n
    rw [check_ref, hc, Option.bind_some, if_pos rfl, of_eq, Option.bind_some, check_ref, he, Option.bind_some]
    by_cases e0 : e = 0
    · subst e0
      exact any_j0 (a := ⟨a0, a1⟩) (b := ⟨b0, b1⟩) hc he (Nat.le_refl _)
    · rw [show (e != 0) = true from by simpa using e0]
      exact ht
  · rw [check_ref, hc, Option.bind_some, if_neg c0]
    exact ht
end Go.Proofs.Ytijhfdhcnagkcaa.Pure
