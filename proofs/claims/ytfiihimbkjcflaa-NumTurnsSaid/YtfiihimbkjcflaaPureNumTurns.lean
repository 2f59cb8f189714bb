/- num.Zig and num.Zag tell what the document says, each the contrary of the other; no conditions. -/
import Derived.Test.YtfiihimbkjcflaaNKnown
import Derived.Test.YtfiihimbkjcflaaNRZig
set_option linter.unusedSimpArgs false
set_option linter.unusedVariables false
namespace Go.Proofs.Ytfiihimbkjcflaa.Pure
open Go Go.RowKit Go.Proofs.Ytfiihimbkjcflaa.PAll Go.Proofs.Ytfiihimbkjcflaa.Num Go.Proofs.YtfiihimbkjcflaaW.PrintWords Go.Proofs.YtfiihimbkjcflaaW.PrintLast
theorem NumTurns : norialaw1_NumTurns.Pure := by
  intro a0 a1 h0 h1
  have ha := wf_i64 h0
  have hu := wf_u64 h1
  obtain ⟨k, hk⟩ : ∃ k, 200 ≤ k := ⟨_, Nat.le_refl _⟩
  refine ⟨k, ?_⟩
  unfold norialaw1_NumTurns.f
  rw [known_k (by omega)]
  have hz := zig_bd ha.1 ha.2
  have hg := zag_bd hu.1 hu.2
  simp only [Option.bind_some, if_true]
  rw [zig_eq ha.1 ha.2, rzig_eq ha.1 ha.2, zag_eq hu.1 hu.2, rzag_eq hu.1 hu.2]
  simp only [Option.bind_some, if_true]
  rw [zag_eq hz.1 hz.2, zig_eq hg.1 hg.2, zag_zig, zig_zag _ hu.1]
  simp only [Option.bind_some, if_true]
  rw [and1_64 hz.1 hz.2, wu_gen]
  congr 1
  rw [beq_iff_eq]
  unfold zig
  split <;> omega
end Go.Proofs.Ytfiihimbkjcflaa.Pure
