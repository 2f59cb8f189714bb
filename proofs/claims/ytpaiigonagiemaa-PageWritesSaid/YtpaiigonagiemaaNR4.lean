import Derived.Test.YtpaiigonagiemaaN4
set_option linter.unusedSimpArgs false
set_option linter.unusedVariables false
namespace Go.Proofs.Ytpaiigonagiemaa.Num
open Go Go.RowKit Go.Proofs.Ytpaiigonagiemaa.PAll Go.Proofs.YtpaiigonagiemaaW.PrintWords Go.Proofs.YtpaiigonagiemaaW.PrintLast Go.Proofs.YtpaiigonagiemaaW.PrintMore
theorem rget4_same (k : Nat) (l : List Int) (a : Int) : noriaref11_Get4.f (k + 1) l a = num_Get4.f (k + 1) l a := by
  unfold num_Get4.f noriaref11_Get4.f
  simp only [num_Get4.j0, noriaref11_Get4.j0]
theorem rget4_k {k : Nat} (hk : 200 ≤ k) (l : List Int) (a : Int) : noriaref11_Get4.f k l a = num_Get4.f k l a := by
  obtain ⟨k, rfl⟩ : ∃ m, k = m + 1 := ⟨k - 1, by omega⟩
  exact rget4_same k l a
end Go.Proofs.Ytpaiigonagiemaa.Num
