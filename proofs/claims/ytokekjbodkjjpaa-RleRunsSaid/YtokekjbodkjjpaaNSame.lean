import Derived.Test.YtokekjbodkjjpaaEnc
import Derived.Test.YtokekjbodkjjpaaPAllx
/- Rows alike. -/
namespace Go.Proofs.Ytokekjbodkjjpaa.Num
open Go Go.RowKit Go.Proofs.Ytokekjbodkjjpaa.PAll Go.Proofs.YtokekjbodkjjpaaW.PrintWords Go.Proofs.YtokekjbodkjjpaaW.PrintLast Go.Proofs.YtokekjbodkjjpaaW.PrintMore
theorem same_l0 (l : List Int) (hL : l.length ≤ 70368744177664) : ∀ (d i k : Nat), i + d = l.length → d < k → norialaw4_Same.l0 k l l i = some true := by
  intro d
  induction d with
  | zero =>
    intro i k hi hk
    obtain ⟨k, rfl⟩ : ∃ m, k = m + 1 := ⟨k - 1, by omega⟩
    simp only [norialaw4_Same.l0]
    rw [if_neg (by omega)]
  | succ d ih =>
    intro i k hi hk
    obtain ⟨k, rfl⟩ : ∃ m, k = m + 1 := ⟨k - 1, by omega⟩
    simp only [norialaw4_Same.l0]
    rw [if_pos (by omega), if_pos (by omega), if_pos (by omega), wr (by omega) (by omega)]
    simp only [if_true]
    exact ih (i + 1) k (by omega) (by omega)
theorem same_self {l : List Int} {k : Nat} (hL : l.length ≤ 70368744177664) (hk : l.length < k) : norialaw4_Same.f k l l = some true := by
  unfold norialaw4_Same.f
  rw [if_pos rfl]
  exact same_l0 l hL l.length 0 k (by omega) hk
end Go.Proofs.Ytokekjbodkjjpaa.Num
