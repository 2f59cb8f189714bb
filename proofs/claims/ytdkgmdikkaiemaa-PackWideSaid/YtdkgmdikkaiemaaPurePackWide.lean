/- A wider width tells the same numbers in more bytes, as many as Size tells; no conditions. -/
import Derived.Test.YtdkgmdikkaiemaaPurePackPuts
set_option linter.unusedSimpArgs false
set_option linter.unusedVariables false
namespace Go.Proofs.Ytdkgmdikkaiemaa.Pure
open Go Go.RowKit Go.Proofs.Ytdkgmdikkaiemaa.PAll Go.Proofs.YtdkgmdikkaiemaaW.PrintWords Go.Proofs.YtdkgmdikkaiemaaW.PrintLast Go.Proofs.YtdkgmdikkaiemaaW.PrintMore Go.Proofs.Ytdkgmdikkaiemaa.Num
theorem PackWide : norialaw4_PackWide.Pure := by
  intro l a1 hL1 hL2 hwf ha
  have hl := isU_of_wf hwf
  have ha := wf_u8 ha
  obtain ⟨k, hk⟩ : ∃ k, 100000 ≤ k := ⟨100000, Nat.le_refl _⟩
  refine ⟨k, ?_⟩
  unfold norialaw4_PackWide.f
  rw [known_k (by omega), Option.bind_some, if_pos rfl]
  by_cases hc : (l.length : Int) > 200
  · rw [if_pos hc]
  · rw [if_neg hc]
    have h64 := wid_le64 hl
    obtain ⟨w, hw, hw1, hw2⟩ : ∃ w : Nat, mn 64 (wrap64 (((wid l : Nat) : Int) + (wrap64 (Int.tmod a1 65)))) = (w : Int) ∧ w ≤ 64 ∧ wid l ≤ w := by
      obtain ⟨a, rfl⟩ := Int.eq_ofNat_of_zero_le ha.1
      rw [show Int.tmod (a : Int) 65 = ((a % 65 : Nat) : Int) from rfl, wr (x := ((a % 65 : Nat) : Int)) (by omega) (by omega), wr (by omega) (by omega)]
      refine ⟨min 64 (wid l + a % 65), ?_, by omega, by omega⟩
      unfold mn
      split <;> omega
    obtain ⟨r, hr, he⟩ := put_ok (l := l) (w := wid l) (k := k) hl (by omega) h64 (by omega) (by omega)
    obtain ⟨s, hs, hf⟩ := put_ok (l := l) (w := w) (k := k) hl (by omega) hw1 hw2 (by omega)
    have hm : l.length * wid l ≤ l.length * w := Nat.mul_le_mul (Nat.le_refl _) hw2
    have hmax : l.length * w ≤ 200 * 64 := Nat.mul_le_mul (by omega) hw1
    have he2 : (l.length : Int) * (w : Int) = ((l.length * w : Nat) : Int) := by simp
    rw [width_eq hl (by omega) (by omega), Option.bind_some, hw, he, Option.bind_some, hf, Option.bind_some, puts_get hl (by omega) hw1 hw2 hs (by omega), Option.bind_some]
    rw [if_pos (show wrap64 (wrap64 (((r, (0 : Int)).2) + ((s, (0 : Int)).2)) + ((l, (0 : Int)).2)) = 0 from (by unfold wrap64; decide : wrap64 (wrap64 ((0 : Int) + 0) + 0) = 0)),
      if_pos (by rw [hr.1, hs.1]; omega), size_ok (by omega) hw1, Option.bind_some, hs.1, if_pos rfl, same_self (l := l) (by omega) (by omega), Option.bind_some, if_pos rfl, he2]
    generalize l.length * w = q at hmax
    rw [wr (x := (q : Int)) (by omega) (by omega), wr (x := (q : Int) + 7) (by omega) (by omega), show Int.tdiv ((q : Int) + 7) 8 = (((q + 7) / 8 : Nat) : Int) from rfl, wr (by omega) (by omega)]
    simp
end Go.Proofs.Ytdkgmdikkaiemaa.Pure
