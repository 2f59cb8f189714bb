import Derived.Test.YtalgjhmehilioaaDRef
/- The reference's GetSteps. -/
set_option linter.unusedSimpArgs false
set_option linter.unusedVariables false
namespace Go.Proofs.Ytalgjhmehilioaa.Num
open Go Go.RowKit Go.Proofs.Ytalgjhmehilioaa.PAll Go.Proofs.YtalgjhmehilioaaW.PrintWords Go.Proofs.YtalgjhmehilioaaW.PrintLast Go.Proofs.YtalgjhmehilioaaW.PrintMore
theorem rgets_l0 {s : List Int} (hs : isU s) (hL : s.length ≤ 1000000) : ∀ (d i k : Nat) (acc : List Int) (p : Int), i + d = s.length → acc.length = i → d < k →
    noriaref11_GetSteps.l0 k s acc p i = some (acc ++ sumsFrom p (s.drop i), 0) := by
  intro d
  induction d with
  | zero =>
    intro i k acc p hi ha hk
    obtain ⟨k, rfl⟩ : ∃ m, k = m + 1 := ⟨k - 1, by omega⟩
    simp only [noriaref11_GetSteps.l0]
    rw [if_neg (by omega), List.drop_of_length_le (by omega)]
    simp [sumsFrom]
  | succ d ih =>
    intro i k acc p hi ha hk
    obtain ⟨k, rfl⟩ : ∃ m, k = m + 1 := ⟨k - 1, by omega⟩
    have hv := rd_mem_U hs (i := i) (by omega)
    simp only [noriaref11_GetSteps.l0]
    rw [if_pos (by omega), if_pos (by omega), rzag_eq hv.1 hv.2, Option.bind_some, if_pos (by omega), wr (x := (i : Int) + 1) (by omega) (by omega)]
    have := ih (i + 1) k (acc ++ [wrap64 (p + zag (rd s (i : Int)))]) (wrap64 (p + zag (rd s (i : Int)))) (by omega) (by simp [ha]) (by omega)
    rw [show ((i + 1 : Nat) : Int) = (i : Int) + 1 from by omega] at this
    rw [this, drop_rd (i := i) (by omega), sumsFrom]
    simp
theorem rgets_of {s l : List Int} {w n e : Int} {k : Nat} (hn0 : 0 ≤ n) (hn : n ≤ 65536) (hw0 : 0 ≤ w) (hw : w ≤ 255) (hg : noriaref11_GetBits.f k s n w = some (l, e)) (hU : isU l) (hL : l.length ≤ 65536) (hk : 5000000 ≤ k) :
    noriaref11_GetSteps.f (k + 1) (w :: s) n = if e = 0 then (if w = ((wid l : Nat) : Int) then some (sumsFrom 0 l, 0) else some ([], 2)) else some ([], e) := by
  have hrd : rd (w :: s) 0 = w := rfl
  unfold noriaref11_GetSteps.f
  rw [if_neg (by omega), decide_eq_false (by omega)]
  simp only [noriaref11_GetSteps.j0]
  rw [if_neg (by simp), if_neg (by simp only [List.length_cons]; omega), if_pos (by simp only [List.length_cons]; omega), if_pos (by simp only [List.length_cons]; omega), List.drop_one, List.tail_cons, hrd, wr (by omega) (by omega), hg, Option.bind_some]
  by_cases c : e = 0
  · rw [if_pos c, if_pos c, rwidth_eq hU (by omega) (by omega), Option.bind_some]
    by_cases c2 : w = ((wid l : Nat) : Int)
    · rw [if_pos c2.symm, if_pos c2]
      have := rgets_l0 hU (by omega) l.length 0 k [] 0 (by omega) rfl (by omega)
      rw [List.drop_zero, List.nil_append] at this
      exact this
    · rw [if_neg (fun h => c2 h.symm), if_neg c2]
  · rw [if_neg c, if_neg c]
theorem rgets_bad {b : List Int} {n : Int} {k : Nat} (hn : n < 0 ∨ 65536 < n) : noriaref11_GetSteps.f (k + 1) b n = some ([], 1) := by
  have hj : noriaref11_GetSteps.j0 (k + 1) b n true = some ([], 1) := by simp only [noriaref11_GetSteps.j0]; rw [if_pos trivial]
  unfold noriaref11_GetSteps.f
  by_cases c : n < 0
  · rw [if_pos c, hj]
  · rw [if_neg c, decide_eq_true (by omega), hj]
theorem rgets_nil {n : Int} {k : Nat} (hn0 : 0 ≤ n) (hn : n ≤ 65536) : noriaref11_GetSteps.f (k + 1) [] n = some ([], 5) := by
  unfold noriaref11_GetSteps.f
  rw [if_neg (by omega), decide_eq_false (by omega)]
  simp only [noriaref11_GetSteps.j0]
  rw [if_neg (by simp), if_pos (by simp)]
end Go.Proofs.Ytalgjhmehilioaa.Num
