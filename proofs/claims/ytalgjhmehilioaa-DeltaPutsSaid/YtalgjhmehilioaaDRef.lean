import Derived.Test.YtalgjhmehilioaaDStep
/- The reference's Steps, PutSteps. -/
set_option linter.unusedSimpArgs false
set_option linter.unusedVariables false
namespace Go.Proofs.Ytalgjhmehilioaa.Num
open Go Go.RowKit Go.Proofs.Ytalgjhmehilioaa.PAll Go.Proofs.YtalgjhmehilioaaW.PrintWords Go.Proofs.YtalgjhmehilioaaW.PrintLast Go.Proofs.YtalgjhmehilioaaW.PrintMore
theorem rsteps_l0 {l : List Int} (hl : isI l) (hL : l.length ≤ 1000000) : ∀ (d i k : Nat) (acc : List Int) (p : Int), i + d = l.length → acc.length = i → -9223372036854775808 ≤ p ∧ p ≤ 9223372036854775807 → d < k →
    noriaref11_Steps.l0 k l acc p i = some (acc ++ stepsFrom p (l.drop i)) := by
  intro d
  induction d with
  | zero =>
    intro i k acc p hi ha hp hk
    obtain ⟨k, rfl⟩ : ∃ m, k = m + 1 := ⟨k - 1, by omega⟩
    simp only [noriaref11_Steps.l0]
    rw [if_neg (by omega), List.drop_of_length_le (by omega)]
    simp [stepsFrom]
  | succ d ih =>
    intro i k acc p hi ha hp hk
    obtain ⟨k, rfl⟩ : ∃ m, k = m + 1 := ⟨k - 1, by omega⟩
    have hv := rd_mem_I hl (i := i) (by omega)
    simp only [noriaref11_Steps.l0]
    rw [if_pos (by omega), if_pos (by omega), rzig_eq (wr_bd _).1 (wr_bd _).2, Option.bind_some, if_pos (by omega), wr (x := (i : Int) + 1) (by omega) (by omega)]
    have := ih (i + 1) k (acc ++ [zig (wrap64 (rd l (i : Int) - p))]) (rd l (i : Int)) (by omega) (by simp [ha]) hv (by omega)
    rw [show ((i + 1 : Nat) : Int) = (i : Int) + 1 from by omega] at this
    rw [this, drop_rd (i := i) (by omega), stepsFrom]
    simp
theorem rsteps_eq {l : List Int} (hl : isI l) (hL : l.length ≤ 1000000) {k : Nat} (hk : l.length < k) : noriaref11_Steps.f k l = some (stepsFrom 0 l) := by
  have := rsteps_l0 hl hL l.length 0 k [] 0 (by omega) rfl (by omega) hk
  rw [List.drop_zero, List.nil_append] at this
  exact this
theorem rput_steps {l : List Int} {k : Nat} (hl : isI l) (hL : l.length ≤ 65536) (hk : 70 * (l.length + 2) < k) : ∃ r, packs (stepsFrom 0 l) (wid (stepsFrom 0 l)) r ∧ noriaref11_PutSteps.f k l = some (((wid (stepsFrom 0 l) : Nat) : Int) :: r) := by
  have hu := steps_U l 0
  have h64 := wid_le64 hu
  have hln := steps_len l 0
  obtain ⟨r, hr, he⟩ := rput_ok (l := stepsFrom 0 l) (w := wid (stepsFrom 0 l)) (k := k) hu (by omega) h64 (Nat.le_refl _) (by omega)
  refine ⟨r, hr, ?_⟩
  have hm : (stepsFrom 0 l).length * wid (stepsFrom 0 l) ≤ 65536 * 64 := Nat.mul_le_mul (by omega) h64
  have hrl := hr.1
  unfold noriaref11_PutSteps.f
  rw [rsteps_eq hl (by omega) (by omega), Option.bind_some, rwidth_eq hu (by omega) (by omega), Option.bind_some, he, Option.bind_some, Option.bind_some, if_pos (by simp only [List.length_cons, List.length_nil]; omega)]
  rw [show ((wid (stepsFrom 0 l) : Nat) : Int) % 256 = ((wid (stepsFrom 0 l) : Nat) : Int) from by omega]
  rfl
end Go.Proofs.Ytalgjhmehilioaa.Num
