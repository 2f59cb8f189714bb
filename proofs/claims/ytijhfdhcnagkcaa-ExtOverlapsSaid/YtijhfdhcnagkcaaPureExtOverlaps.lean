/- Two rooms overlap just where some block is in both; no conditions. -/
import Derived.Test.YtijhfdhcnagkcaaEBase
import Derived.Test.YtijhfdhcnagkcaaPAllx14
set_option linter.unusedSimpArgs false
set_option linter.unusedVariables false
namespace Go.Proofs.Ytijhfdhcnagkcaa.Pure
open Go Go.RowKit Go.Proofs.Ytijhfdhcnagkcaa.PAll Go.Proofs.YtijhfdhcnagkcaaW.PrintWords Go.Proofs.YtijhfdhcnagkcaaW.PrintLast Go.Proofs.YtijhfdhcnagkcaaW.PrintMore Go.Proofs.Ytijhfdhcnagkcaa.Num
theorem overlaps_end {a b : S23} (ha : small a) (hb : small b) (h1 : 2 ≤ a.f0) (h2 : a.f0 + a.f1 ≤ 40) {k : Nat} {i : Int} (hi : ¬ i < 40) : norialaw14_ExtOverlaps.l0 (k + 1) (ovl a b) i a.f0 a.f1 b.f0 b.f1 = some true := by
  have a1 := ha.1
  have m1 : mn 40 1024 = 40 := by unfold mn; rfl
  have m2 : mn (a.f0 + a.f1) 1024 = a.f0 + a.f1 := by unfold mn; rw [if_neg (by omega)]
  have m3 : mn (a.f0 + a.f1 - 1) 1024 = a.f0 + a.f1 - 1 := by unfold mn; rw [if_neg (by omega)]
  simp only [norialaw14_ExtOverlaps.l0]
  rw [if_neg hi, ovl_eq ha hb, Option.bind_some, if_pos (by simp), ovl_eq hb ha, Option.bind_some, ovl_comm b a, if_pos (by simp), check_ok a1 h1 (by rw [m1]; exact h2), Option.bind_some, if_pos rfl, wr (x := a.f0 + a.f1) (by omega) (by omega), check_ok a1 h1 (by rw [m2]; omega), Option.bind_some, if_pos rfl, wr (x := a.f0 + a.f1 - 1) (by omega) (by omega)]
  obtain ⟨c, hc⟩ := check_some a.f0 a.f1 (a.f0 + a.f1 - 1)
  rw [hc, Option.bind_some]
  have : c ≠ 0 := by
    rintro rfl
    have := check_bd hc
    rw [m3] at this
    omega
  simpa using this
theorem overlaps_l0 {a b : S23} (ha : small a) (hb : small b) (h1 : 2 ≤ a.f0) (h2 : a.f0 + a.f1 ≤ 40) (h3 : a.f0 < 40) (h4 : b.f0 < 40) (h5 : b.f0 + b.f1 ≤ 40) : ∀ (d i k : Nat) (acc : Bool), i + d = 40 → d < k → (acc = true → ovl a b = true) → (ovl a b = true → acc = true ∨ (i : Int) ≤ a.f0 ∨ (i : Int) ≤ b.f0) →
    norialaw14_ExtOverlaps.l0 k acc i a.f0 a.f1 b.f0 b.f1 = some true := by
  intro d
  induction d with
  | zero =>
    intro i k acc hi hk hl hr
    obtain ⟨k, rfl⟩ : ∃ m, k = m + 1 := ⟨k - 1, by omega⟩
    have : acc = ovl a b := by
      rw [Bool.eq_iff_iff]
      refine ⟨hl, fun h => ?_⟩
      rcases hr h with h | h | h
      · exact h
      · omega
      · omega
    rw [this]
    exact overlaps_end ha hb h1 h2 (by omega)
  | succ d ih =>
    intro i k acc hi hk hl hr
    obtain ⟨k, rfl⟩ : ∃ m, k = m + 1 := ⟨k - 1, by omega⟩
    have ha' := ha
    have hb' := hb
    obtain ⟨a1, a2, a3, a4⟩ := ha
    obtain ⟨b1, b2, b3, b4⟩ := hb
    have e : (i : Int) + 1 = ((i + 1 : Nat) : Int) := by omega
    have hov : ovl a b = true ↔ (a.f0 < b.f0 + b.f1 ∧ b.f0 < a.f0 + a.f1) := by unfold ovl; exact decide_eq_true_iff
    simp only [norialaw14_ExtOverlaps.l0]
    rw [if_pos (by omega), wr (x := (i : Int) + 1) (by omega) (by omega), wr (x := a.f0 + a.f1) (by omega) (by omega), wr (x := b.f0 + b.f1) (by omega) (by omega), e]
    cases acc with
    | true =>
      rw [if_pos rfl]
      exact ih (i + 1) k true (by omega) (by omega) hl (fun _ => .inl rfl)
    | false =>
      rw [if_neg (by simp)]
      have go : ∀ nb : Bool, (nb = true ↔ (a.f0 ≤ (i : Int) ∧ (i : Int) < a.f0 + a.f1 ∧ b.f0 ≤ (i : Int) ∧ (i : Int) < b.f0 + b.f1)) → norialaw14_ExtOverlaps.l0 k nb ((i + 1 : Nat) : Int) a.f0 a.f1 b.f0 b.f1 = some true := by
        intro nb hnb
        refine ih (i + 1) k nb (by omega) (by omega) (fun h => ?_) (fun h => ?_)
        · rw [hov]
          have := hnb.mp h
          omega
        · rcases hr h with h6 | h6
          · cases h6
          · rw [hov] at h
            by_cases c : nb = true
            · exact .inl c
            · refine .inr ?_
              have : ¬ (a.f0 ≤ (i : Int) ∧ (i : Int) < a.f0 + a.f1 ∧ b.f0 ≤ (i : Int) ∧ (i : Int) < b.f0 + b.f1) := fun h => c (hnb.mpr h)
              omega
      by_cases c1 : (i : Int) ≥ a.f0
      · rw [if_pos c1]
        by_cases c2 : (i : Int) < a.f0 + a.f1
        · rw [if_pos c2]
          by_cases c3 : (i : Int) ≥ b.f0
          · rw [if_pos c3]
            exact go _ (by rw [decide_eq_true_iff]; omega)
          · rw [if_neg c3]
            exact go false (by simp; omega)
        · rw [if_neg c2]
          exact go false (by simp; omega)
      · rw [if_neg c1]
        exact go false (by simp; omega)
theorem ExtOverlaps : norialaw14_ExtOverlaps.Pure := by
  intro x0 x1 y0 y1 hx0 hx1 hy0 hy1
  have hx0 := wf_u8 hx0
  have hx1 := wf_u8 hx1
  have hy0 := wf_u8 hy0
  have hy1 := wf_u8 hy1
  obtain ⟨x0, rfl⟩ := Int.eq_ofNat_of_zero_le hx0.1
  obtain ⟨x1, rfl⟩ := Int.eq_ofNat_of_zero_le hx1.1
  obtain ⟨y0, rfl⟩ := Int.eq_ofNat_of_zero_le hy0.1
  obtain ⟨y1, rfl⟩ := Int.eq_ofNat_of_zero_le hy1.1
  refine ⟨100, ?_⟩
  unfold norialaw14_ExtOverlaps.f
  rw [extKnown, Option.bind_some, if_pos rfl, show Int.tmod (x0 : Int) 20 = ((x0 % 20 : Nat) : Int) from rfl, show Int.tmod (y0 : Int) 20 = ((y0 % 20 : Nat) : Int) from rfl, show Int.tmod (x1 : Int) 8 = ((x1 % 8 : Nat) : Int) from rfl, show Int.tmod (y1 : Int) 8 = ((y1 % 8 : Nat) : Int) from rfl]
  rw [wr (x := ((x0 % 20 : Nat) : Int)) (by omega) (by omega), wr (x := ((x1 % 8 : Nat) : Int)) (by omega) (by omega), wr (x := ((y0 % 20 : Nat) : Int)) (by omega) (by omega), wr (x := ((y1 % 8 : Nat) : Int)) (by omega) (by omega), wr (x := 2 + ((x0 % 20 : Nat) : Int)) (by omega) (by omega), wr (x := 1 + ((x1 % 8 : Nat) : Int)) (by omega) (by omega), wr (x := 2 + ((y0 % 20 : Nat) : Int)) (by omega) (by omega), wr (x := 1 + ((y1 % 8 : Nat) : Int)) (by omega) (by omega)]
  refine overlaps_l0 (a := ⟨2 + ((x0 % 20 : Nat) : Int), 1 + ((x1 % 8 : Nat) : Int)⟩) (b := ⟨2 + ((y0 % 20 : Nat) : Int), 1 + ((y1 % 8 : Nat) : Int)⟩) ?_ ?_ ?_ ?_ ?_ ?_ ?_ 40 0 100 false (by omega) (by omega) (fun h => by cases h) (fun _ => .inr (.inl ?_))
  all_goals (try unfold small)
  all_goals (dsimp only)
  all_goals omega
end Go.Proofs.Ytijhfdhcnagkcaa.Pure
