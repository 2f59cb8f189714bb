/- Any bytes are read as so many numbers as the document says, or refused so; what is read is told so again; no conditions. -/
import Derived.Test.YtalgjhmehilioaaDRGet
set_option linter.unusedSimpArgs false
set_option linter.unusedVariables false
namespace Go.Proofs.Ytalgjhmehilioaa.Pure
open Go Go.RowKit Go.Proofs.Ytalgjhmehilioaa.PAll Go.Proofs.YtalgjhmehilioaaW.PrintWords Go.Proofs.YtalgjhmehilioaaW.PrintLast Go.Proofs.YtalgjhmehilioaaW.PrintMore Go.Proofs.Ytalgjhmehilioaa.Num
theorem gets_err {s : List Int} {n : Int} {k : Nat} {e : Int} (he : e ≠ 0) (hg : delta_Get.f (k + 1) s n = some ([], e)) (hr : noriaref11_GetSteps.f (k + 1) s n = some ([], e)) : norialaw6_DeltaGets.j0 (k + 2) s n false = some true := by
  show norialaw6_DeltaGets.j0 (k + 1 + 1) s n false = some true
  simp only [norialaw6_DeltaGets.j0]
  rw [if_neg (by simp), hg, Option.bind_some, hr, Option.bind_some, if_pos rfl, ints_self (l := []) (by simp) (by simp), Option.bind_some, if_pos rfl, if_neg he]
theorem gets_all {s : List Int} {n : Int} {k : Nat} (hs : isB s) (hL : s.length ≤ 1000) (hk : 10000000 ≤ k) : norialaw6_DeltaGets.j0 (k + 2) s n false = some true := by
  by_cases c : n < 0 ∨ 65536 < n
  · exact gets_err (by decide) (dget_bad c) (rgets_bad c)
  · cases s with
    | nil => exact gets_err (by decide) (dget_nil (by omega) (by omega)) (rgets_nil (by omega) (by omega))
    | cons w s =>
      obtain ⟨hw, hs'⟩ := isB_cons hs
      obtain ⟨l, e, h1, h2, h3⟩ := get_cases hs' n w (k := k) (by omega)
      rcases h3 with ⟨rfl, he⟩ | ⟨rfl, n', w', hn', hw', hn2, hw2, hl, hp⟩
      · have g1 := dget_of (k := k) (by omega) (by omega) hw.1 hw.2 h1 (fun x hx => by cases hx) (by simp) (by omega)
        have g2 := rgets_of (k := k) (by omega) (by omega) hw.1 hw.2 h2 (fun x hx => by cases hx) (by simp) (by omega)
        rw [if_neg he] at g1 g2
        exact gets_err he g1 g2
      · have hU : isU l := by rw [hl]; exact gets_U hw2
        have hll : l.length = n' := by rw [hl]; exact gets_len _ _ _
        have g1 := dget_of (k := k) (by omega) (by omega) hw.1 hw.2 h1 hU (by omega) (by omega)
        have g2 := rgets_of (k := k) (by omega) (by omega) hw.1 hw.2 h2 hU (by omega) (by omega)
        rw [if_pos rfl] at g1 g2
        by_cases c2 : w = ((wid l : Nat) : Int)
        · rw [if_pos c2] at g1 g2
          have hI := sums_I l 0
          have hsl := sums_len l 0
          obtain ⟨r, hr, he⟩ := dput_ok (k := k + 1) hI (by omega) (by omega)
          rw [steps_sums l 0 hU] at hr he
          have e1 : wid l = w' := by omega
          rw [← e1] at hp
          have e := packs_unique hr hp
          subst e
          rw [← c2] at he
          show norialaw6_DeltaGets.j0 (k + 1 + 1) (w :: r) n false = some true
          simp only [norialaw6_DeltaGets.j0]
          rw [if_neg (by simp), g1, Option.bind_some, g2, Option.bind_some, if_pos rfl, ints_self (l := sumsFrom 0 l) (by omega) (by omega), Option.bind_some, if_pos rfl, if_pos rfl, he, Option.bind_some, if_pos rfl]
          show some (((sumsFrom 0 l).length : Int) == n) = some true
          rw [hsl, hll, hn']
          simp
        · rw [if_neg c2] at g1 g2
          exact gets_err (by decide) g1 g2
theorem DeltaGets : norialaw6_DeltaGets.Pure := by
  intro s n hL1 hL2 hwf hn
  have hs := isB_of_wf hwf
  obtain ⟨k, hk⟩ : ∃ k, 10000000 ≤ k := ⟨10000000, Nat.le_refl _⟩
  refine ⟨k + 2, ?_⟩
  have ht : norialaw6_DeltaGets.j0 (k + 2) s n true = some true := by
    show norialaw6_DeltaGets.j0 (k + 1 + 1) s n true = some true
    simp only [norialaw6_DeltaGets.j0]
    rw [if_pos trivial]
  unfold norialaw6_DeltaGets.f
  rw [known_k (by omega), Option.bind_some, if_pos rfl]
  by_cases hc : (s.length : Int) > 200
  · rw [if_pos hc]; exact ht
  · rw [if_neg hc]
    have h0 := gets_all (s := s) (n := n) (k := k) hs (by omega) hk
    by_cases c1 : n > 1000
    · rw [if_pos c1]
      by_cases c2 : n ≤ 65536
      · rw [decide_eq_true c2]; exact ht
      · rw [decide_eq_false c2]; exact h0
    · rw [if_neg c1]; exact h0
end Go.Proofs.Ytalgjhmehilioaa.Pure
