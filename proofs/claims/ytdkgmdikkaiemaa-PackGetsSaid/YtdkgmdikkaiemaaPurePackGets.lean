/- Any bytes are read as numbers of any width as the document says, or refused so; what is read is packed so again; no conditions. -/
import Derived.Test.YtdkgmdikkaiemaaPRGet
set_option linter.unusedSimpArgs false
set_option linter.unusedVariables false
namespace Go.Proofs.Ytdkgmdikkaiemaa.Pure
open Go Go.RowKit Go.Proofs.Ytdkgmdikkaiemaa.PAll Go.Proofs.YtdkgmdikkaiemaaW.PrintWords Go.Proofs.YtdkgmdikkaiemaaW.PrintLast Go.Proofs.YtdkgmdikkaiemaaW.PrintMore Go.Proofs.Ytdkgmdikkaiemaa.Num
theorem gets_j1 {s : List Int} {w : Int} {l : List Int} {e : Int} {k : Nat} : norialaw4_PackGets.j1 (k + 1) s w l e false = (if e = 0 then ((pack_Put.f k l w).bind fun bt206 => (if bt206.2 = 0 then (some ((strOfNums bt206.1).toList == (strOfNums s).toList)) else (none))) else (some true)) := by
  simp only [norialaw4_PackGets.j1]
  rw [if_neg (by simp)]
theorem gets_err {s : List Int} {n w : Int} {k : Nat} {e z : Int} (he : e ≠ 0) (hg : pack_Get.f (k + 1) s n w = some ([], e)) (hr : noriaref11_GetBits.f (k + 1) s n w = some ([], e)) (hz : pack_Size.f n w = some z) : norialaw4_PackGets.j0 (k + 2) s n w false = some true := by
  show norialaw4_PackGets.j0 (k + 1 + 1) s n w false = some true
  simp only [norialaw4_PackGets.j0]
  rw [if_neg (by simp), hg, Option.bind_some, hr, Option.bind_some, if_pos rfl, same_self (l := []) (by simp) (by simp), Option.bind_some, if_pos rfl, rsize_eq, hz, Option.bind_some, Option.bind_some, show (z != z) = false from by simp, gets_j1, if_neg he]
theorem size_some (n w : Int) : ∃ z, pack_Size.f n w = some z := by
  unfold pack_Size.f pack_may.f
  by_cases c1 : n ≥ 0
  · rw [if_pos c1]
    by_cases c2 : n ≤ 65536
    · rw [if_pos c2]
      by_cases c3 : w ≥ 0
      · rw [if_pos c3, Option.bind_some]
        cases decide (w ≤ 64)
        · exact ⟨_, if_neg (by simp)⟩
        · exact ⟨_, if_pos rfl⟩
      · rw [if_neg c3]; exact ⟨_, rfl⟩
    · rw [if_neg c2]; exact ⟨_, rfl⟩
  · rw [if_neg c1]; exact ⟨_, rfl⟩
theorem gets_all {s : List Int} {n w : Int} {k : Nat} (hs : isB s) (hL : s.length ≤ 1000) (hk : 10000000 ≤ k) : norialaw4_PackGets.j0 (k + 2) s n w false = some true := by
  obtain ⟨z, hz⟩ := size_some n w
  by_cases c : n < 0 ∨ 65536 < n ∨ w < 0 ∨ 64 < w
  · exact gets_err (by decide) (get_out c) (rget_out c (by omega)) hz
  · obtain ⟨n, rfl⟩ := Int.eq_ofNat_of_zero_le (show 0 ≤ n by omega)
    obtain ⟨w, rfl⟩ := Int.eq_ofNat_of_zero_le (show 0 ≤ w by omega)
    have h1 := get_len (k := k + 1) (n := n) (w := w) (by omega) (by omega) hs (by omega)
    have h2 := rget_len (k := k + 1) (n := n) (w := w) (by omega) (by omega) hs (by omega)
    by_cases c1 : s.length < (n * w + 7) / 8
    · rw [if_pos c1] at h1 h2
      exact gets_err (by decide) h1 h2 hz
    · rw [if_neg c1] at h1 h2
      by_cases c2 : s.length > (n * w + 7) / 8
      · rw [if_pos c2] at h1 h2
        exact gets_err (by decide) h1 h2 hz
      · rw [if_neg c2] at h1 h2
        by_cases c3 : ∀ j, n * w ≤ j → bitAt s j = false
        · rw [if_pos c3] at h1 h2
          have hp := gets_packs hs (by omega) c3
          obtain ⟨r, hr, he⟩ := put_ok (l := gets s w n) (w := w) (k := k) (gets_U (by omega)) (by rw [gets_len]; omega) (by omega) gets_wid (by rw [gets_len]; omega)
          have e := packs_unique hr hp
          subst e
          show norialaw4_PackGets.j0 (k + 1 + 1) r n w false = some true
          simp only [norialaw4_PackGets.j0]
          rw [if_neg (by simp), h1, Option.bind_some, h2, Option.bind_some, if_pos rfl, same_self (l := gets r w n) (by rw [gets_len]; omega) (by rw [gets_len]; omega), Option.bind_some, if_pos rfl, rsize_eq, hz, Option.bind_some, Option.bind_some, show (z != z) = false from by simp, gets_j1, if_pos rfl, he, Option.bind_some, if_pos rfl]
          simp
        · rw [if_neg c3] at h1 h2
          exact gets_err (by decide) h1 h2 hz
theorem PackGets : norialaw4_PackGets.Pure := by
  intro s n w hL1 hL2 hwf hn hw
  have hs := isB_of_wf hwf
  obtain ⟨k, hk⟩ : ∃ k, 10000000 ≤ k := ⟨10000000, Nat.le_refl _⟩
  refine ⟨k + 2, ?_⟩
  unfold norialaw4_PackGets.f
  rw [known_k (by omega), Option.bind_some, if_pos rfl]
  by_cases hc : (s.length : Int) > 300
  · rw [if_pos hc]
  · rw [if_neg hc]
    have h0 := gets_all (s := s) (n := n) (w := w) (k := k) hs (by omega) hk
    have ht : norialaw4_PackGets.j0 (k + 2) s n w true = some true := by
      show norialaw4_PackGets.j0 (k + 1 + 1) s n w true = some true
      simp only [norialaw4_PackGets.j0]
      rw [if_pos trivial]
    by_cases c1 : n > 1000
    · rw [if_pos c1]
      by_cases c2 : n ≤ 65536
      · rw [if_pos c2]
        cases (w == 0)
        · exact h0
        · exact ht
      · rw [if_neg c2]; exact h0
    · rw [if_neg c1]; exact h0
end Go.Proofs.Ytdkgmdikkaiemaa.Pure
