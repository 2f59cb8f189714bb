/- Any numbers packed in any width are packed as the document says, or refused so; read again they are the same; no conditions. -/
import Derived.Test.YtdkgmdikkaiemaaPRGet
set_option linter.unusedSimpArgs false
set_option linter.unusedVariables false
namespace Go.Proofs.Ytdkgmdikkaiemaa.Pure
open Go Go.RowKit Go.Proofs.Ytdkgmdikkaiemaa.PAll Go.Proofs.YtdkgmdikkaiemaaW.PrintWords Go.Proofs.YtdkgmdikkaiemaaW.PrintLast Go.Proofs.YtdkgmdikkaiemaaW.PrintMore Go.Proofs.Ytdkgmdikkaiemaa.Num
theorem puts_j0 {l : List Int} {w : Int} {x5 : List Int} {x8 x9 : Int} {k : Nat} : norialaw4_PackPuts.j0 (k + 1) l w x5 x8 x9 false = (if x8 = 0 then ((pack_Get.f k x5 (l.length : Int) w).bind fun bt182 => (if bt182.2 = 0 then ((norialaw4_Same.f k bt182.1 l).bind fun t186 => (if t186 = true then ((pack_Size.f (l.length : Int) w).bind fun t187 => (if t187 = (x5.length : Int) then (some (decide (w ≥ x9))) else (none))) else (none))) else (none))) else (if w < x9 then (some true) else (some (decide (w > 64))))) := by
  simp only [norialaw4_PackPuts.j0]
  rw [if_neg (by simp)]
theorem puts_get {l r : List Int} {w k : Nat} (hl : isU l) (hL : l.length ≤ 65536) (hw : w ≤ 64) (hwd : wid l ≤ w) (h : packs l w r) (hk : 70 * (l.length + 2) < k) : pack_Get.f k r l.length w = some (l, 0) := by
  rw [get_len hL hw h.2.1 hk, if_neg (by rw [h.1]; omega), if_neg (by rw [h.1]; omega), if_pos (fun j hj => by rw [h.2.2]; exact bitOf_out hj), gets_back hl hwd h]
theorem PackPuts : norialaw4_PackPuts.Pure := by
  intro l a1 hL1 hL2 hwf ha
  have hl := isU_of_wf hwf
  have ha := wf_i64 ha
  obtain ⟨k, hk⟩ : ∃ k, 100000 ≤ k := ⟨100000, Nat.le_refl _⟩
  refine ⟨k + 1, ?_⟩
  unfold norialaw4_PackPuts.f
  rw [known_k (by omega), Option.bind_some, if_pos rfl]
  by_cases hc : (l.length : Int) > 300
  · rw [if_pos hc]
  · rw [if_neg hc]
    have h64 := wid_le64 hl
    by_cases c : a1 < 0 ∨ 64 < a1 ∨ a1 < (wid l : Int)
    · rw [put_bad hl (by omega) c (by omega), Option.bind_some, rput_bad hl (by omega) c (by omega), Option.bind_some, width_eq hl (by omega) (by omega), Option.bind_some, if_pos rfl, if_pos rfl, rwidth_eq hl (by omega) (by omega), Option.bind_some]
      rw [show (((wid l : Nat) : Int) != ((wid l : Nat) : Int)) = false from by simp, puts_j0, if_neg (by simp)]
      by_cases c2 : a1 < (wid l : Int)
      · rw [if_pos c2]
      · rw [if_neg c2, decide_eq_true (by omega)]
    · obtain ⟨w, rfl⟩ := Int.eq_ofNat_of_zero_le (show 0 ≤ a1 by omega)
      obtain ⟨r, hr, he⟩ := put_ok (l := l) (w := w) (k := k + 1) hl (by omega) (by omega) (by omega) (by omega)
      obtain ⟨r', hr', he'⟩ := rput_ok (l := l) (w := w) (k := k + 1) hl (by omega) (by omega) (by omega) (by omega)
      have e := packs_unique hr' hr
      subst e
      rw [he, Option.bind_some, he', Option.bind_some, width_eq hl (by omega) (by omega), Option.bind_some, if_pos rfl, if_pos rfl, rwidth_eq hl (by omega) (by omega), Option.bind_some]
      rw [show (((wid l : Nat) : Int) != ((wid l : Nat) : Int)) = false from by simp, puts_j0, if_pos rfl]
      rw [puts_get hl (by omega) (by omega) (by omega) hr (by omega), Option.bind_some, if_pos rfl, same_self (l := l) (by omega) (by omega), Option.bind_some, if_pos rfl, size_ok (by omega) (by omega), Option.bind_some, hr.1, if_pos rfl, decide_eq_true (by omega)]
end Go.Proofs.Ytdkgmdikkaiemaa.Pure
