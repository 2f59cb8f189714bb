import Derived.Test.YtalgjhmehilioaaPGet
/- The reference's GetBits; Same; parameters out of range. -/
set_option linter.unusedSimpArgs false
set_option linter.unusedVariables false
namespace Go.Proofs.Ytalgjhmehilioaa.Num
open Go Go.RowKit Go.Proofs.Ytalgjhmehilioaa.PAll Go.Proofs.YtalgjhmehilioaaW.PrintWords Go.Proofs.YtalgjhmehilioaaW.PrintLast Go.Proofs.YtalgjhmehilioaaW.PrintMore
theorem rget_l1 {s : List Int} {w n : Nat} (hs : isB s) (hl : s.length = (n * w + 7) / 8) (hw : w ≤ 64) (hn : n ≤ 65536) {i : Nat} (hi : i < n) (x6 : List Int) (h6 : x6.length = i) : ∀ (d b p k : Nat), b + d = w → p = i * w + b → d < k →
    noriaref11_GetBits.l1 k s n w x6 p i (gbits s (i * w) b : Int) b = noriaref11_GetBits.l0 (k - (d + 1)) s n w (x6 ++ [(gbits s (i * w) w : Int)]) (((i + 1) * w : Nat) : Int) ((i + 1 : Nat) : Int) := by
  intro d
  induction d with
  | zero =>
    intro b p k hb hp hk
    obtain ⟨k, rfl⟩ : ∃ m, k = m + 1 := ⟨k - 1, by omega⟩
    have e : p = (i + 1) * w := by rw [hp, Nat.add_mul]; omega
    simp only [noriaref11_GetBits.l1]
    rw [if_neg (by omega), if_pos (by omega), wr (by omega) (by omega), e, show b = w from by omega]
    rfl
  | succ d ih =>
    intro b p k hb hp hk
    obtain ⟨k, rfl⟩ : ∃ m, k = m + 1 := ⟨k - 1, by omega⟩
    have hlt : p < n * w := by
      have : (i + 1) * w ≤ n * w := Nat.mul_le_mul (by omega) (Nat.le_refl _)
      rw [Nat.add_mul] at this
      omega
    have hmax : n * w ≤ 65536 * 64 := Nat.mul_le_mul hn hw
    simp only [noriaref11_GetBits.l1]
    rw [if_pos (by omega), show Int.tdiv (p : Int) 8 = ((p / 8 : Nat) : Int) from rfl, show Int.tmod (p : Int) 8 = ((p % 8 : Nat) : Int) from rfl, wr (x := ((p / 8 : Nat) : Int)) (by omega) (by omega), wu (x := ((p % 8 : Nat) : Int)) (by omega) (by omega), wu (x := (b : Int)) (by omega) (by omega), if_pos (by omega), if_pos (by omega), if_pos (by omega),
      bit_of_byte hs, wr (x := (p : Int) + 1) (by omega) (by omega), wr (x := (b : Int) + 1) (by omega) (by omega)]
    have h2 := ih (b + 1) (p + 1) k (by omega) (by omega) (by omega)
    rw [gbits, ← hp] at h2
    have h3 := shl64 (b := b) (by omega) true
    have h4 := gbits_or (s := s) (p := i * w) (b := b) (by omega) true
    rw [if_pos rfl, if_pos rfl] at h3
    rw [if_pos rfl] at h4
    cases c : bitAt s p
    · rw [c, if_neg (by simp), Nat.or_zero] at h2
      rw [if_neg (by simp), show k + 1 - (d + 1 + 1) = k - (d + 1) from by omega, ← h2]
      rfl
    · rw [c, if_pos rfl] at h2
      rw [if_pos (by simp), if_pos (by omega), h3, h4, show k + 1 - (d + 1 + 1) = k - (d + 1) from by omega, ← h2]
      rfl
open Classical in
theorem rget_l2 {s : List Int} (hs : isB s) (hL : s.length ≤ 1000000) (l : List Int) : ∀ (d p k : Nat), p + d = 8 * s.length → d < k →
    noriaref11_GetBits.l2 k s l p = if ∀ j, p ≤ j → bitAt s j = false then some (l, 0) else some ([], 2) := by
  intro d
  induction d with
  | zero =>
    intro p k hp hk
    obtain ⟨k, rfl⟩ : ∃ m, k = m + 1 := ⟨k - 1, by omega⟩
    simp only [noriaref11_GetBits.l2]
    rw [wr (by omega) (by omega), if_neg (by omega), if_pos (fun j hj => bitAt_out (by omega))]
  | succ d ih =>
    intro p k hp hk
    obtain ⟨k, rfl⟩ : ∃ m, k = m + 1 := ⟨k - 1, by omega⟩
    simp only [noriaref11_GetBits.l2]
    rw [wr (x := 8 * (s.length : Int)) (by omega) (by omega), if_pos (by omega), show Int.tdiv (p : Int) 8 = ((p / 8 : Nat) : Int) from rfl, show Int.tmod (p : Int) 8 = ((p % 8 : Nat) : Int) from rfl, wr (x := ((p / 8 : Nat) : Int)) (by omega) (by omega), wu (x := ((p % 8 : Nat) : Int)) (by omega) (by omega), if_pos (by omega), if_pos (by omega), if_pos (by omega),
      bit_of_byte hs, wr (x := (p : Int) + 1) (by omega) (by omega)]
    cases c : bitAt s p
    · rw [if_neg (by simp)]
      have := ih (p + 1) k (by omega) (by omega)
      rw [show ((p + 1 : Nat) : Int) = (p : Int) + 1 from by omega] at this
      rw [this]
      congr 1
      apply propext
      constructor
      · intro h j hj
        rcases Nat.lt_or_ge p j with q | q
        · exact h j q
        · rw [show j = p from by omega]; exact c
      · intro h j hj
        exact h j (by omega)
    · rw [if_pos (by simp), if_neg (fun h => by rw [h p (Nat.le_refl _)] at c; cases c)]
open Classical in
theorem rget_l0 {s : List Int} {w n : Nat} (hs : isB s) (hl : s.length = (n * w + 7) / 8) (hw : w ≤ 64) (hn : n ≤ 65536) : ∀ (d i k : Nat), i + d = n → d * (w + 2) + 10 < k →
    noriaref11_GetBits.l0 k s n w (gets s w i) ((i * w : Nat) : Int) i = if ∀ j, n * w ≤ j → bitAt s j = false then some (gets s w n, 0) else some ([], 2) := by
  have hmax : n * w ≤ 65536 * 64 := Nat.mul_le_mul hn hw
  intro d
  induction d with
  | zero =>
    intro i k hi hk
    obtain ⟨k, rfl⟩ : ∃ m, k = m + 1 := ⟨k - 1, by omega⟩
    simp only [noriaref11_GetBits.l0]
    rw [if_neg (by omega), show i = n from by omega]
    exact rget_l2 hs (by omega) _ (8 * s.length - n * w) _ _ (by omega) (by omega)
  | succ d ih =>
    intro i k hi hk
    rw [Nat.add_mul] at hk
    obtain ⟨k, rfl⟩ : ∃ m, k = m + 1 := ⟨k - 1, by omega⟩
    have h1 := rget_l1 hs hl hw hn (i := i) (by omega) (gets s w i) (gets_len _ _ _) w 0 (i * w) k (by omega) (by omega) (by omega)
    have h2 := ih (i + 1) (k - (w + 1)) (by omega) (by omega)
    rw [gets_succ] at h2
    simp only [noriaref11_GetBits.l0]
    rw [if_pos (by omega), ← h2, ← h1]
    rfl
open Classical in
theorem rget_len {n w : Nat} {k : Nat} {s : List Int} (hn : n ≤ 65536) (hw : w ≤ 64) (hs : isB s) (hk : 70 * (n + 2) < k) : noriaref11_GetBits.f k s n w =
    if s.length < (n * w + 7) / 8 then some ([], 5) else if s.length > (n * w + 7) / 8 then some ([], 4) else if ∀ j, n * w ≤ j → bitAt s j = false then some (gets s w n, 0) else some ([], 2) := by
  have hm2 : n * (w + 2) ≤ n * 66 := Nat.mul_le_mul (Nat.le_refl _) (by omega)
  obtain ⟨k, rfl⟩ : ∃ m, k = m + 1 := ⟨k - 1, by omega⟩
  unfold noriaref11_GetBits.f
  rw [if_neg (show ¬ (n : Int) < 0 by omega), if_neg (show ¬ (n : Int) > 65536 by omega), if_neg (show ¬ (w : Int) < 0 by omega), decide_eq_false (show ¬ (w : Int) > 64 by omega)]
  simp only [noriaref11_GetBits.j0]
  rw [if_neg (by simp), rsize_eq, size_ok hn hw, Option.bind_some]
  by_cases c1 : s.length < (n * w + 7) / 8
  · rw [if_pos c1, if_pos (by omega)]
  · rw [if_neg c1, if_neg (by omega)]
    by_cases c2 : s.length > (n * w + 7) / 8
    · rw [if_pos c2, if_pos (by omega)]
    · rw [if_neg c2, if_neg (by omega)]
      have := rget_l0 hs (by omega) hw hn n 0 k (by omega) (by omega)
      rw [Nat.zero_mul] at this
      exact this
theorem get_out {n w : Int} {k : Nat} {s : List Int} (h : n < 0 ∨ 65536 < n ∨ w < 0 ∨ 64 < w) : pack_Get.f k s n w = some ([], 1) := by
  have : pack_may.f n w = some false := by
    unfold pack_may.f
    by_cases c1 : n ≥ 0
    · rw [if_pos c1]
      by_cases c2 : n ≤ 65536
      · rw [if_pos c2]
        by_cases c3 : w ≥ 0
        · rw [if_pos c3, decide_eq_false (by omega)]
        · rw [if_neg c3]
      · rw [if_neg c2]
    · rw [if_neg c1]
  unfold pack_Get.f
  rw [this, Option.bind_some, if_neg (by simp)]
theorem rget_out {n w : Int} {k : Nat} {s : List Int} (h : n < 0 ∨ 65536 < n ∨ w < 0 ∨ 64 < w) (hk : 0 < k) : noriaref11_GetBits.f k s n w = some ([], 1) := by
  obtain ⟨k, rfl⟩ : ∃ m, k = m + 1 := ⟨k - 1, by omega⟩
  have hj : noriaref11_GetBits.j0 (k + 1) s n w true = some ([], 1) := by
    simp only [noriaref11_GetBits.j0]
    rw [if_pos trivial]
  unfold noriaref11_GetBits.f
  by_cases c1 : n < 0
  · rw [if_pos c1, hj]
  · rw [if_neg c1]
    by_cases c2 : n > 65536
    · rw [if_pos c2, hj]
    · rw [if_neg c2]
      by_cases c3 : w < 0
      · rw [if_pos c3, hj]
      · rw [if_neg c3, decide_eq_true (by omega), hj]
theorem same_l0 (l : List Int) (hL : l.length ≤ 70368744177664) : ∀ (d i k : Nat), i + d = l.length → d < k → norialaw4_Same.l0 k l l i = some true := by
  intro d
  induction d with
  | zero =>
    intro i k hi hk
    obtain ⟨k, rfl⟩ : ∃ m, k = m + 1 := ⟨k - 1, by omega⟩
    simp only [norialaw4_Same.l0]
    rw [if_neg (by omega)]
  | succ d ih =>
    intro i k hi hk
    obtain ⟨k, rfl⟩ : ∃ m, k = m + 1 := ⟨k - 1, by omega⟩
    simp only [norialaw4_Same.l0]
    rw [if_pos (by omega), if_pos (by omega), if_pos (by omega), wr (by omega) (by omega)]
    simp only [if_true]
    exact ih (i + 1) k (by omega) (by omega)
theorem same_self {l : List Int} {k : Nat} (hL : l.length ≤ 70368744177664) (hk : l.length < k) : norialaw4_Same.f k l l = some true := by
  unfold norialaw4_Same.f
  rw [if_pos rfl]
  exact same_l0 l hL l.length 0 k (by omega) hk
end Go.Proofs.Ytalgjhmehilioaa.Num
