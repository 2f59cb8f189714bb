import Derived.Test.YthflicjbclcbaaaNGet
import Derived.Test.YthflicjbclcbaaaPAllx11
set_option linter.unusedSimpArgs false
set_option linter.unusedVariables false
namespace Go.Proofs.Ythflicjbclcbaaa.Num
open Go Go.RowKit Go.Proofs.Ythflicjbclcbaaa.PAll Go.Proofs.YthflicjbclcbaaaW.PrintWords Go.Proofs.YthflicjbclcbaaaW.PrintLast Go.Proofs.YthflicjbclcbaaaW.PrintMore
theorem rget_l0 : ∀ (d : Nat) (n u : Nat) (l : List Int) (i k : Nat), n + d = 9 → u < 128 ^ n → isB l → i + n ≤ l.length → l.length ≤ 70368744177664 → 2 * d + 2 < k →
    noriaref11_Get.l0 k l i u n = some (gd n u (l.drop (i + n))) := by
  intro d
  induction d with
  | zero =>
    intro n u l i k hn hu hl hi hL hk
    obtain rfl : n = 9 := by omega
    obtain ⟨k, rfl⟩ : ∃ m, k = m + 2 := ⟨k - 2, by omega⟩
    simp only [noriaref11_Get.l0]
    rw [wr (x := (l.length : Int) - (i : Int)) (by omega) (by omega), wr (x := (i : Int) + ((9 : Nat) : Int)) (by omega) (by omega), if_pos (by omega)]
    by_cases h : i + 9 = l.length
    · rw [if_pos (by omega), List.drop_of_length_le (by omega)]
      rfl
    · rw [if_neg (by omega), if_pos (by omega), if_pos (by omega), if_pos (by rfl), rd_drop (by omega)]
      rw [show ((i : Int) + ((9 : Nat) : Int)) = ((i + 9 : Nat) : Int) from by omega]
      have hx := hl (rd l ((i + 9 : Nat) : Int)) (rd_mem (by omega))
      generalize rd l ((i + 9 : Nat) : Int) = x at hx ⊢
      simp only [noriaref11_Get.j2, gd]
      rw [wr (x := 7 * ((9 : Nat) : Int)) (by omega) (by omega), wu (x := 7 * ((9 : Nat) : Int)) (by omega) (by omega), wr (x := ((9 : Nat) : Int) + 1) (by omega) (by omega)]
      by_cases c1 : 1 < x
      · rw [if_pos (by omega), if_pos trivial, if_pos ⟨trivial, c1⟩]
      · rw [if_neg (by omega), if_pos (by omega)]
        by_cases c2 : x = 0
        · rw [if_pos (by simpa using c2), if_neg (by omega), if_pos ⟨by omega, c2⟩]
        · rw [if_neg (by simpa using c2), if_pos (by omega), if_pos (by omega)]
          rw [and127 hx.1 hx.2, show (7 : Int) * ((9 : Nat) : Int) = ((7 * 9 : Nat) : Int) from by omega, or_shl (by omega) (by omega) (by omega) hu (by rw [pow9] at hu ⊢; omega), show x % 128 = x from by omega]
          rw [if_neg (by omega), if_neg (by omega), if_pos (by omega)]
  | succ d ih =>
    intro n u l i k hn hu hl hi hL hk
    obtain ⟨k, rfl⟩ : ∃ m, k = m + 2 := ⟨k - 2, by omega⟩
    simp only [noriaref11_Get.l0]
    rw [wr (x := (l.length : Int) - (i : Int)) (by omega) (by omega), wr (x := (i : Int) + (n : Int)) (by omega) (by omega), if_pos (by omega)]
    by_cases h : i + n = l.length
    · rw [if_pos (by omega), List.drop_of_length_le (by omega)]
      rfl
    · rw [if_neg (by omega), if_pos (by omega), if_pos (by omega), if_neg (by omega), rd_drop (by omega)]
      rw [show ((i : Int) + (n : Int)) = ((i + n : Nat) : Int) from by omega]
      have hx := hl (rd l ((i + n : Nat) : Int)) (rd_mem (by omega))
      generalize rd l ((i + n : Nat) : Int) = x at hx ⊢
      simp only [noriaref11_Get.j2, gd]
      have hb : u + (x % 128).toNat * 128 ^ n < 128 ^ (n + 1) := by
        rw [Nat.pow_succ]
        have : (x % 128).toNat * 128 ^ n ≤ 127 * 128 ^ n := Nat.mul_le_mul (by omega) (Nat.le_refl _)
        omega
      have hb2 : (128 : Nat) ^ (n + 1) ≤ 128 ^ 9 := Nat.pow_le_pow_right (by omega) (by omega)
      rw [pow9] at hb2
      rw [wr (x := 7 * (n : Int)) (by omega) (by omega), wu (x := 7 * (n : Int)) (by omega) (by omega), wr (x := (n : Int) + 1) (by omega) (by omega)]
      rw [and127 hx.1 hx.2, show (7 : Int) * (n : Int) = ((7 * n : Nat) : Int) from by omega, or_shl (by omega) (by omega) (by omega) hu (by omega)]
      have rest : ∀ b : Bool, (b = true ↔ 0 < n ∧ x = 0) → (if b = true then some ((0 : Int), (0 : Int), (2 : Int)) else if 0 ≤ ((7 * n : Nat) : Int) then if x < 128 then some (((u + (x % 128).toNat * 128 ^ n : Nat) : Int), (n : Int) + 1, 0) else noriaref11_Get.l0 k l i ((u + (x % 128).toNat * 128 ^ n : Nat) : Int) ((n : Int) + 1) else none) =
          some (if n = 9 ∧ 1 < x then (0, 0, 2) else if 0 < n ∧ x = 0 then (0, 0, 2) else if x < 128 then (((u + x.toNat * 128 ^ n : Nat) : Int), (n : Int) + 1, 0) else gd (n + 1) (u + x.toNat % 128 * 128 ^ n) (l.drop (i + n + 1))) := by
        intro b hbb
        by_cases c2 : 0 < n ∧ x = 0
        · rw [if_pos (hbb.mpr c2), if_neg (by omega), if_pos c2]
        · rw [if_neg (fun h => c2 (hbb.mp h)), if_pos (by omega)]
          by_cases c3 : x < 128
          · rw [if_pos c3, if_neg (by omega), if_neg c2, if_pos c3, show x % 128 = x from by omega]
          · rw [if_neg c3, if_neg (by omega), if_neg c2, if_neg c3]
            rw [show (n : Int) + 1 = ((n + 1 : Nat) : Int) from by omega, ih (n + 1) _ l i k (by omega) hb hl (by omega) hL (by omega)]
            rw [show (x % 128).toNat = x.toNat % 128 from by omega, show i + (n + 1) = i + n + 1 from by omega]
      by_cases c4 : 0 < n
      · rw [if_pos (by omega)]
        exact rest _ (by simp [c4])
      · rw [if_neg (by omega)]
        exact rest _ (by simp [c4])
theorem rget_eq {l : List Int} {a : Int} (k : Nat) (hl : isB l) (h0 : 0 ≤ a) (h1 : a ≤ l.length) (hL : l.length ≤ 70368744177664) (hk : 22 ≤ k) : noriaref11_Get.f k l a = some (gd 0 0 (l.drop a.toNat)) := by
  obtain ⟨k, rfl⟩ : ∃ m, k = m + 1 := ⟨k - 1, by omega⟩
  unfold noriaref11_Get.f
  rw [if_neg (by omega), show decide (a > (l.length : Int)) = false from by simp; omega]
  simp only [noriaref11_Get.j0]
  rw [if_neg (by simp)]
  have := rget_l0 9 0 0 l a.toNat k rfl (by decide) hl (by omega) hL (by omega)
  rw [Int.toNat_of_nonneg h0] at this
  exact this
theorem rget_out {l : List Int} {a : Int} (k : Nat) (h : a < 0 ∨ (l.length : Int) < a) (hk : 1 ≤ k) : noriaref11_Get.f k l a = some (0, 0, 1) := by
  obtain ⟨k, rfl⟩ : ∃ m, k = m + 1 := ⟨k - 1, by omega⟩
  unfold noriaref11_Get.f
  simp only [noriaref11_Get.j0]
  by_cases c : a < 0
  · rw [if_pos c]; rfl
  · rw [if_neg c, show decide (a > (l.length : Int)) = true from by simp; omega]; rfl
end Go.Proofs.Ythflicjbclcbaaa.Num
