import Derived.Test.YthflicjbclcbaaaEnc
import Derived.Test.YthflicjbclcbaaaPAllx5
/- What num.Get computes. -/
set_option linter.unusedSimpArgs false
set_option linter.unusedVariables false
namespace Go.Proofs.Ythflicjbclcbaaa.Num
open Go Go.RowKit Go.Proofs.Ythflicjbclcbaaa.PAll Go.Proofs.YthflicjbclcbaaaW.PrintWords Go.Proofs.YthflicjbclcbaaaW.PrintLast Go.Proofs.YthflicjbclcbaaaW.PrintMore
theorem and127 {y : Int} (h0 : 0 ≤ y) (h1 : y ≤ 255) : Go.bits .and .u8 y 127 = y % 128 := by
  have h : ∀ n : Fin 256, Go.bits .and .u8 ((n.val : Nat) : Int) 127 = ((n.val % 128 : Nat) : Int) := by decide +kernel
  have := h ⟨y.toNat, by omega⟩
  simp only [] at this
  rw [Int.toNat_of_nonneg h0] at this
  rw [this]
  omega
theorem p128 (n : Nat) : (128 : Nat) ^ n = 2 ^ (7 * n) := by rw [show (128 : Nat) = 2 ^ 7 from rfl, ← Nat.pow_mul]
/-- Seven bits more. -/
theorem or_shl {u : Nat} {y : Int} {n : Nat} (hy0 : 0 ≤ y) (hy : y ≤ 127) (hn : n ≤ 9) (hu : u < 128 ^ n) (hb : u + y.toNat * 128 ^ n < 18446744073709551616) :
    Go.bits .or .u64 (u : Int) (shl .u64 (IntKind.u64.wrap y) ((7 * n : Nat) : Int)) = ((u + y.toNat * 128 ^ n : Nat) : Int) := by
  have e1 : IntKind.u64.wrap y = ((y.toNat : Nat) : Int) := by rw [wu (by omega) (by omega)]; omega
  have e2 : shl .u64 ((y.toNat : Nat) : Int) ((7 * n : Nat) : Int) = ((y.toNat * 128 ^ n : Nat) : Int) := by
    unfold shl
    rw [show min ((7 * n : Nat) : Int).toNat IntKind.u64.bits = 7 * n from by simp [IntKind.bits]; omega, p128]
    rw [show ((y.toNat : Nat) : Int) * 2 ^ (7 * n) = ((y.toNat * 2 ^ (7 * n) : Nat) : Int) from by push_cast; rfl]
    rw [wu (by omega) (by rw [← p128]; omega)]
  rw [e1, e2, u64_or_nat u (y.toNat * 128 ^ n) (by omega) (by omega)]
  congr 1
  rw [p128] at hu ⊢
  have := Nat.shiftLeft_add_eq_or_of_lt hu y.toNat
  rw [Nat.shiftLeft_eq] at this
  rw [Nat.or_comm, ← this]
  omega
theorem rd_drop {l : List Int} {j : Nat} (h : j < l.length) : l.drop j = rd l (j : Int) :: l.drop (j + 1) := by
  rw [List.drop_eq_getElem_cons h]
  unfold rd
  simp [List.getD, h]
theorem rd_mem {l : List Int} {j : Nat} (h : j < l.length) : rd l (j : Int) ∈ l := by
  unfold rd
  rw [Int.toNat_natCast, List.getD_eq_getElem?_getD, List.getElem?_eq_getElem h]
  exact List.getElem_mem _
theorem get_l0 : ∀ (d : Nat) (n u : Nat) (l : List Int) (i k : Nat), n + d = 9 → u < 128 ^ n → isB l → i + n ≤ l.length → l.length ≤ 70368744177664 → 2 * d + 2 < k →
    (n = 0 → u = 0) → num_Get.l0 k l i u n = some (gd n u (l.drop (i + n))) := by
  intro d
  induction d with
  | zero =>
    intro n u l i k hn hu hl hi hL hk _
    obtain rfl : n = 9 := by omega
    obtain ⟨k, rfl⟩ : ∃ m, k = m + 2 := ⟨k - 2, by omega⟩
    simp only [num_Get.l0]
    rw [wr (x := (l.length : Int) - (i : Int)) (by omega) (by omega), wr (x := (i : Int) + ((9 : Nat) : Int)) (by omega) (by omega)]
    by_cases h : i + 9 = l.length
    · rw [if_pos (by omega), List.drop_of_length_le (by omega)]
      rfl
    · rw [if_neg (by omega), if_pos (by omega), if_pos (by omega), if_pos (by rfl), rd_drop (by omega)]
      rw [show ((i : Int) + ((9 : Nat) : Int)) = ((i + 9 : Nat) : Int) from by omega]
      have hx := hl (rd l ((i + 9 : Nat) : Int)) (rd_mem (by omega))
      generalize rd l ((i + 9 : Nat) : Int) = x at hx ⊢
      simp only [num_Get.j2, gd]
      by_cases c1 : 1 < x
      · rw [if_pos (by simpa using c1), if_pos ⟨trivial, c1⟩]
      · rw [if_neg (by simpa using c1), wr (x := 7 * ((9 : Nat) : Int)) (by omega) (by omega), if_pos (by omega), if_neg (by omega)]
        rw [and127 hx.1 hx.2, wr (x := ((9 : Nat) : Int) + 1) (by omega) (by omega)]
        rw [show (7 : Int) * ((9 : Nat) : Int) = ((7 * 9 : Nat) : Int) from by omega, or_shl (by omega) (by omega) (by omega) hu (by rw [pow9] at hu ⊢; omega), show x % 128 = x from by omega]
        by_cases c2 : x = 0
        · rw [if_neg (by omega), if_neg (by omega), if_neg (by omega), if_pos ⟨by omega, c2⟩]
        · rw [if_pos (by omega), if_neg (by omega), if_neg (by omega), if_pos (by omega)]
  | succ d ih =>
    intro n u l i k hn hu hl hi hL hk h00
    obtain ⟨k, rfl⟩ : ∃ m, k = m + 2 := ⟨k - 2, by omega⟩
    simp only [num_Get.l0]
    rw [wr (x := (l.length : Int) - (i : Int)) (by omega) (by omega), wr (x := (i : Int) + (n : Int)) (by omega) (by omega)]
    by_cases h : i + n = l.length
    · rw [if_pos (by omega), List.drop_of_length_le (by omega)]
      rfl
    · rw [if_neg (by omega), if_pos (by omega), if_pos (by omega), if_neg (by omega), rd_drop (by omega)]
      rw [show ((i : Int) + (n : Int)) = ((i + n : Nat) : Int) from by omega]
      have hx := hl (rd l ((i + n : Nat) : Int)) (rd_mem (by omega))
      generalize rd l ((i + n : Nat) : Int) = x at hx ⊢
      simp only [num_Get.j2, gd]
      have hb : u + (x % 128).toNat * 128 ^ n < 128 ^ (n + 1) := by
        rw [Nat.pow_succ]
        have : (x % 128).toNat * 128 ^ n ≤ 127 * 128 ^ n := Nat.mul_le_mul (by omega) (Nat.le_refl _)
        omega
      have hb2 : (128 : Nat) ^ (n + 1) ≤ 128 ^ 9 := Nat.pow_le_pow_right (by omega) (by omega)
      rw [pow9] at hb2
      rw [if_neg (by simp), wr (x := 7 * (n : Int)) (by omega) (by omega), if_pos (by omega)]
      rw [and127 hx.1 hx.2, wr (x := (n : Int) + 1) (by omega) (by omega)]
      rw [show (7 : Int) * (n : Int) = ((7 * n : Nat) : Int) from by omega, or_shl (by omega) (by omega) (by omega) hu (by omega)]
      by_cases c3 : 128 ≤ x
      · rw [if_pos (by omega), if_neg (by omega), if_neg (by omega), if_neg (by omega)]
        rw [show (n : Int) + 1 = ((n + 1 : Nat) : Int) from by omega, ih (n + 1) _ l i k (by omega) hb hl (by omega) hL (by omega) (by omega)]
        rw [show (x % 128).toNat = x.toNat % 128 from by omega, show i + (n + 1) = i + n + 1 from by omega]
      · rw [if_neg (by omega), show x % 128 = x from by omega]
        by_cases c2 : x = 0
        · subst c2
          rw [if_neg (by omega)]
          by_cases c4 : n = 0
          · subst c4
            rw [if_pos (by omega), if_neg (by omega), if_neg (by omega), if_pos (by omega)]
          · rw [if_neg (by omega), if_neg (by omega), if_pos (by omega)]
        · rw [if_pos (by omega), if_neg (by omega), if_neg (by omega), if_pos (by omega)]
theorem get_eq {l : List Int} {a : Int} (k : Nat) (hl : isB l) (h0 : 0 ≤ a) (h1 : a ≤ l.length) (hL : l.length ≤ 70368744177664) (hk : 22 ≤ k) : num_Get.f k l a = some (gd 0 0 (l.drop a.toNat)) := by
  obtain ⟨k, rfl⟩ : ∃ m, k = m + 1 := ⟨k - 1, by omega⟩
  unfold num_Get.f
  rw [if_neg (by omega), show decide (a > (l.length : Int)) = false from by simp; omega]
  simp only [num_Get.j0]
  rw [if_neg (by simp)]
  have := get_l0 9 0 0 l a.toNat k rfl (by decide) hl (by omega) hL (by omega) (fun _ => rfl)
  rw [Int.toNat_of_nonneg h0] at this
  exact this
theorem get_out {l : List Int} {a : Int} (k : Nat) (h : a < 0 ∨ (l.length : Int) < a) (hk : 1 ≤ k) : num_Get.f k l a = some (0, 0, 1) := by
  obtain ⟨k, rfl⟩ : ∃ m, k = m + 1 := ⟨k - 1, by omega⟩
  unfold num_Get.f
  simp only [num_Get.j0]
  by_cases c : a < 0
  · rw [if_pos c]; rfl
  · rw [if_neg c, show decide (a > (l.length : Int)) = true from by simp; omega]; rfl
end Go.Proofs.Ythflicjbclcbaaa.Num
