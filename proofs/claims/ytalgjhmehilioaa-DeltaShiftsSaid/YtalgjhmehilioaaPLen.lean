import Derived.Test.YtalgjhmehilioaaPBits
import Derived.Test.YtalgjhmehilioaaPAllx
/- How many bits a number has: what math/bits.Len64 computes. -/
set_option linter.unusedSimpArgs false
set_option linter.unusedVariables false
namespace Go.Proofs.Ytalgjhmehilioaa.Num
open Go Go.RowKit Go.Proofs.Ytalgjhmehilioaa.PAll Go.Proofs.YtalgjhmehilioaaW.PrintWords Go.Proofs.YtalgjhmehilioaaW.PrintLast Go.Proofs.YtalgjhmehilioaaW.PrintMore
def blen (u : Nat) : Nat := if u = 0 then 0 else u.log2 + 1
theorem blen_lt {u n : Nat} : blen u ≤ n ↔ u < 2 ^ n := by
  unfold blen
  split
  · rename_i h; subst h; simp [Nat.pow_pos]
  · rename_i h
    rw [show u.log2 + 1 ≤ n ↔ u.log2 < n from by omega, Nat.log2_lt h]
theorem blen_shift {u s : Nat} (h : 2 ^ s ≤ u) : blen u = s + blen (u / 2 ^ s) := by
  have hp : 0 < 2 ^ s := Nat.pow_pos (by omega)
  apply Nat.le_antisymm
  · rw [blen_lt, Nat.pow_add]
    have h1 : u / 2 ^ s < 2 ^ blen (u / 2 ^ s) := blen_lt.mp (Nat.le_refl _)
    have := Nat.div_add_mod u (2 ^ s)
    have h2 := Nat.mod_lt u hp
    have h3 : 2 ^ s * (u / 2 ^ s + 1) ≤ 2 ^ s * 2 ^ blen (u / 2 ^ s) := Nat.mul_le_mul (Nat.le_refl _) (by omega)
    rw [Nat.mul_add] at h3
    omega
  · have h1 : u < 2 ^ blen u := blen_lt.mp (Nat.le_refl _)
    have hs : s < blen u := by
      rcases Nat.lt_or_ge s (blen u) with h2 | h2
      · exact h2
      · have := Nat.pow_le_pow_right (n := 2) (by omega) h2
        omega
    have h4 : blen (u / 2 ^ s) ≤ blen u - s := by
      rw [blen_lt, Nat.div_lt_iff_lt_mul hp, ← Nat.pow_add, show blen u - s + s = blen u from by omega]
      exact h1
    omega
set_option maxRecDepth 100000 in
theorem tab_fin : ∀ i : Fin 256, bt (⟨#[0, 1, 2, 2, 3, 3, 3, 3, 4, 4, 4, 4, 4, 4, 4, 4, 5, 5, 5, 5, 5, 5, 5, 5, 5, 5, 5, 5, 5, 5, 5, 5, 6, 6, 6, 6, 6, 6, 6, 6, 6, 6, 6, 6, 6, 6, 6, 6, 6, 6, 6, 6, 6, 6, 6, 6, 6, 6, 6, 6, 6, 6, 6, 6, 7, 7, 7, 7, 7, 7, 7, 7, 7, 7, 7, 7, 7, 7, 7, 7, 7, 7, 7, 7, 7, 7, 7, 7, 7, 7, 7, 7, 7, 7, 7, 7, 7, 7, 7, 7, 7, 7, 7, 7, 7, 7, 7, 7, 7, 7, 7, 7, 7, 7, 7, 7, 7, 7, 7, 7, 7, 7, 7, 7, 7, 7, 7, 7, 8, 8, 8, 8, 8, 8, 8, 8, 8, 8, 8, 8, 8, 8, 8, 8, 8, 8, 8, 8, 8, 8, 8, 8, 8, 8, 8, 8, 8, 8, 8, 8, 8, 8, 8, 8, 8, 8, 8, 8, 8, 8, 8, 8, 8, 8, 8, 8, 8, 8, 8, 8, 8, 8, 8, 8, 8, 8, 8, 8, 8, 8, 8, 8, 8, 8, 8, 8, 8, 8, 8, 8, 8, 8, 8, 8, 8, 8, 8, 8, 8, 8, 8, 8, 8, 8, 8, 8, 8, 8, 8, 8, 8, 8, 8, 8, 8, 8, 8, 8, 8, 8, 8, 8, 8, 8, 8, 8, 8, 8, 8, 8, 8, 8, 8, 8, 8, 8, 8, 8, 8, 8, 8, 8, 8, 8, 8, 8]⟩ : ByteArray) ((i.val : Nat) : Int) = ((blen i.val : Nat) : Int) := by decide +kernel
set_option maxRecDepth 100000 in
theorem tab_at {i : Int} (h0 : 0 ≤ i) (h1 : i < 256) : bt (⟨#[0, 1, 2, 2, 3, 3, 3, 3, 4, 4, 4, 4, 4, 4, 4, 4, 5, 5, 5, 5, 5, 5, 5, 5, 5, 5, 5, 5, 5, 5, 5, 5, 6, 6, 6, 6, 6, 6, 6, 6, 6, 6, 6, 6, 6, 6, 6, 6, 6, 6, 6, 6, 6, 6, 6, 6, 6, 6, 6, 6, 6, 6, 6, 6, 7, 7, 7, 7, 7, 7, 7, 7, 7, 7, 7, 7, 7, 7, 7, 7, 7, 7, 7, 7, 7, 7, 7, 7, 7, 7, 7, 7, 7, 7, 7, 7, 7, 7, 7, 7, 7, 7, 7, 7, 7, 7, 7, 7, 7, 7, 7, 7, 7, 7, 7, 7, 7, 7, 7, 7, 7, 7, 7, 7, 7, 7, 7, 7, 8, 8, 8, 8, 8, 8, 8, 8, 8, 8, 8, 8, 8, 8, 8, 8, 8, 8, 8, 8, 8, 8, 8, 8, 8, 8, 8, 8, 8, 8, 8, 8, 8, 8, 8, 8, 8, 8, 8, 8, 8, 8, 8, 8, 8, 8, 8, 8, 8, 8, 8, 8, 8, 8, 8, 8, 8, 8, 8, 8, 8, 8, 8, 8, 8, 8, 8, 8, 8, 8, 8, 8, 8, 8, 8, 8, 8, 8, 8, 8, 8, 8, 8, 8, 8, 8, 8, 8, 8, 8, 8, 8, 8, 8, 8, 8, 8, 8, 8, 8, 8, 8, 8, 8, 8, 8, 8, 8, 8, 8, 8, 8, 8, 8, 8, 8, 8, 8, 8, 8, 8, 8, 8, 8, 8, 8, 8, 8]⟩ : ByteArray) i = ((blen i.toNat : Nat) : Int) := by
  have := tab_fin ⟨i.toNat, by omega⟩
  rw [show (((⟨i.toNat, by omega⟩ : Fin 256).val : Nat) : Int) = i from Int.toNat_of_nonneg h0] at this
  exact this
theorem blen_le64 {u : Nat} (h : u < 18446744073709551616) : blen u ≤ 64 := blen_lt.mpr h
set_option maxRecDepth 100000 in
theorem len_j0 {x n : Int} (k : Nat) (h0 : 0 ≤ x) (h1 : x < 4294967296) (n0 : 0 ≤ n) (n1 : n ≤ 32) (hk : 1 ≤ k) : bits_Len64.j0 k x n = some (n + ((blen x.toNat : Nat) : Int)) := by
  obtain ⟨k, rfl⟩ : ∃ m, k = m + 1 := ⟨k - 1, by omega⟩
  obtain ⟨u, rfl⟩ := Int.eq_ofNat_of_zero_le h0
  have hb8 : ∀ v : Nat, v < 256 → blen v ≤ 8 := fun v hv => blen_lt.mpr (by omega)
  simp only [bits_Len64.j0, Int.toNat_natCast]
  by_cases c1 : (u : Int) ≥ 65536
  · rw [if_pos c1]
    by_cases c2 : (u : Int) / 65536 ≥ 256
    · rw [if_pos c2, if_pos (by omega), if_pos (by omega), tab_at (by omega) (by omega)]
      have e : ((u : Int) / 65536 / 256 % 256).toNat = u / 2 ^ 24 := by omega
      have hv := hb8 (u / 2 ^ 24) (by omega)
      rw [e, wr (x := n + 16) (by omega) (by omega), wr (x := n + 16 + 8) (by omega) (by omega), wr (x := ((blen (u / 2 ^ 24) : Nat) : Int)) (by omega) (by omega), wr (by omega) (by omega), blen_shift (u := u) (s := 24) (by omega)]
      congr 1
      omega
    · rw [if_neg c2, if_pos (by omega), if_pos (by omega), tab_at (by omega) (by omega)]
      have e : ((u : Int) / 65536 % 256).toNat = u / 2 ^ 16 := by omega
      have hv := hb8 (u / 2 ^ 16) (by omega)
      rw [e, wr (x := n + 16) (by omega) (by omega), wr (x := ((blen (u / 2 ^ 16) : Nat) : Int)) (by omega) (by omega), wr (by omega) (by omega), blen_shift (u := u) (s := 16) (by omega)]
      congr 1
      omega
  · rw [if_neg c1]
    by_cases c2 : (u : Int) ≥ 256
    · rw [if_pos c2, if_pos (by omega), if_pos (by omega), tab_at (by omega) (by omega)]
      have e : ((u : Int) / 256 % 256).toNat = u / 2 ^ 8 := by omega
      have hv := hb8 (u / 2 ^ 8) (by omega)
      rw [e, wr (x := n + 8) (by omega) (by omega), wr (x := ((blen (u / 2 ^ 8) : Nat) : Int)) (by omega) (by omega), wr (by omega) (by omega), blen_shift (u := u) (s := 8) (by omega)]
      congr 1
      omega
    · rw [if_neg c2, if_pos (by omega), if_pos (by omega), tab_at (by omega) (by omega)]
      have e : ((u : Int) % 256).toNat = u := by omega
      have hv := hb8 u (by omega)
      rw [e, wr (x := ((blen u : Nat) : Int)) (by omega) (by omega), wr (by omega) (by omega)]
theorem len64_eq {a : Int} (k : Nat) (h0 : 0 ≤ a) (h1 : a ≤ 18446744073709551615) (hk : 1 ≤ k) : bits_Len64.f k a = some ((blen a.toNat : Nat) : Int) := by
  unfold bits_Len64.f
  by_cases c : a ≥ 4294967296
  · rw [if_pos c, len_j0 k (by omega) (by omega) (by omega) (by omega) hk]
    have e : (a / 4294967296).toNat = a.toNat / 2 ^ 32 := by omega
    rw [e, blen_shift (u := a.toNat) (s := 32) (by omega)]
    congr 1
  · rw [if_neg c, len_j0 k h0 (by omega) (by omega) (by omega) hk, Int.zero_add]
end Go.Proofs.Ytalgjhmehilioaa.Num
