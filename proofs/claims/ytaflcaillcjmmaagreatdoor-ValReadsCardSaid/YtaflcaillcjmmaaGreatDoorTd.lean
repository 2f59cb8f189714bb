import Derived.RowKit
/- A number of 64 bits by 10, towards 0; no program in sight. -/
namespace Go.Proofs.YtaflcaillcjmmaaGreatDoor.Td
open Go
theorem wrap_td {y : Int} (h0 : -9223372036854775808 ≤ y) (h1 : y ≤ 9223372036854775807) : RowKit.wrap64 (Int.tdiv y 10) = Int.tdiv y 10 := by
  have : -9223372036854775808 ≤ Int.tdiv y 10 ∧ Int.tdiv y 10 ≤ 9223372036854775807 := by
    rcases Int.le_total 0 y with h | h
    · rw [Int.tdiv_eq_ediv_of_nonneg h]
      omega
    · have e : Int.tdiv y 10 = -((-y) / 10) := by
        have h2 := Int.neg_tdiv (-y) 10
        rw [Int.neg_neg] at h2
        rw [h2, Int.tdiv_eq_ediv_of_nonneg (by omega)]
      rw [e]
      omega
  unfold RowKit.wrap64
  omega
theorem tdiv_neg {a : Int} (h : 0 ≤ a) : Int.tdiv (-a) 10 = -(a / 10) := by
  rw [Int.neg_tdiv, Int.tdiv_eq_ediv_of_nonneg h]
end Go.Proofs.YtaflcaillcjmmaaGreatDoor.Td
