import Derived.Test.YtaflcaillcjmmaaDoorPAllx7
import Derived.Test.YtaflcaillcjmmaaDoorPAllx7
/- What val.Compare tells of two of a kind without a point. -/
set_option linter.unusedSimpArgs false
set_option linter.unusedVariables false
namespace Go.Proofs.YtaflcaillcjmmaaDoor.Num
open Go Go.RowKit Go.Proofs.YtaflcaillcjmmaaDoor.PAll Go.Proofs.YtaflcaillcjmmaaDoor.Help Go.Proofs.YtaflcaillcjmmaaDoorW.PrintWords Go.Proofs.YtaflcaillcjmmaaDoorW.PrintLast Go.Proofs.YtaflcaillcjmmaaDoorW.PrintMore
theorem f00 : cmp_Compare_float64.f 0 0 = some 0 := by decide +kernel
theorem c00 : cEq 0 0 0 0 = true := by decide +kernel
theorem cInt (a b : Int) : cmp_Compare_int.f a b = some (if a < b then -1 else if b < a then 1 else 0) := by
  simp only [cmp_Compare_int.f, cmp_isNaN_int.f, Option.bind_some, bne_self_eq_false, Bool.false_eq_true, if_false]
  by_cases h : a < b <;> by_cases h' : b < a <;> simp [h, h']
theorem cInt64 (a b : Int) : cmp_Compare_int64.f a b = some (if a < b then -1 else if b < a then 1 else 0) := by
  simp only [cmp_Compare_int64.f, cmp_isNaN_int64.f, Option.bind_some, bne_self_eq_false, Bool.false_eq_true, if_false]
  by_cases h : a < b <;> by_cases h' : b < a <;> simp [h, h']
theorem cStr (a b : ByteArray) : cmp_Compare_string.f a b = some (if Op.bytesLess a.toList b.toList = true then -1 else if Op.bytesLess b.toList a.toList = true then 1 else 0) := by
  simp only [cmp_Compare_string.f, cmp_isNaN_string.f, Option.bind_some, bne_self_eq_false, Bool.false_eq_true, if_false]
  by_cases h : Op.bytesLess a.toList b.toList = true <;> by_cases h' : Op.bytesLess b.toList a.toList = true <;> simp [h, h']
theorem less_self (l : List UInt8) : Op.bytesLess l l = false := by
  have := bytesLess_flip l l
  simp at this
  exact this
theorem or_five (k : Nat) (hk : 7 ≤ k) (x y : Int) : cmp_Or_int.f k [0, x, y, 0, 0] = some (if x = 0 then y else x) := by
  obtain ⟨k, rfl⟩ : ∃ m, k = m + 7 := ⟨k - 7, by omega⟩
  unfold cmp_Or_int.f
  by_cases hx : x = 0
  · subst hx
    by_cases hy : y = 0
    · subst hy; simp [cmp_Or_int.l0, rd, wrap64]
    · simp [cmp_Or_int.l0, rd, wrap64, hy]
  · simp [cmp_Or_int.l0, rd, wrap64, hx]
theorem compare_num (k : Nat) (hk : 7 ≤ k) (a b : Int) : val_Compare.f k 1 a ⟨#[]⟩ (0, 0) 1 b ⟨#[]⟩ (0, 0) = some (if a < b then -1 else if b < a then 1 else 0) := by
  simp only [val_Compare.f, cInt, cInt64, cStr, f00, Option.bind_some, less_self, Int.lt_irrefl, Bool.false_eq_true, if_false]
  rw [or_five k hk]
  simp only [Option.bind_some]
  by_cases h : (if a < b then (-1 : Int) else if b < a then 1 else 0) = 0
  · rw [if_pos h, h]
  · rw [if_neg h]
theorem compare_str (k : Nat) (hk : 7 ≤ k) (a b : ByteArray) : val_Compare.f k 2 0 a (0, 0) 2 0 b (0, 0) = some (if Op.bytesLess a.toList b.toList = true then -1 else if Op.bytesLess b.toList a.toList = true then 1 else 0) := by
  simp only [val_Compare.f, cInt, cInt64, cStr, f00, Option.bind_some, less_self, Int.lt_irrefl, Bool.false_eq_true, if_false]
  rw [or_five k hk, if_pos rfl]
  rfl
end Go.Proofs.YtaflcaillcjmmaaDoor.Num
