import Derived.Test.YtpaiigonagiemaaEnc
import Derived.Test.YtpaiigonagiemaaPAllx1
import Derived.Test.YtpaiigonagiemaaPAllx2
import Derived.Test.YtpaiigonagiemaaPAllx3
/- What num.Put and the document's Put compute: plain lemmas over their printed functions. -/
set_option linter.unusedSimpArgs false
set_option linter.unusedVariables false
namespace Go.Proofs.Ytpaiigonagiemaa.Num
open Go Go.RowKit Go.Proofs.Ytpaiigonagiemaa.PAll Go.Proofs.YtpaiigonagiemaaW.PrintWords Go.Proofs.YtpaiigonagiemaaW.PrintLast Go.Proofs.YtpaiigonagiemaaW.PrintMore
theorem or128 {y : Int} (h0 : 0 ≤ y) (h1 : y ≤ 255) : Go.bits .or .u8 y 128 = y % 128 + 128 := by
  have h : ∀ n : Fin 256, Go.bits .or .u8 ((n.val : Nat) : Int) 128 = ((n.val % 128 + 128 : Nat) : Int) := by decide +kernel
  have := h ⟨y.toNat, by omega⟩
  simp only [] at this
  rw [Int.toNat_of_nonneg h0] at this
  rw [this]
  omega
theorem clone_eq {l : List Int} (h : l.length < 140737488355328) : slices_Clone_byte_byte.f l = some l := by unfold slices_Clone_byte_byte.f; rw [if_pos h]
theorem put_l0 : ∀ (d u : Nat) (x : List Int) (k : Nat), u < 128 ^ (d + 1) → d < k → x.length + d + 1 < 140737488355328 → num_Put.l0 k x u = some (x ++ enc u) := by
  intro d
  induction d with
  | zero =>
    intro u x k hu hk hx
    obtain ⟨k, rfl⟩ : ∃ m, k = m + 1 := ⟨k - 1, by omega⟩
    rw [enc_lt (by omega)]
    simp only [num_Put.l0]
    rw [if_neg (by omega), if_pos (by omega), show ((u : Int)) % 256 = (u : Int) from by omega]
  | succ d ih =>
    intro u x k hu hk hx
    obtain ⟨k, rfl⟩ : ∃ m, k = m + 1 := ⟨k - 1, by omega⟩
    simp only [num_Put.l0]
    by_cases h : u < 128
    · rw [enc_lt h, if_neg (by omega), if_pos (by omega), show ((u : Int)) % 256 = (u : Int) from by omega]
    · rw [enc_ge (by omega), if_pos (by omega), if_pos (by omega), or128 (by omega) (by omega), show ((u : Int)) / 128 = ((u / 128 : Nat) : Int) from by omega]
      rw [ih (u / 128) _ k (by rw [Nat.div_lt_iff_lt_mul (by omega)]; rw [Nat.pow_succ] at hu; omega) (by omega) (by simp; omega)]
      rw [show ((u : Int)) % 256 % 128 + 128 = ((u % 128 + 128 : Nat) : Int) from by omega]
      simp
theorem put_eq {l : List Int} {a : Int} (k : Nat) (h0 : 0 ≤ a) (h1 : a ≤ 18446744073709551615) (hl : l.length ≤ 70368744177664) (hk : 10 ≤ k) : num_Put.f k l a = some (l ++ enc a.toNat) := by
  unfold num_Put.f
  rw [clone_eq (by omega)]
  simp only [Option.bind_some]
  have := put_l0 9 a.toNat l k (Nat.lt_of_lt_of_le (by omega : a.toNat < 18446744073709551616) (by decide)) (by omega) (by omega)
  rw [Int.toNat_of_nonneg h0] at this
  exact this
end Go.Proofs.Ytpaiigonagiemaa.Num
