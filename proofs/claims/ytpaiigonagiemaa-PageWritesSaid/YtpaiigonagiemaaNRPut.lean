import Derived.Test.YtpaiigonagiemaaNPut
set_option linter.unusedSimpArgs false
set_option linter.unusedVariables false
namespace Go.Proofs.Ytpaiigonagiemaa.Num
open Go Go.RowKit Go.Proofs.Ytpaiigonagiemaa.PAll Go.Proofs.YtpaiigonagiemaaW.PrintWords Go.Proofs.YtpaiigonagiemaaW.PrintLast Go.Proofs.YtpaiigonagiemaaW.PrintMore
theorem rput_l0 : ∀ (d u : Nat) (x : List Int) (k : Nat), u < 128 ^ (d + 1) → d < k → x.length + d + 1 < 140737488355328 → noriaref11_Put.l0 k u x = some (x ++ enc u) := by
  intro d
  induction d with
  | zero =>
    intro u x k hu hk hx
    obtain ⟨k, rfl⟩ : ∃ m, k = m + 1 := ⟨k - 1, by omega⟩
    rw [enc_lt (by omega)]
    simp only [noriaref11_Put.l0]
    rw [if_neg (by omega), if_pos (by omega), show ((u : Int)) % 256 = (u : Int) from by omega]
  | succ d ih =>
    intro u x k hu hk hx
    obtain ⟨k, rfl⟩ : ∃ m, k = m + 1 := ⟨k - 1, by omega⟩
    simp only [noriaref11_Put.l0]
    by_cases h : u < 128
    · rw [enc_lt h, if_neg (by omega), if_pos (by omega), show ((u : Int)) % 256 = (u : Int) from by omega]
    · rw [enc_ge (by omega), if_pos (by omega), if_pos (by omega), or128 (by omega) (by omega), show ((u : Int)) / 128 = ((u / 128 : Nat) : Int) from by omega]
      rw [ih (u / 128) _ k (by rw [Nat.div_lt_iff_lt_mul (by omega)]; rw [Nat.pow_succ] at hu; omega) (by omega) (by simp; omega)]
      rw [show ((u : Int)) % 256 % 128 + 128 = ((u % 128 + 128 : Nat) : Int) from by omega]
      simp
theorem rput_eq {l : List Int} {a : Int} (k : Nat) (h0 : 0 ≤ a) (h1 : a ≤ 18446744073709551615) (hl : l.length ≤ 70368744177664) (hk : 10 ≤ k) : noriaref11_Put.f k l a = some (l ++ enc a.toNat) := by
  unfold noriaref11_Put.f
  simp only [Option.bind_some, List.nil_append, List.length_nil]
  rw [if_pos (by omega)]
  have := rput_l0 9 a.toNat l k (Nat.lt_of_lt_of_le (by omega : a.toNat < 18446744073709551616) (by decide)) (by omega) (by omega)
  rw [Int.toNat_of_nonneg h0] at this
  exact this
end Go.Proofs.Ytpaiigonagiemaa.Num
