import Derived.Test.YtpaiigonagiemaaNCrc
import Derived.Test.YtpaiigonagiemaaNGet
/- What num.Sum computes. -/
set_option linter.unusedSimpArgs false
set_option linter.unusedVariables false
namespace Go.Proofs.Ytpaiigonagiemaa.Num
open Go Go.RowKit Go.Proofs.Ytpaiigonagiemaa.PAll Go.Proofs.YtpaiigonagiemaaW.PrintWords Go.Proofs.YtpaiigonagiemaaW.PrintLast Go.Proofs.YtpaiigonagiemaaW.PrintMore
theorem crcStep_int {s : Nat} (hs : s < 4294967296) : (if (Go.bits .and .u32 (s : Int) 1) = 1 then Go.bits .xor .u32 ((s : Int) / 2) 3988292384 else (s : Int) / 2) = ((crcStep s : Nat) : Int) := by
  rw [and1_32 (by omega) (by omega)]
  unfold crcStep
  have e := u32_xor_nat (s / 2) 3988292384 (by omega) (by decide)
  rw [show ((s / 2 : Nat) : Int) = (s : Int) / 2 from by omega, show ((3988292384 : Nat) : Int) = 3988292384 from rfl] at e
  by_cases c : s % 2 = 1
  · rw [if_pos c, if_pos (by omega), e]
  · rw [if_neg c, if_neg (by omega)]; omega
theorem sum_l1 : ∀ (d : Nat) (s : Nat) (l : List Int) (n i : Int) (k : Nat), d ≤ 8 → s < 4294967296 → d < k → 
    num_Sum.l1 k s l n i ((8 - d : Nat) : Int) = num_Sum.l0 (k - (d + 1)) ((crcSteps d s : Nat) : Int) l n (wrap64 (i + 1)) := by
  intro d
  induction d with
  | zero =>
    intro s l n i k _ hs hk
    obtain ⟨k, rfl⟩ : ∃ m, k = m + 1 := ⟨k - 1, by omega⟩
    simp only [num_Sum.l1]
    rw [if_neg (by omega)]
    rfl
  | succ d ih =>
    intro s l n i k hd hs hk
    obtain ⟨k, rfl⟩ : ∃ m, k = m + 1 := ⟨k - 1, by omega⟩
    simp only [num_Sum.l1]
    rw [if_pos (by omega), wr (x := ((8 - (d + 1) : Nat) : Int) + 1) (by omega) (by omega), show ((8 - (d + 1) : Nat) : Int) + 1 = ((8 - d : Nat) : Int) from by omega]
    have e := crcStep_int hs
    have h2 := ih (crcStep s) l n i k (by omega) (crcStep_lt hs) (by omega)
    rw [show k + 1 - (d + 1 + 1) = k - (d + 1) from by omega]
    rw [show crcSteps (d + 1) s = crcSteps d (crcStep s) from rfl, ← h2, ← e]
    split <;> rfl
theorem sum_l0 : ∀ (d : Nat) (s : Nat) (l : List Int) (i k : Nat), i + d = l.length → s < 4294967296 → isB l → l.length ≤ 70368744177664 → 10 * d < k →
    num_Sum.l0 k s l (l.length : Int) i = some (4294967295 - ((crcFrom (l.drop i) s : Nat) : Int)) := by
  intro d
  induction d with
  | zero =>
    intro s l i k hi hs hl hL hk
    obtain ⟨k, rfl⟩ : ∃ m, k = m + 1 := ⟨k - 1, by omega⟩
    simp only [num_Sum.l0]
    rw [if_neg (by omega), not32 (by omega) (by omega), List.drop_of_length_le (by omega)]
    rfl
  | succ d ih =>
    intro s l i k hi hs hl hL hk
    obtain ⟨k, rfl⟩ : ∃ m, k = m + 1 := ⟨k - 1, by omega⟩
    simp only [num_Sum.l0]
    have hx := hl _ (rd_mem (l := l) (j := i) (by omega))
    rw [if_pos (by omega), if_pos (by omega), if_pos (by omega), rd_drop (by omega)]
    generalize rd l (i : Int) = x at hx ⊢
    have e := u32_xor_nat s x.toNat hs (by omega)
    rw [Int.toNat_of_nonneg hx.1] at e
    rw [show x % 4294967296 = x from by omega, e]
    have h1 := sum_l1 8 (s ^^^ x.toNat) l (l.length : Int) i k (by omega) (xor_B hs hx.2) (by omega)
    rw [show ((8 - 8 : Nat) : Int) = 0 from rfl] at h1
    rw [h1, wr (x := (i : Int) + 1) (by omega) (by omega), show (i : Int) + 1 = ((i + 1 : Nat) : Int) from by omega]
    exact ih _ l (i + 1) _ (by omega) (crcSteps_lt 8 _ (xor_B hs hx.2)) hl hL (by omega)
theorem sum_eq {l : List Int} (k : Nat) (hl : isB l) (hL : l.length ≤ 70368744177664) (hk : 10 * l.length < k) : num_Sum.f k l = some (crc l) := by
  have := sum_l0 l.length 4294967295 l 0 k (by omega) (by decide) hl hL hk
  exact this
end Go.Proofs.Ytpaiigonagiemaa.Num
