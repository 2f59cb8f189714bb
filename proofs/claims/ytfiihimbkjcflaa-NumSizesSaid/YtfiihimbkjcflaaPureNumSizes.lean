/- A number takes as many bytes as its bits want, seven each; a greater one never fewer; no conditions. -/
import Derived.Test.YtfiihimbkjcflaaNKnown
import Derived.Test.YtfiihimbkjcflaaNPut
set_option linter.unusedSimpArgs false
set_option linter.unusedVariables false
namespace Go.Proofs.Ytfiihimbkjcflaa.Pure
open Go Go.RowKit Go.Proofs.Ytfiihimbkjcflaa.PAll Go.Proofs.Ytfiihimbkjcflaa.Num Go.Proofs.YtfiihimbkjcflaaW.PrintWords Go.Proofs.YtfiihimbkjcflaaW.PrintLast
def cnt (v : Nat) : Nat := if v = 0 then 0 else (enc v).length
theorem cnt_step {v : Nat} (h : 0 < v) : cnt v = cnt (v / 128) + 1 := by
  unfold cnt
  rw [if_neg (by omega)]
  by_cases h2 : v < 128
  · rw [enc_lt h2, if_pos (by omega)]; rfl
  · rw [enc_ge (by omega), if_neg (by omega)]; rfl
theorem cnt_enc (a : Nat) : 1 + cnt (a / 128) = (enc a).length := by
  unfold cnt
  by_cases h2 : a < 128
  · rw [enc_lt h2, if_pos (by omega)]; rfl
  · rw [enc_ge (u := a) (by omega), if_neg (by omega), List.length_cons]; omega
theorem sizes_l0 : ∀ (d v : Nat) (x0 x1 x5 x6 x7 : Int) (k : Nat), v < 128 ^ d → d < k → 0 ≤ x7 → x7 + d ≤ 1000 →
    norialaw1_NumSizes.l0 k x0 x1 x5 x6 x7 (v : Int) = (if x5 = x7 + (cnt v : Int) then (if x0 > x1 then (if x5 ≥ 1 then (some (decide (x5 ≤ 10))) else (none)) else (if x5 ≤ x6 then (if x5 ≥ 1 then (some (decide (x5 ≤ 10))) else (none)) else (none))) else (none)) := by
  intro d
  induction d with
  | zero =>
    intro v x0 x1 x5 x6 x7 k hv hk h0 h1
    obtain ⟨k, rfl⟩ : ∃ m, k = m + 1 := ⟨k - 1, by omega⟩
    obtain rfl : v = 0 := by omega
    conv => lhs; simp only [norialaw1_NumSizes.l0]
    rw [if_neg (by omega), show cnt 0 = 0 from rfl, show x7 + ((0 : Nat) : Int) = x7 from by omega]
  | succ d ih =>
    intro v x0 x1 x5 x6 x7 k hv hk h0 h1
    obtain ⟨k, rfl⟩ : ∃ m, k = m + 1 := ⟨k - 1, by omega⟩
    conv => lhs; simp only [norialaw1_NumSizes.l0]
    by_cases h : v = 0
    · subst h
      rw [if_neg (by omega), show cnt 0 = 0 from rfl, show x7 + ((0 : Nat) : Int) = x7 from by omega]
    · rw [if_pos (by omega), wr (by omega) (by omega), show (v : Int) / 128 = ((v / 128 : Nat) : Int) from by omega]
      rw [ih (v / 128) x0 x1 x5 x6 (x7 + 1) k (by rw [Nat.div_lt_iff_lt_mul (by omega)]; rw [Nat.pow_succ] at hv; omega) (by omega) (by omega) (by omega)]
      rw [cnt_step (v := v) (by omega), show x7 + 1 + (cnt (v / 128) : Int) = x7 + ((cnt (v / 128) + 1 : Nat) : Int) from by omega]
theorem NumSizes : norialaw1_NumSizes.Pure := by
  intro a0 a1 h0 h1
  have ha := wf_u64 h0
  have hb := wf_u64 h1
  obtain ⟨k, hk⟩ : ∃ k, 200 ≤ k := ⟨_, Nat.le_refl _⟩
  refine ⟨k, ?_⟩
  unfold norialaw1_NumSizes.f
  rw [known_k (by omega), Option.bind_some, if_pos rfl, put_eq k ha.1 ha.2 (by simp) (by omega), Option.bind_some, put_eq k hb.1 hb.2 (by simp) (by omega), Option.bind_some]
  rw [List.nil_append, List.nil_append]
  obtain ⟨a, rfl⟩ := Int.eq_ofNat_of_zero_le ha.1
  obtain ⟨b, rfl⟩ := Int.eq_ofNat_of_zero_le hb.1
  rw [Int.toNat_natCast, Int.toNat_natCast, show (a : Int) / 128 = ((a / 128 : Nat) : Int) from by omega]
  rw [sizes_l0 9 (a / 128) _ _ _ _ 1 k (by have : (128 : Nat) ^ 9 = 9223372036854775808 := by decide
                                           omega) (by omega) (by omega) (by omega)]
  have hc := cnt_enc a
  have hp := enc_len_pos a
  have hm := enc_len10 (u := a) (by omega)
  rw [if_pos (by omega)]
  by_cases c : (a : Int) > (b : Int)
  · rw [if_pos c, if_pos (by omega)]
    simp; omega
  · have := enc_len_mono (a := a) (b := b) (by omega)
    rw [if_neg c, if_pos (by omega), if_pos (by omega)]
    simp; omega
end Go.Proofs.Ytfiihimbkjcflaa.Pure
