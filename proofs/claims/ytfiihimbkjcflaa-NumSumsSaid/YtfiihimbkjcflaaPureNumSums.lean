/- num.Sum is the sum of the document of any bytes; with one bit turned it is another, and put behind them it is read again; no conditions. -/
import Derived.Test.YtfiihimbkjcflaaNKnown
import Derived.Test.YtfiihimbkjcflaaNRSum
import Derived.Test.YtfiihimbkjcflaaN4
set_option linter.unusedSimpArgs false
set_option linter.unusedVariables false
namespace Go.Proofs.Ytfiihimbkjcflaa.Pure
open Go Go.RowKit Go.Proofs.Ytfiihimbkjcflaa.PAll Go.Proofs.Ytfiihimbkjcflaa.Num Go.Proofs.YtfiihimbkjcflaaW.PrintWords Go.Proofs.YtfiihimbkjcflaaW.PrintLast
theorem NumSums : norialaw1_NumSums.Pure := by
  intro l0 a1 _ _ hb ha
  have hB := isB_of_wf hb
  have hu := wf_u16 ha
  obtain ⟨k, hk⟩ : ∃ k, 10000 ≤ k := ⟨_, Nat.le_refl _⟩
  refine ⟨k, ?_⟩
  unfold norialaw1_NumSums.f
  rw [known_k (by omega), Option.bind_some, if_pos rfl]
  by_cases hl : (l0.length : Int) > 600
  · rw [if_pos hl]
  · rw [if_neg hl, sum_eq k hB (by omega) (by omega), Option.bind_some, rsum_eq k hB (by omega) (by omega), Option.bind_some, if_pos rfl]
    by_cases he : (l0.length : Int) = 0
    · rw [if_pos he]
    · rw [if_neg he]
      rw [Option.bind_some, if_pos (by simp; omega), List.nil_append, Option.bind_some]
      have hw : wrap64 (8 * (l0.length : Int)) = 8 * (l0.length : Int) := wr (by omega) (by omega)
      have hw1 : wrap64 a1 = a1 := wr (by omega) (by omega)
      rw [hw, hw1, if_neg (by omega)]
      have ht : Int.tmod a1 (8 * (l0.length : Int)) = a1 % (8 * (l0.length : Int)) := Int.tmod_eq_emod_of_nonneg hu.1
      rw [ht]
      have hk0 : 0 ≤ a1 % (8 * (l0.length : Int)) := Int.emod_nonneg _ (by omega)
      have hk1 : a1 % (8 * (l0.length : Int)) < 8 * (l0.length : Int) := Int.emod_lt_of_pos _ (by omega)
      generalize a1 % (8 * (l0.length : Int)) = q at hk0 hk1 ⊢
      have ht2 : Int.tdiv q 8 = q / 8 := Int.tdiv_eq_ediv_of_nonneg hk0
      have ht3 : Int.tmod q 8 = q % 8 := Int.tmod_eq_emod_of_nonneg hk0
      have hw2 : wrap64 (q / 8) = q / 8 := wr (by omega) (by omega)
      have hw3 : IntKind.u64.wrap (q % 8) = q % 8 := wu (by omega) (by omega)
      rw [ht2, ht3, hw2, hw3, if_pos (by omega), if_pos (by omega), if_pos (by omega), put4_eq (by omega), Option.bind_some]
      have hc := crc_bd hB
      have hg := get4_eq (l := l0 ++ b4 (crc l0)) (a := (l0.length : Int)) k (isB_append hB (b4_isB _)) (by simp [b4]; omega) (by omega) (by omega) (by omega)
      have hg2 := g4_put4 l0 [] hc.1 hc.2
      rw [List.append_nil] at hg2
      rw [hg, hg2, Option.bind_some]
      have hj : (q / 8).toNat < l0.length := by omega
      have hrd : rd l0 (q / 8) = l0[(q / 8).toNat] := by
        unfold rd
        rw [List.getD_eq_getElem?_getD, List.getElem?_eq_getElem hj]; rfl
      have hx := hB _ (List.getElem_mem hj)
      have hs : shl .u8 1 (q % 8) = ((2 ^ (q % 8).toNat : Nat) : Int) ∧ 0 < 2 ^ (q % 8).toNat ∧ 2 ^ (q % 8).toNat < 256 := by
        obtain ⟨m, hm⟩ : ∃ m : Nat, (q % 8).toNat = m := ⟨_, rfl⟩
        have hm8 : m < 8 := by omega
        have hq : q % 8 = (m : Int) := by omega
        rw [hq, Int.toNat_natCast]
        clear hm
        have : ∀ m : Fin 8, shl .u8 1 ((m.val : Nat) : Int) = ((2 ^ m.val : Nat) : Int) ∧ 0 < 2 ^ m.val ∧ 2 ^ m.val < 256 := by decide +kernel
        exact this ⟨m, hm8⟩
      rw [hrd, hs.1]
      obtain ⟨n1, n2, n3⟩ := turn_ne hx.1 hx.2 hs.2.1 hs.2.2
      have hB2 : isB (l0.set (q / 8).toNat (Go.bits .xor .u8 l0[(q / 8).toNat] ((2 ^ (q % 8).toNat : Nat) : Int))) := by
        intro y hy
        rcases List.mem_or_eq_of_mem_set hy with h | h
        · exact hB y h
        · rw [h]; exact ⟨n2, n3⟩
      rw [sum_eq k hB2 (by simp; omega) (by simp; omega), Option.bind_some]
      rw [if_neg (crc_set hB n2 n3 hj n1)]
      simp
end Go.Proofs.Ytfiihimbkjcflaa.Pure
