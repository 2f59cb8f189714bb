/- page: what the reference's Size and Wrap compute. -/
import Derived.Test.YtpaiigonagiemaaPg5
import Derived.Test.YtpaiigonagiemaaNR4
import Derived.Test.YtpaiigonagiemaaNRPut
import Derived.Test.YtpaiigonagiemaaNRSum
namespace Go.Proofs.Ytpaiigonagiemaa.Num
open Go Go.RowKit Go.Proofs.Ytpaiigonagiemaa.PAll Go.Proofs.YtpaiigonagiemaaW.PrintWords Go.Proofs.YtpaiigonagiemaaW.PrintLast Go.Proofs.YtpaiigonagiemaaW.PrintMore
set_option linter.unusedVariables false
set_option linter.unusedSimpArgs false
theorem rput4_eq {l : List Int} {n : Int} (hl : l.length ≤ 70368744177664) : noriaref11_Put4.f l n = some (l ++ b4 n) := by
  unfold noriaref11_Put4.f
  rw [Option.bind_some, if_pos (by simp; omega), Option.bind_some, Option.bind_some, if_pos (by simp; omega)]
  rfl
theorem rsize_eq {n : Nat} (hn : n ≤ 8192) (k : Nat) (hk : 10 ≤ k) : noriaref18_Size.f k (n : Int) = some ((psz n : Nat) : Int) := by
  have hl := enc_len2 hn
  unfold noriaref18_Size.f
  rw [if_neg (by omega), if_neg (by omega), wu (by omega) (by omega), rput_eq k (by omega) (by omega) (by simp) hk]
  simp only [Option.bind_some, List.nil_append, Int.toNat_natCast]
  generalize hm : (enc n).length = m at *
  rw [wr (x := 4 + (m : Int)) (by omega) (by omega), wr (x := 4 + (m : Int) + n) (by omega) (by omega), wr (x := 4 + (m : Int) + n + 64) (by omega) (by omega), wr (x := 4 + (m : Int) + n + 64 - 1) (by omega) (by omega)]
  rw [Int.tdiv_eq_ediv_of_nonneg (by omega), wr (by omega) (by omega)]
  unfold psz
  rw [hm]
  congr 1
  omega
theorem rsize_out {n : Int} (hn : n < 0 ∨ 8192 < n) (k : Nat) : noriaref18_Size.f k n = some 0 := by
  unfold noriaref18_Size.f
  by_cases h : n < 0
  · rw [if_pos h]
  · rw [if_neg h, if_pos (by omega)]
theorem rwrap_l0 : ∀ (d : Nat) (x : List Int) (k : Nat), d < 64 → (4 + x.length + d) % 64 = 0 → isB x → x.length + d ≤ 8900 → 89100 + d < k →
    noriaref18_Wrap.l0 k x = some (b4 (crc (x ++ List.replicate d 0)) ++ (x ++ List.replicate d 0), 0)
  | 0, x, k, _, hm, hB, hl, hk => by
    obtain ⟨k, rfl⟩ : ∃ m, k = m + 1 := ⟨k - 1, by omega⟩
    unfold noriaref18_Wrap.l0
    rw [wr (by omega) (by omega), Int.tmod_eq_emod_of_nonneg (by omega), if_pos (by omega), rsum_eq k hB (by omega) (by omega), Option.bind_some, rput4_eq (by simp), Option.bind_some, if_pos (by simp [b4_length]; omega)]
    simp
  | d + 1, x, k, hd, hm, hB, hl, hk => by
    obtain ⟨k, rfl⟩ : ∃ m, k = m + 1 := ⟨k - 1, by omega⟩
    unfold noriaref18_Wrap.l0
    rw [wr (by omega) (by omega), Int.tmod_eq_emod_of_nonneg (by omega), if_neg (by omega), if_pos (by omega)]
    rw [rwrap_l0 d (x ++ [0]) k (by omega) (by simp; omega) (isB_append hB (fun y hy => by rw [List.mem_singleton.1 hy]; omega)) (by simp; omega) (by omega)]
    rw [List.append_assoc]
    rfl
theorem rwrap_eq {b : List Int} (hB : isB b) (h : b.length ≤ 8192) (k : Nat) (hk : 90000 ≤ k) : noriaref18_Wrap.f k b = some (wrapB b, 0) := by
  have hl := enc_len2 h
  have hf := psz_fits b.length
  unfold noriaref18_Wrap.f
  rw [if_neg (by omega), wu (by omega) (by omega), rput_eq k (by omega) (by omega) (by simp) (by omega)]
  rw [Option.bind_some, List.nil_append, Int.toNat_natCast, if_pos (by omega)]
  have hd : psz b.length * 64 - 4 - ((enc b.length).length + b.length) < 64 := by unfold psz; omega
  rw [rwrap_l0 (psz b.length * 64 - 4 - ((enc b.length).length + b.length)) (enc b.length ++ b) k hd (by rw [List.length_append]; omega) (isB_append (enc_isB _) hB) (by rw [List.length_append]; omega) (by omega)]
  rfl
theorem rwrap_long {b : List Int} (h : 8192 < b.length) (k : Nat) : noriaref18_Wrap.f k b = some ([], 4) := by
  unfold noriaref18_Wrap.f
  rw [if_pos (by omega)]
end Go.Proofs.Ytpaiigonagiemaa.Num
