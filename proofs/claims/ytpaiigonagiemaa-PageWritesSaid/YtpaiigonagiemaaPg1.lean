/- page: what Size, Wrap and Unwrap compute. -/
import Derived.Test.YtpaiigonagiemaaDev
import Derived.Test.YtpaiigonagiemaaNSum
import Derived.Test.YtpaiigonagiemaaNPut
import Derived.Test.YtpaiigonagiemaaN4
namespace Go.Proofs.Ytpaiigonagiemaa.Num
open Go Go.RowKit Go.Proofs.Ytpaiigonagiemaa.PAll Go.Proofs.YtpaiigonagiemaaW.PrintWords Go.Proofs.YtpaiigonagiemaaW.PrintLast Go.Proofs.YtpaiigonagiemaaW.PrintMore
set_option linter.unusedVariables false
set_option linter.unusedSimpArgs false
/-- How many blocks so many bytes take. -/
def psz (n : Nat) : Nat := (4 + (enc n).length + n + 63) / 64
theorem enc_len2 {n : Nat} (h : n ≤ 8192) : (enc n).length ≤ 2 := enc_len_le 1 n (by omega)
theorem size_eq {n : Nat} (hn : n ≤ 8192) (k : Nat) (hk : 10 ≤ k) : page_Size.f k (n : Int) = some ((psz n : Nat) : Int) := by
  have hl := enc_len2 hn
  unfold page_Size.f
  rw [if_neg (by omega), if_neg (by omega), wu (by omega) (by omega), put_eq k (by omega) (by omega) (by simp) hk]
  simp only [Option.bind_some, List.nil_append, Int.toNat_natCast]
  generalize hm : (enc n).length = m at *
  rw [wr (x := 4 + (m : Int)) (by omega) (by omega), wr (x := 4 + (m : Int) + n) (by omega) (by omega), wr (x := 4 + (m : Int) + n + 64) (by omega) (by omega), wr (x := 4 + (m : Int) + n + 64 - 1) (by omega) (by omega)]
  rw [Int.tdiv_eq_ediv_of_nonneg (by omega), wr (by omega) (by omega)]
  unfold psz
  rw [hm]
  congr 1
  omega
theorem size_out {n : Int} (hn : n < 0 ∨ 8192 < n) (k : Nat) : page_Size.f k n = some 0 := by
  unfold page_Size.f
  by_cases h : n < 0
  · rw [if_pos h]
  · rw [if_neg h, if_pos (by omega)]
/-- Bytes as whole blocks. -/
def wrapX (b : List Int) : List Int := enc b.length ++ b ++ List.replicate (psz b.length * 64 - 4 - ((enc b.length).length + b.length)) 0
def wrapB (b : List Int) : List Int := b4 (crc (wrapX b)) ++ wrapX b
theorem psz_fits (n : Nat) : 4 + (enc n).length + n ≤ psz n * 64 := by unfold psz; omega
theorem wrapX_length (b : List Int) : (wrapX b).length = psz b.length * 64 - 4 := by
  have := psz_fits b.length
  unfold wrapX
  simp only [List.length_append, List.length_replicate]
  omega
theorem wrapB_length (b : List Int) : (wrapB b).length = psz b.length * 64 := by
  have := psz_fits b.length
  unfold wrapB
  rw [List.length_append, b4_length, wrapX_length]
  omega
theorem wrapX_isB {b : List Int} (h : isB b) : isB (wrapX b) := isB_append (isB_append (enc_isB _) h) (fun x hx => by obtain rfl := List.eq_of_mem_replicate hx; omega)
theorem wrap_eq {b : List Int} (hB : isB b) (h : b.length ≤ 8192) (k : Nat) (hk : 90000 ≤ k) : page_Wrap.f k b = some (wrapB b, 0) := by
  have hl := enc_len2 h
  have hf := psz_fits b.length
  have hp : psz b.length ≤ 130 := by unfold psz; omega
  unfold page_Wrap.f
  rw [if_neg (by omega), wu (by omega) (by omega), put_eq k (by omega) (by omega) (by simp) (by omega)]
  rw [Option.bind_some, List.nil_append, Int.toNat_natCast, if_pos (by omega), Option.bind_some, size_eq h k (by omega), Option.bind_some]
  have e1 : wrap64 ((psz b.length : Int) * 64) = (psz b.length : Int) * 64 := wr (by omega) (by omega)
  have e2 : wrap64 ((psz b.length : Int) * 64 - 4) = (psz b.length : Int) * 64 - 4 := wr (by omega) (by omega)
  have el : (((enc b.length ++ b).length : Nat) : Int) = ((enc b.length).length : Int) + b.length := by rw [List.length_append]; omega
  have e3 : wrap64 (wrap64 (wrap64 ((psz b.length : Int) * 64) - 4) - (((enc b.length ++ b).length : Nat) : Int)) = ((psz b.length * 64 - 4 - ((enc b.length).length + b.length) : Nat) : Int) := by
    rw [e1, e2, el, wr (by omega) (by omega)]
    omega
  rw [e3, if_pos (by omega), Int.toNat_natCast, if_pos (by rw [List.length_append]; omega), Option.bind_some]
  have hx : enc b.length ++ b ++ List.replicate (psz b.length * 64 - 4 - ((enc b.length).length + b.length)) 0 = wrapX b := rfl
  have hxl := wrapX_length b
  rw [hx, sum_eq k (wrapX_isB hB) (by omega) (by omega), Option.bind_some, put4_eq (by simp), Option.bind_some, List.nil_append, if_pos (by rw [b4_length]; omega)]
  rfl
theorem wrap_long {b : List Int} (h : 8192 < b.length) (k : Nat) : page_Wrap.f k b = some ([], 4) := by
  unfold page_Wrap.f
  rw [if_pos (by omega)]
/-- Whole blocks opened. -/
def unwrapB (b : List Int) : List Int × Int :=
  if b.length = 0 ∨ b.length % 64 ≠ 0 then ([], 12)
  else if (g4 b 0).1 ≠ crc (b.drop 4) ∨ (gd 0 0 (b.drop 4)).2.2 ≠ 0 ∨ 8192 < (gd 0 0 (b.drop 4)).1 ∨ psz (gd 0 0 (b.drop 4)).1.toNat * 64 ≠ b.length then ([], 12)
  else if (b.drop (4 + (gd 0 0 (b.drop 4)).2.1.toNat + (gd 0 0 (b.drop 4)).1.toNat)).any (· != 0) then ([], 12)
  else ((b.take (4 + (gd 0 0 (b.drop 4)).2.1.toNat + (gd 0 0 (b.drop 4)).1.toNat)).drop (4 + (gd 0 0 (b.drop 4)).2.1.toNat), 0)
end Go.Proofs.Ytpaiigonagiemaa.Num
