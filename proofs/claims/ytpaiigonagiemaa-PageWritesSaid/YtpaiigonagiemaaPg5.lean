/- page: what is wrapped is opened again. -/
import Derived.Test.YtpaiigonagiemaaPg1
namespace Go.Proofs.Ytpaiigonagiemaa.Num
open Go Go.RowKit Go.Proofs.Ytpaiigonagiemaa.PAll Go.Proofs.YtpaiigonagiemaaW.PrintWords Go.Proofs.YtpaiigonagiemaaW.PrintLast Go.Proofs.YtpaiigonagiemaaW.PrintMore
set_option linter.unusedVariables false
set_option linter.unusedSimpArgs false
theorem wrapB_isB {b : List Int} (h : isB b) : isB (wrapB b) := isB_append (b4_isB _) (wrapX_isB h)
theorem wrapB_drop (b : List Int) : (wrapB b).drop 4 = wrapX b := by
  unfold wrapB
  rw [List.drop_append_of_le_length (by rw [b4_length]; omega)]
  rfl
theorem wrapB_g4 {b : List Int} (h : isB b) : g4 (wrapB b) 0 = (crc (wrapX b), 4, 0) := by
  have hc := crc_bd (wrapX_isB h)
  have := g4_put4 [] (wrapX b) hc.1 hc.2
  exact this
theorem wrapX_gd (b : List Int) (h : b.length ≤ 8192) : gd 0 0 (wrapX b) = ((b.length : Int), ((enc b.length).length : Int), 0) := by
  unfold wrapX
  rw [List.append_assoc]
  exact gd_put b.length (by omega) _
theorem unwrap_wrap {b : List Int} (hB : isB b) (h : b.length ≤ 8192) : unwrapB (wrapB b) = (b, 0) := by
  have hl := wrapB_length b
  have hf := psz_fits b.length
  have hxl := wrapX_length b
  unfold unwrapB
  rw [if_neg (by rw [hl]; omega), wrapB_drop, wrapB_g4 hB, wrapX_gd b h]
  simp only [Int.toNat_natCast]
  rw [if_neg (by rw [hl]; simp; omega)]
  have hd : (wrapB b).drop (4 + (enc b.length).length + b.length) = List.replicate (psz b.length * 64 - 4 - ((enc b.length).length + b.length)) 0 := by
    rw [show 4 + (enc b.length).length + b.length = 4 + ((enc b.length).length + b.length) from by omega, ← List.drop_drop, wrapB_drop]
    unfold wrapX
    exact List.drop_left' (by rw [List.length_append])
  have hany : ((List.replicate (psz b.length * 64 - 4 - ((enc b.length).length + b.length)) (0 : Int)).any (· != 0)) = false := by
    rw [List.any_eq_false]
    intro x hx
    rw [List.eq_of_mem_replicate hx]
    simp
  rw [hd, if_neg (by rw [hany]; decide)]
  have ht : ((wrapB b).take (4 + (enc b.length).length + b.length)).drop (4 + (enc b.length).length) = b := by
    unfold wrapB wrapX
    rw [← List.append_assoc, ← List.append_assoc, List.take_left' (by simp [b4_length]; omega)]
    exact List.drop_left' (by simp [b4_length])
  rw [ht]
/-- A byte behind the sum that is turned: no page. -/
theorem unwrap_turned {b : List Int} (hB : isB b) {j : Nat} {y : Int} (y0 : 0 ≤ y) (y1 : y ≤ 255) (hj : j < (wrapX b).length) (hne : y ≠ (wrapX b)[j]) : unwrapB ((wrapB b).set (j + 4) y) = ([], 12) := by
  have hl := wrapB_length b
  have hf := psz_fits b.length
  have hg : ((wrapB b).set (j + 4) y).drop 4 = (wrapX b).set j y := by
    unfold wrapB
    rw [show (b4 (crc (wrapX b)) ++ wrapX b).set (j + 4) y = b4 (crc (wrapX b)) ++ (wrapX b).set j y from by
      rw [List.set_append_right _ _ (by rw [b4_length]; omega), b4_length, Nat.add_sub_cancel]]
    rw [List.drop_append_of_le_length (by rw [b4_length]; omega)]
    rfl
  have hg4 : (g4 ((wrapB b).set (j + 4) y) 0).1 = crc (wrapX b) := by
    have hc := crc_bd (wrapX_isB hB)
    have h := g4_put4 [] ((wrapX b).set j y) hc.1 hc.2
    unfold wrapB
    rw [List.set_append_right _ _ (by rw [b4_length]; omega), b4_length, Nat.add_sub_cancel]
    exact congrArg (·.1) h
  unfold unwrapB
  rw [List.length_set, if_neg (by rw [hl]; omega), hg, hg4, if_pos (.inl (fun e => crc_set (wrapX_isB hB) y0 y1 hj hne e.symm))]
end Go.Proofs.Ytpaiigonagiemaa.Num
