/- Numbers in words and back; their order; no conditions. -/
import Derived.Test.YtaflcaillcjmmaaDoorVKnown
import Derived.Test.YtaflcaillcjmmaaDoorVPar
import Derived.Test.YtaflcaillcjmmaaDoorVCmp
import Derived.Test.YtaflcaillcjmmaaDoorPAllx10
set_option linter.unusedSimpArgs false
set_option linter.unusedVariables false
namespace Go.Proofs.YtaflcaillcjmmaaDoor.Pure
open Go Go.RowKit Go.Proofs.YtaflcaillcjmmaaDoor.PAll Go.Proofs.YtaflcaillcjmmaaDoor.Num Go.Proofs.YtaflcaillcjmmaaDoor.Help Go.Proofs.YtaflcaillcjmmaaDoorW.PrintWords Go.Proofs.YtaflcaillcjmmaaDoorW.PrintLast Go.Proofs.YtaflcaillcjmmaaDoorW.PrintMore
theorem wf_i64 {a : Int} (h : (Lit.int .i64 a).wf = true) : -9223372036854775808 ≤ a ∧ a ≤ 9223372036854775807 := by
  simp [Lit.wf, IntKind.min, IntKind.max, IntKind.signed, IntKind.bits] at h
  omega
theorem ValNumbers : norialaw3_ValNumbers.Pure := by
  intro a b ha hb
  have wa := wf_i64 ha
  have wb := wf_i64 hb
  refine ⟨200, ?_⟩
  unfold norialaw3_ValNumbers.f
  rw [known_k (by omega)]
  simp only [Option.bind_some, if_true, norialaw3_N.f]
  rw [text_num 200 a wa.1 wa.2, text_num 200 b wb.1 wb.2]
  simp only [Option.bind_some]
  rw [parse_num 200 (by omega) a wa.1 wa.2]
  simp only [Option.bind_some, val_Same.f]
  rw [compare_num 200 (by omega) a b]
  simp only [Option.bind_some, c00, beq_self_eq_true, Bool.and_true, if_true, ofL_toList]
  have e1 : (decide ((if a < b then (-1 : Int) else if b < a then 1 else 0) < 0) == decide (a < b)) = true := by
    by_cases h : a < b
    · simp [h]
    · by_cases h' : b < a <;> simp [h, h']
  have e2 : (((if a < b then (-1 : Int) else if b < a then 1 else 0) == 0) == (a == b)) = true := by
    by_cases h : a < b
    · have : (a == b) = false := by rw [beq_eq_false_iff_ne]; omega
      simp [h, this]
    · by_cases h' : b < a
      · have : (a == b) = false := by rw [beq_eq_false_iff_ne]; omega
        simp [h, h', this]
      · obtain rfl : a = b := by omega
        simp
  have e3 : ((Lib.itoa a == Lib.itoa b) == (a == b)) = true := by
    by_cases h : a = b
    · subst h; simp
    · have h1 : (a == b) = false := by rw [beq_eq_false_iff_ne]; exact h
      have h2 : (Lib.itoa a == Lib.itoa b) = false := by rw [beq_eq_false_iff_ne]; exact fun e => h (itoa_inj e)
      rw [h1, h2]
      rfl
  rw [if_pos e1, if_pos e2, if_pos e3]
  exact congrArg some e2
end Go.Proofs.YtaflcaillcjmmaaDoor.Pure
