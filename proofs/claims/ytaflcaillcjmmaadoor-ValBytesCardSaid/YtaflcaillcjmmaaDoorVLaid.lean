import Derived.Test.YtaflcaillcjmmaaDoorGlob
import Derived.Test.YtaflcaillcjmmaaDoorRows
import Derived.LaidMore
import Derived.Lib.LaidU8T
import Derived.Lib.LaidTab
import Derived.Stop.LaidErr
import Derived.OpenShut
import Derived.KernelRfl
import Derived.LaidLaws
/- What the rows' laid variables give the walks. -/
namespace Go.Proofs.YtaflcaillcjmmaaDoor.Num
open Go Go.RowKit Go.Proofs Go.Lib Go.Proofs.YtaflcaillcjmmaaDoor Go.Proofs.YtaflcaillcjmmaaDoor.Help
set_option maxRecDepth 100000
theorem starErr : "*" ++ "errors.errorString" = "*errors.errorString" := by decide
theorem rowErr (u : TypeId) (h : Tryd.prog.typeName? 3 u = some "*errors.errorString") : u = 118 :=
  typeName_ptr_named (nm := "errors.errorString") (by rw [starErr]; kernel_rfl) (by kernel_rfl) (by decide) u (by rw [starErr]; exact h)
theorem laid_same : Rows.valNumbersRow.laid = Rows.valBytesRow.laid := rfl
theorem glob_of_laid {W : World} (h0 : laidMetH Tryd.prog Rows.valNumbersRow.laid W) : Glob W := by
  rw [MakeChecks.laidMetH_plain _ _ _ (by kernel_rfl)] at h0
  have h : laidMet Tryd.prog [("math/bits.deBruijn32tab", Rows.laid_math_bits_deBruijn32tab), ("math/bits.deBruijn64tab", Rows.laid_math_bits_deBruijn64tab), ("internal/strconv.uint64pow10", tabData .u64 Lib.pow10Tab), ("unicode/utf8.acceptRanges", Lib.acceptData), ("strconv.ErrRange", Rows.laid_strconv_ErrRange), ("strconv.ErrSyntax", Rows.laid_strconv_ErrSyntax), ("unicode/utf8.first", Lib.firstData)] W := h0
  refine ⟨?_, ?_, ?_, ?_⟩
  · exact tabIs_of_head (g := 1) (t := 101) (by kernel_rfl) (by kernel_rfl) Tryd.underlying101 Tryd.underlying79 (by kernel_rfl) (by kernel_rfl) h.tail.tail
  · obtain ⟨a, s, hv, _⟩ := laid_sentinel (g := 3) (ti := 46) (tp := 118) (te := 120) (ts := 9) h.tail.tail.tail.tail (by kernel_rfl) (by kernel_rfl) Tryd.underlying46 rowErr Tryd.underlying118 Tryd.underlying120 rfl rfl Tryd.underlying9 (by kernel_rfl) (by kernel_rfl)
    exact ⟨_, _, hv⟩
  · obtain ⟨a, s, hv, _⟩ := laid_sentinel (g := 2) (ti := 46) (tp := 118) (te := 120) (ts := 9) h.tail.tail.tail.tail.tail (by kernel_rfl) (by kernel_rfl) Tryd.underlying46 rowErr Tryd.underlying118 Tryd.underlying120 rfl rfl Tryd.underlying9 (by kernel_rfl) (by kernel_rfl)
    exact ⟨_, _, hv⟩
  · exact utf8Tabs_of_readsT (P := Tryd.prog) (ρ := Tryd.lays271_ren) ⟨Tryd.underlying5, Tryd.underlying113, Tryd.underlying115, Tryd.underlying116⟩ ⟨by kernel_rfl, by kernel_rfl, by kernel_rfl, by kernel_rfl, by kernel_rfl, by kernel_rfl, by kernel_rfl⟩ (Lib.laidMet.reads h (by simp)) (Lib.laidMet.reads h (by simp))
end Go.Proofs.YtaflcaillcjmmaaDoor.Num
