import Derived.Test.YtaflcaillcjmmaaGreatDoorGlob
import Derived.Test.YtaflcaillcjmmaaGreatDoorRows
import Derived.LaidMore
import Derived.Lib.LaidU8T
import Derived.Lib.LaidTab
import Derived.Stop.LaidErr
import Derived.OpenShut
import Derived.KernelRfl
import Derived.LaidLaws
/- What the rows' laid variables give the walks. -/
namespace Go.Proofs.YtaflcaillcjmmaaGreatDoor.Num
open Go Go.RowKit Go.Proofs Go.Lib Go.Proofs.YtaflcaillcjmmaaGreatDoor Go.Proofs.YtaflcaillcjmmaaGreatDoor.Help
set_option maxRecDepth 100000
theorem starErr : "*" ++ "errors.errorString" = "*errors.errorString" := by decide
theorem rowErr (u : TypeId) (h : Tryz.prog.typeName? 3 u = some "*errors.errorString") : u = 125 :=
  typeName_ptr_named (nm := "errors.errorString") (by rw [starErr]; kernel_rfl) (by kernel_rfl) (by decide) u (by rw [starErr]; exact h)
theorem glob_of_laid {W : World} (h0 : laidMetH Tryz.prog Rows.valReadsRow.laid W) : Glob W := by
  rw [MakeChecks.laidMetH_plain _ _ _ (by kernel_rfl)] at h0
  have h : laidMet Tryz.prog [("math/bits.deBruijn32tab", Rows.laid_math_bits_deBruijn32tab), ("math/bits.deBruijn64tab", Rows.laid_math_bits_deBruijn64tab), ("internal/strconv.uint64pow10", tabData .u64 Lib.pow10Tab), ("unicode/utf8.acceptRanges", Lib.acceptData), ("strconv.ErrRange", Rows.laid_strconv_ErrRange), ("strconv.ErrSyntax", Rows.laid_strconv_ErrSyntax), ("unicode/utf8.first", Lib.firstData)] W := h0
  refine ⟨?_, ?_, ?_, ?_⟩
  · exact tabIs_of_head (g := 2) (t := 114) (by kernel_rfl) (by kernel_rfl) Tryz.underlying114 Tryz.underlying93 (by kernel_rfl) (by kernel_rfl) h.tail.tail
  · obtain ⟨a, s, hv, _⟩ := laid_sentinel (g := 1) (ti := 43) (tp := 125) (te := 127) (ts := 9) h.tail.tail.tail.tail (by kernel_rfl) (by kernel_rfl) Tryz.underlying43 rowErr Tryz.underlying125 Tryz.underlying127 rfl rfl Tryz.underlying9 (by kernel_rfl) (by kernel_rfl)
    exact ⟨_, _, hv⟩
  · obtain ⟨a, s, hv, _⟩ := laid_sentinel (g := 0) (ti := 43) (tp := 125) (te := 127) (ts := 9) h.tail.tail.tail.tail.tail (by kernel_rfl) (by kernel_rfl) Tryz.underlying43 rowErr Tryz.underlying125 Tryz.underlying127 rfl rfl Tryz.underlying9 (by kernel_rfl) (by kernel_rfl)
    exact ⟨_, _, hv⟩
  · exact utf8Tabs_of_readsT (P := Tryz.prog) (ρ := Tryz.lays271_ren) ⟨Tryz.underlying5, Tryz.underlying120, Tryz.underlying122, Tryz.underlying123⟩ ⟨by kernel_rfl, by kernel_rfl, by kernel_rfl, by kernel_rfl, by kernel_rfl, by kernel_rfl, by kernel_rfl⟩ (Lib.laidMet.reads h (by simp)) (Lib.laidMet.reads h (by simp))
end Go.Proofs.YtaflcaillcjmmaaGreatDoor.Num
