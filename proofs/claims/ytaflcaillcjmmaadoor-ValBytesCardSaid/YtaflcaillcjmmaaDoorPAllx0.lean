-- Printed by this session's own program (wip/tools/pp.py): out of the translation. Lean checks it.
import Derived.Test.YtaflcaillcjmmaaDoorProg
import Derived.Below
import Derived.Deep.Draws
import Derived.Deep.AppendLies
import Derived.Maps.AppendAt
import Derived.OwnWalk
import Derived.Laws.BytesArg
import Derived.Laws.MakeOwn
import Derived.Laws.OwnMore
import Derived.Deep.OwnRows
import Derived.Tactics
import Derived.Lib.ConvBytes
import Derived.Laws.Slices
import Derived.WalkKit
import Derived.KernelRfl
import Derived.RowKit3
import Derived.Deep.LoopGhost
import Derived.Deep.QuietTactic
import Derived.BigQuiet
import Derived.WideLaws
import Derived.Deep.DeepCutAuto
import Derived.Deep.CutBlock
import Derived.Deep.RegionHeld3
import Derived.Laws.Rows
import Derived.Lib.AppendStr
import Derived.ArgAppend
import Derived.Laws.IdiomCopy
import Derived.OrdersHeld
import Derived.Laws.BitsLemmas
import Derived.RowKit
import Derived.WalkSpells
import Derived.Lib.SlBytesConst
import Derived.Laws.CopyOwn
import Derived.Deep.RegionLaw
import Derived.IntWalk
import Derived.Test.YtaflcaillcjmmaaDoorHelp
import Derived.Test.YtaflcaillcjmmaaDoorFl
import Derived.Test.YtaflcaillcjmmaaDoorGlob
import Derived.Test.YtaflcaillcjmmaaDoorWWords
import Derived.Test.YtaflcaillcjmmaaDoorWLast
import Derived.Test.YtaflcaillcjmmaaDoorWTab
import Derived.Test.YtaflcaillcjmmaaDoorWFour
import Derived.Test.YtaflcaillcjmmaaDoorWQPut
import Derived.Test.YtaflcaillcjmmaaDoorWApart
import Derived.Test.YtaflcaillcjmmaaDoorWArr
import Derived.Test.YtaflcaillcjmmaaDoorWZeros
import Derived.Test.YtaflcaillcjmmaaDoorWFoot
import Derived.Test.YtaflcaillcjmmaaDoorWKept
import Derived.Test.YtaflcaillcjmmaaDoorWShare
import Derived.Test.YtaflcaillcjmmaaDoorWN
import Derived.Test.YtaflcaillcjmmaaDoorWFootNe
import Derived.Test.YtaflcaillcjmmaaDoorWAt
import Derived.Test.YtaflcaillcjmmaaDoorWEqStruct
import Derived.Test.YtaflcaillcjmmaaDoorWRepsOne
import Derived.Test.YtaflcaillcjmmaaDoorWInv
import Derived.Test.YtaflcaillcjmmaaDoorWInvWords
import Derived.Test.YtaflcaillcjmmaaDoorWGuard
import Derived.Test.YtaflcaillcjmmaaDoorWNEv
import Derived.Test.YtaflcaillcjmmaaDoorWMore
namespace Go.Proofs.YtaflcaillcjmmaaDoor.PAll
open Go.Proofs.YtaflcaillcjmmaaDoor.Help
open Go.RowKit Go.Proofs.YtaflcaillcjmmaaDoorW.PrintWords Go.Proofs.YtaflcaillcjmmaaDoorW.PrintLast Go.Proofs.YtaflcaillcjmmaaDoorW.PrintMore
attribute [local go_sem] run_fl_eql run_fl_neq run_fl_lss run_fl_leq run_fl_gtr run_fl_geq unary_fl_neg run_cx_eql run_cx_neq run_cx_make run_cx_real run_cx_imag run_fl_of run_fl_to64 run_fl_add run_fl_sub run_fl_mul run_cx_add run_cx_sub run_cx_store run_fl_store str_gtr str_leq str_geq cell_put3_0 cell_put3_1 cell_put4_0 cell_put4_1 max2_int min2_int max_two min_two max_three min_three max_four min_four   -- for this text's walks alone
set_option linter.unusedVariables false
set_option linter.unusedSimpArgs false



def errW : Option Int → Value
  | none => .nilIface
  | some c => .iface 94 (.pointer (some ⟨c.toNat, 0, none⟩))
theorem errW_none : errW none = .nilIface := rfl
theorem errW_some (c : Int) : errW (some c) = .iface 94 (.pointer (some ⟨c.toNat, 0, none⟩)) := rfl

theorem info3 : (Tryd.prog.info? 3).map (fun i => (i.zero, i.size, i.bytes)) = some (some (.int .i64 0), 1, 8) := by kernel_rfl
theorem info5 : (Tryd.prog.info? 5).map (fun i => (i.zero, i.size, i.bytes)) = some (some (.int .u8 0), 1, 1) := by kernel_rfl
-- the values' own types

end Go.Proofs.YtaflcaillcjmmaaDoor.PAll
