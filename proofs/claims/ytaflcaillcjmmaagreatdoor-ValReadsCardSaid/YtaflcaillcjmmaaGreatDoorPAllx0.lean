-- Printed by this session's own program (wip/tools/pp.py): out of the translation. Lean checks it.
import Derived.Test.YtaflcaillcjmmaaGreatDoorProg
import Derived.Below
import Derived.Deep.Draws
import Derived.Deep.AppendLies
import Derived.Maps.AppendAt
import Derived.OwnWalk
import Derived.Laws.BytesArg
import Derived.Laws.MakeOwn
import Derived.Laws.OwnMore
import Derived.Deep.OwnRows
import Derived.Tactics
import Derived.Lib.ConvBytes
import Derived.Laws.Slices
import Derived.WalkKit
import Derived.KernelRfl
import Derived.RowKit3
import Derived.Deep.LoopGhost
import Derived.Deep.QuietTactic
import Derived.BigQuiet
import Derived.WideLaws
import Derived.Deep.DeepCutAuto
import Derived.Deep.CutBlock
import Derived.Deep.RegionHeld3
import Derived.Laws.Rows
import Derived.Lib.AppendStr
import Derived.ArgAppend
import Derived.Laws.IdiomCopy
import Derived.OrdersHeld
import Derived.Laws.BitsLemmas
import Derived.RowKit
import Derived.WalkSpells
import Derived.Lib.SlBytesConst
import Derived.Laws.CopyOwn
import Derived.Deep.RegionLaw
import Derived.IntWalk
import Derived.Test.YtaflcaillcjmmaaGreatDoorHelp
import Derived.Test.YtaflcaillcjmmaaGreatDoorFl
import Derived.Test.YtaflcaillcjmmaaGreatDoorLia
import Derived.Test.YtaflcaillcjmmaaGreatDoorGlob
import Derived.Test.YtaflcaillcjmmaaGreatDoorWWords
import Derived.Test.YtaflcaillcjmmaaGreatDoorWLast
import Derived.Test.YtaflcaillcjmmaaGreatDoorWTab
import Derived.Test.YtaflcaillcjmmaaGreatDoorWFour
import Derived.Test.YtaflcaillcjmmaaGreatDoorWQPut
import Derived.Test.YtaflcaillcjmmaaGreatDoorWApart
import Derived.Test.YtaflcaillcjmmaaGreatDoorWArr
import Derived.Test.YtaflcaillcjmmaaGreatDoorWZeros
import Derived.Test.YtaflcaillcjmmaaGreatDoorWFoot
import Derived.Test.YtaflcaillcjmmaaGreatDoorWKept
import Derived.Test.YtaflcaillcjmmaaGreatDoorWShare
import Derived.Test.YtaflcaillcjmmaaGreatDoorWN
import Derived.Test.YtaflcaillcjmmaaGreatDoorWFootNe
import Derived.Test.YtaflcaillcjmmaaGreatDoorWAt
import Derived.Test.YtaflcaillcjmmaaGreatDoorWEqStruct
import Derived.Test.YtaflcaillcjmmaaGreatDoorWRepsOne
import Derived.Test.YtaflcaillcjmmaaGreatDoorWInv
import Derived.Test.YtaflcaillcjmmaaGreatDoorWInvWords
import Derived.Test.YtaflcaillcjmmaaGreatDoorWGuard
import Derived.Test.YtaflcaillcjmmaaGreatDoorWNEv
import Derived.Test.YtaflcaillcjmmaaGreatDoorWMore
namespace Go.Proofs.YtaflcaillcjmmaaGreatDoor.PAll
open Go.Proofs.YtaflcaillcjmmaaGreatDoor.Help
open Go.RowKit Go.Proofs.YtaflcaillcjmmaaGreatDoorW.PrintWords Go.Proofs.YtaflcaillcjmmaaGreatDoorW.PrintLast Go.Proofs.YtaflcaillcjmmaaGreatDoorW.PrintMore
attribute [local go_sem] run_fl_eql run_fl_neq run_fl_lss run_fl_leq run_fl_gtr run_fl_geq unary_fl_neg run_cx_eql run_cx_neq run_cx_make run_cx_real run_cx_imag run_fl_of run_fl_to64 run_fl_add run_fl_sub run_fl_mul run_cx_add run_cx_sub run_cx_store run_fl_store str_gtr str_leq str_geq cell_put3_0 cell_put3_1 cell_put4_0 cell_put4_1 max2_int min2_int max_two min_two max_three min_three max_four min_four   -- for this text's walks alone
set_option linter.unusedVariables false
set_option linter.unusedSimpArgs false



def errW : Option Int → Value
  | none => .nilIface
  | some c => .iface 96 (.pointer (some ⟨c.toNat, 0, none⟩))
theorem errW_none : errW none = .nilIface := rfl
theorem errW_some (c : Int) : errW (some c) = .iface 96 (.pointer (some ⟨c.toNat, 0, none⟩)) := rfl

theorem info3 : (Tryz.prog.info? 3).map (fun i => (i.zero, i.size, i.bytes)) = some (some (.int .i64 0), 1, 8) := by kernel_rfl
theorem info5 : (Tryz.prog.info? 5).map (fun i => (i.zero, i.size, i.bytes)) = some (some (.int .u8 0), 1, 1) := by kernel_rfl
-- the values' own types

end Go.Proofs.YtaflcaillcjmmaaGreatDoor.PAll
