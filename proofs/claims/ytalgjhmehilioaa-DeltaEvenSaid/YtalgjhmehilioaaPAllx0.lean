-- Printed by this session's own program (wip/tools/pp.py): out of the translation. Lean checks it.
import Derived.Test.YtalgjhmehilioaaProg
import Derived.Below
import Derived.Deep.Draws
import Derived.Deep.AppendLies
import Derived.Maps.AppendAt
import Derived.OwnWalk
import Derived.Laws.BytesArg
import Derived.Laws.MakeOwn
import Derived.Laws.OwnMore
import Derived.Deep.OwnRows
import Derived.Tactics
import Derived.Lib.ConvBytes
import Derived.Laws.Slices
import Derived.WalkKit
import Derived.KernelRfl
import Derived.RowKit3
import Derived.Deep.LoopGhost
import Derived.Deep.QuietTactic
import Derived.BigQuiet
import Derived.WideLaws
import Derived.Deep.DeepCutAuto
import Derived.Deep.CutBlock
import Derived.Deep.RegionHeld3
import Derived.Laws.Rows
import Derived.Lib.AppendStr
import Derived.ArgAppend
import Derived.Laws.IdiomCopy
import Derived.OrdersHeld
import Derived.Laws.BitsLemmas
import Derived.RowKit
import Derived.WalkSpells
import Derived.Lib.SlBytesConst
import Derived.Laws.CopyOwn
import Derived.Deep.RegionLaw
import Derived.IntWalk
import Derived.Test.YtalgjhmehilioaaHelp
import Derived.Test.YtalgjhmehilioaaWWords
import Derived.Test.YtalgjhmehilioaaWLast
import Derived.Test.YtalgjhmehilioaaWTab
import Derived.Test.YtalgjhmehilioaaWFour
import Derived.Test.YtalgjhmehilioaaWQPut
import Derived.Test.YtalgjhmehilioaaWApart
import Derived.Test.YtalgjhmehilioaaWArr
import Derived.Test.YtalgjhmehilioaaWZeros
import Derived.Test.YtalgjhmehilioaaWFoot
import Derived.Test.YtalgjhmehilioaaWKept
import Derived.Test.YtalgjhmehilioaaWShare
import Derived.Test.YtalgjhmehilioaaWN
import Derived.Test.YtalgjhmehilioaaWFootNe
import Derived.Test.YtalgjhmehilioaaWAt
import Derived.Test.YtalgjhmehilioaaWEqStruct
import Derived.Test.YtalgjhmehilioaaWRepsOne
import Derived.Test.YtalgjhmehilioaaWInv
import Derived.Test.YtalgjhmehilioaaWInvWords
import Derived.Test.YtalgjhmehilioaaWGuard
import Derived.Test.YtalgjhmehilioaaWNEv
import Derived.Test.YtalgjhmehilioaaWMore
namespace Go.Proofs.Ytalgjhmehilioaa.PAll
open Go.Proofs.Ytalgjhmehilioaa.Help
open Go.RowKit Go.Proofs.YtalgjhmehilioaaW.PrintWords Go.Proofs.YtalgjhmehilioaaW.PrintLast Go.Proofs.YtalgjhmehilioaaW.PrintMore
attribute [local go_sem] max2_int min2_int max_two min_two max_three min_three max_four min_four   -- for this text's walks alone
set_option linter.unusedVariables false
set_option linter.unusedSimpArgs false



def errW : Option Int → Value
  | none => .nilIface
  | some c => .iface 0 (.int .i64 c)
theorem errW_none : errW none = .nilIface := rfl
theorem errW_some (c : Int) : errW (some c) = .iface 0 (.int .i64 c) := rfl

theorem info2 : (Try.prog.info? 2).map (fun i => (i.zero, i.size, i.bytes)) = some (some (.int .i64 0), 1, 8) := by kernel_rfl
theorem info5 : (Try.prog.info? 5).map (fun i => (i.zero, i.size, i.bytes)) = some (some (.int .u8 0), 1, 1) := by kernel_rfl
theorem info38 : (Try.prog.info? 38).map (fun i => (i.zero, i.size, i.bytes)) = some (some (.int .u64 0), 1, 8) := by kernel_rfl
-- the values' own types

end Go.Proofs.Ytalgjhmehilioaa.PAll
