-- Printed by this session's own program (wip/tools/pp.py): out of the translation. Lean checks it.
import Derived.Test.YtdkgmdikkaiemaaProg
import Derived.Below
import Derived.Deep.Draws
import Derived.Deep.AppendLies
import Derived.Maps.AppendAt
import Derived.OwnWalk
import Derived.Laws.BytesArg
import Derived.Laws.MakeOwn
import Derived.Laws.OwnMore
import Derived.Deep.OwnRows
import Derived.Tactics
import Derived.Lib.ConvBytes
import Derived.Laws.Slices
import Derived.WalkKit
import Derived.KernelRfl
import Derived.RowKit3
import Derived.Deep.LoopGhost
import Derived.Deep.QuietTactic
import Derived.BigQuiet
import Derived.WideLaws
import Derived.Deep.DeepCutAuto
import Derived.Deep.CutBlock
import Derived.Deep.RegionHeld3
import Derived.Laws.Rows
import Derived.Lib.AppendStr
import Derived.ArgAppend
import Derived.Laws.IdiomCopy
import Derived.OrdersHeld
import Derived.Laws.BitsLemmas
import Derived.RowKit
import Derived.WalkSpells
import Derived.Lib.SlBytesConst
import Derived.Laws.CopyOwn
import Derived.Deep.RegionLaw
import Derived.IntWalk
import Derived.Test.YtdkgmdikkaiemaaHelp
import Derived.Test.YtdkgmdikkaiemaaWWords
import Derived.Test.YtdkgmdikkaiemaaWLast
import Derived.Test.YtdkgmdikkaiemaaWTab
import Derived.Test.YtdkgmdikkaiemaaWFour
import Derived.Test.YtdkgmdikkaiemaaWQPut
import Derived.Test.YtdkgmdikkaiemaaWApart
import Derived.Test.YtdkgmdikkaiemaaWArr
import Derived.Test.YtdkgmdikkaiemaaWZeros
import Derived.Test.YtdkgmdikkaiemaaWFoot
import Derived.Test.YtdkgmdikkaiemaaWKept
import Derived.Test.YtdkgmdikkaiemaaWShare
import Derived.Test.YtdkgmdikkaiemaaWN
import Derived.Test.YtdkgmdikkaiemaaWFootNe
import Derived.Test.YtdkgmdikkaiemaaWAt
import Derived.Test.YtdkgmdikkaiemaaWEqStruct
import Derived.Test.YtdkgmdikkaiemaaWRepsOne
import Derived.Test.YtdkgmdikkaiemaaWInv
import Derived.Test.YtdkgmdikkaiemaaWInvWords
import Derived.Test.YtdkgmdikkaiemaaWGuard
import Derived.Test.YtdkgmdikkaiemaaWNEv
import Derived.Test.YtdkgmdikkaiemaaWMore
namespace Go.Proofs.Ytdkgmdikkaiemaa.PAll
open Go.Proofs.Ytdkgmdikkaiemaa.Help
open Go.RowKit Go.Proofs.YtdkgmdikkaiemaaW.PrintWords Go.Proofs.YtdkgmdikkaiemaaW.PrintLast Go.Proofs.YtdkgmdikkaiemaaW.PrintMore
attribute [local go_sem] max2_int min2_int max_two min_two max_three min_three max_four min_four   -- for this text's walks alone
set_option linter.unusedVariables false
set_option linter.unusedSimpArgs false



def errW : Option Int → Value
  | none => .nilIface
  | some c => .iface 0 (.int .i64 c)
theorem errW_none : errW none = .nilIface := rfl
theorem errW_some (c : Int) : errW (some c) = .iface 0 (.int .i64 c) := rfl

theorem info5 : (Try.prog.info? 5).map (fun i => (i.zero, i.size, i.bytes)) = some (some (.int .u8 0), 1, 1) := by kernel_rfl
theorem info39 : (Try.prog.info? 39).map (fun i => (i.zero, i.size, i.bytes)) = some (some (.int .u64 0), 1, 8) := by kernel_rfl
-- the values' own types

end Go.Proofs.Ytdkgmdikkaiemaa.PAll
