/-
  No cell of these rows narrows 'for every input' (looked for: loops, veiled, ifaces, maps, wideKeys, modest, calm, conditions, laid).
  DERIVED. THE GIVEN ROWS OF THIS SEAT. 4 by the template 'for every input the law returns true; each argument reads behind the call as it read before'; 0 by the template 'total and deterministic' (their statements: YtalgjhmehilioaaTotals.lean).
  GIVEN WITH THE SEED: the statements are not yours to turn. If you find one false, say at which input.
  Laid BY PROGRAM, IN A SANDBOX (cutbox-rows.mjs): the forced cells as the released guide's own fill.sh prints them over the translation babf8f61a9c977aa… (all of the seat's roots in one cut). By AI agents, Wed Nov 11 2026. No macro, syntax, notation, axiom, sorry.
-/
import Derived.Test.YtalgjhmehilioaaChecked
import GoSem.Claim
import GoSem.ClaimJoined
import GoSem.ClaimMapViews
import Derived.JoinedTies
import Derived.KernelRfl
namespace Go.Proofs.Ytalgjhmehilioaa
/- THE CELL 'sum', in the pinned program and in every row, IS THE sha256 OF THE DUMP (.gsa) THAT YtalgjhmehilioaaProg.lean LOADS. Nothing in Lean hashes anything: it is a label: what it is worth is what the hold of that sum in a sandbox is worth. -/
noncomputable def Try.pinned : Pinned := { name := "ytalgjhmehilioaa", sum := "babf8f61a9c977aa1369582455473d1abf51d6fb18c5d5d49b9eea41c13d4175", checked := Try.checked }
namespace Rows
def none {H : Type} : Left H := { results := [], args := [] }

/-- 'norialaw6.DeltaPuts': WHATEVER THE INPUT: true; the input reads as it did. -/
def deltaPutsSpec : ChangeSpec := { name := "deltaPuts", fn := fun _ => fun
  | [d] => { results := [.lit (.bool true)], args := [d] }
  | _ => none }
def deltaPutsRow : OpenClaim := { program := "ytalgjhmehilioaa", sum := "babf8f61a9c977aa1369582455473d1abf51d6fb18c5d5d49b9eea41c13d4175", func := "noria/norialaw6.DeltaPuts", spec := "deltaPuts", apart := false }
def DeltaPutsSaid : Prop := deltaPutsRow.holds Try.pinned (OpenSpec.ofChange deltaPutsSpec)

/-- ITS FALSE NEIGHBOUR: 'it returns false'. Refute it at one input. -/
def deltaPutsWrong : ChangeSpec := { name := "deltaPuts", fn := fun _ => fun
  | [d] => { results := [.lit (.bool false)], args := [d] }
  | _ => none }
def DeltaPutsWrongFalsely : Prop := deltaPutsRow.holds Try.pinned (OpenSpec.ofChange deltaPutsWrong)

/-- 'norialaw6.DeltaGets': WHATEVER THE INPUT: true; the input reads as it did. -/
def deltaGetsSpec : ChangeSpec := { name := "deltaGets", fn := fun _ => fun
  | [d1, d2] => { results := [.lit (.bool true)], args := [d1, d2] }
  | _ => none }
def deltaGetsRow : OpenClaim := { program := "ytalgjhmehilioaa", sum := "babf8f61a9c977aa1369582455473d1abf51d6fb18c5d5d49b9eea41c13d4175", func := "noria/norialaw6.DeltaGets", spec := "deltaGets", apart := false }
def DeltaGetsSaid : Prop := deltaGetsRow.holds Try.pinned (OpenSpec.ofChange deltaGetsSpec)

/-- ITS FALSE NEIGHBOUR: 'it returns false'. Refute it at one input. -/
def deltaGetsWrong : ChangeSpec := { name := "deltaGets", fn := fun _ => fun
  | [d1, d2] => { results := [.lit (.bool false)], args := [d1, d2] }
  | _ => none }
def DeltaGetsWrongFalsely : Prop := deltaGetsRow.holds Try.pinned (OpenSpec.ofChange deltaGetsWrong)

/-- 'norialaw6.DeltaEven': WHATEVER THE INPUT: true; the input reads as it did. -/
def deltaEvenSpec : ChangeSpec := { name := "deltaEven", fn := fun _ => fun
  | [d1, d2, d3] => { results := [.lit (.bool true)], args := [d1, d2, d3] }
  | _ => none }
def deltaEvenRow : OpenClaim := { program := "ytalgjhmehilioaa", sum := "babf8f61a9c977aa1369582455473d1abf51d6fb18c5d5d49b9eea41c13d4175", func := "noria/norialaw6.DeltaEven", spec := "deltaEven", apart := false }
def DeltaEvenSaid : Prop := deltaEvenRow.holds Try.pinned (OpenSpec.ofChange deltaEvenSpec)

/-- ITS FALSE NEIGHBOUR: 'it returns false'. Refute it at one input. -/
def deltaEvenWrong : ChangeSpec := { name := "deltaEven", fn := fun _ => fun
  | [d1, d2, d3] => { results := [.lit (.bool false)], args := [d1, d2, d3] }
  | _ => none }
def DeltaEvenWrongFalsely : Prop := deltaEvenRow.holds Try.pinned (OpenSpec.ofChange deltaEvenWrong)

/-- 'norialaw6.DeltaShifts': WHATEVER THE INPUT: true; the input reads as it did. -/
def deltaShiftsSpec : ChangeSpec := { name := "deltaShifts", fn := fun _ => fun
  | [d1, d2] => { results := [.lit (.bool true)], args := [d1, d2] }
  | _ => none }
def deltaShiftsRow : OpenClaim := { program := "ytalgjhmehilioaa", sum := "babf8f61a9c977aa1369582455473d1abf51d6fb18c5d5d49b9eea41c13d4175", func := "noria/norialaw6.DeltaShifts", spec := "deltaShifts", apart := false }
def DeltaShiftsSaid : Prop := deltaShiftsRow.holds Try.pinned (OpenSpec.ofChange deltaShiftsSpec)

/-- ITS FALSE NEIGHBOUR: 'it returns false'. Refute it at one input. -/
def deltaShiftsWrong : ChangeSpec := { name := "deltaShifts", fn := fun _ => fun
  | [d1, d2] => { results := [.lit (.bool false)], args := [d1, d2] }
  | _ => none }
def DeltaShiftsWrongFalsely : Prop := deltaShiftsRow.holds Try.pinned (OpenSpec.ofChange deltaShiftsWrong)

/- THE SECOND FORM. 'bulk': how many values and letters a reading holds, each counted each time it is reached (what is shared counts as often as it is met; a slice's spare places count too). A statement '..UptoSaid' is the law's where the arguments, and the package variables that the reading takes, are together of bulk at most 1048576: NARROWER than '..Said'. Prove '..Said' where nothing that the law and all that it calls make is longer than what came in: it says more and counts as full. Else prove '..UptoSaid'. A law counts once. -/
mutual
def uptoBulk {H : Type} : DataW H → Nat
  | .lit (.string bytes) => bytes.length + 1
  | .lit _ => 1
  | .nil => 1
  | .ptr d => uptoBulk d + 1
  | .slice elems spare => uptoBulkAll elems + uptoBulkAll spare + 1
  | .agg parts => uptoBulkAll parts + 1
  | .iface _ d => uptoBulk d + 1
  | .map entries => uptoBulkEntries entries + 1
  | .held _ => 1
def uptoBulkAll {H : Type} : List (DataW H) → Nat
  | [] => 0
  | d :: r => uptoBulk d + uptoBulkAll r
def uptoBulkEntries {H : Type} : List (Lit × DataW H) → Nat
  | [] => 0
  | x :: r => uptoBulkEntry x + uptoBulkEntries r
def uptoBulkEntry {H : Type} : Lit × DataW H → Nat
  | (.string bytes, d) => bytes.length + uptoBulk d + 1
  | (_, d) => uptoBulk d + 1
 end
def uptoSmall : (H : Type) → List (DataW H) → Bool := fun _ ds => decide (uptoBulkAll ds ≤ 1048576)
def OpenSpec.upto (s : _root_.Go.ChangeSpec) : _root_.Go.OpenSpec := { _root_.Go.OpenSpec.ofChange s with cond := some uptoSmall }

/-- 'norialaw6.DeltaPuts', WHERE WHAT IT READS IS OF BULK AT MOST 1048576: true; the input reads as it did. -/
def deltaPutsUptoRow : OpenClaim := { program := "ytalgjhmehilioaa", sum := "babf8f61a9c977aa1369582455473d1abf51d6fb18c5d5d49b9eea41c13d4175", func := "noria/norialaw6.DeltaPuts", spec := "deltaPuts", apart := false, narrowed := true }
def DeltaPutsUptoSaid : Prop := deltaPutsUptoRow.holds Try.pinned (OpenSpec.upto deltaPutsSpec)

/-- 'norialaw6.DeltaGets', WHERE WHAT IT READS IS OF BULK AT MOST 1048576: true; the input reads as it did. -/
def deltaGetsUptoRow : OpenClaim := { program := "ytalgjhmehilioaa", sum := "babf8f61a9c977aa1369582455473d1abf51d6fb18c5d5d49b9eea41c13d4175", func := "noria/norialaw6.DeltaGets", spec := "deltaGets", apart := false, narrowed := true }
def DeltaGetsUptoSaid : Prop := deltaGetsUptoRow.holds Try.pinned (OpenSpec.upto deltaGetsSpec)

/-- 'norialaw6.DeltaEven', WHERE WHAT IT READS IS OF BULK AT MOST 1048576: true; the input reads as it did. -/
def deltaEvenUptoRow : OpenClaim := { program := "ytalgjhmehilioaa", sum := "babf8f61a9c977aa1369582455473d1abf51d6fb18c5d5d49b9eea41c13d4175", func := "noria/norialaw6.DeltaEven", spec := "deltaEven", apart := false, narrowed := true }
def DeltaEvenUptoSaid : Prop := deltaEvenUptoRow.holds Try.pinned (OpenSpec.upto deltaEvenSpec)

/-- 'norialaw6.DeltaShifts', WHERE WHAT IT READS IS OF BULK AT MOST 1048576: true; the input reads as it did. -/
def deltaShiftsUptoRow : OpenClaim := { program := "ytalgjhmehilioaa", sum := "babf8f61a9c977aa1369582455473d1abf51d6fb18c5d5d49b9eea41c13d4175", func := "noria/norialaw6.DeltaShifts", spec := "deltaShifts", apart := false, narrowed := true }
def DeltaShiftsUptoSaid : Prop := deltaShiftsUptoRow.holds Try.pinned (OpenSpec.upto deltaShiftsSpec)

end Rows
end Go.Proofs.Ytalgjhmehilioaa
