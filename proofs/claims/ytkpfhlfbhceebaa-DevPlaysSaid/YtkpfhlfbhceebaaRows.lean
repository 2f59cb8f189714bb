/-
  No cell of these rows narrows 'for every input' (looked for: loops, veiled, ifaces, maps, wideKeys, modest, calm, conditions, laid).
  DERIVED. THE GIVEN ROWS OF THIS SEAT. 5 by the template 'for every input the law returns true; each argument reads behind the call as it read before'; 0 by the template 'total and deterministic' (their statements: YtkpfhlfbhceebaaTotals.lean).
  GIVEN WITH THE SEED: the statements are not yours to turn. If you find one false, say at which input.
  Laid BY PROGRAM, IN A SANDBOX (cutbox-rows.mjs): the forced cells as the released guide's own fill.sh prints them over the translation dc093f7e06d5c13b… (all of the seat's roots in one cut). By AI agents, Wed Nov 11 2026. No macro, syntax, notation, axiom, sorry.
-/
import Derived.Test.YtkpfhlfbhceebaaChecked
import GoSem.Claim
import GoSem.ClaimJoined
import GoSem.ClaimMapViews
import Derived.JoinedTies
import Derived.KernelRfl
namespace Go.Proofs.Ytkpfhlfbhceebaa
/- THE CELL 'sum', in the pinned program and in every row, IS THE sha256 OF THE DUMP (.gsa) THAT YtkpfhlfbhceebaaProg.lean LOADS. Nothing in Lean hashes anything: it is a label: what it is worth is what the hold of that sum in a sandbox is worth. -/
noncomputable def Try.pinned : Pinned := { name := "ytkpfhlfbhceebaa", sum := "dc093f7e06d5c13b5f075aeaf8be854a4a105d5381313c86e60cf2647b7913de", checked := Try.checked }
namespace Rows
def none {H : Type} : Left H := { results := [], args := [] }

/-- 'norialaw12.DevPlays': WHATEVER THE INPUT: true; the input reads as it did. -/
def devPlaysSpec : ChangeSpec := { name := "devPlays", fn := fun _ => fun
  | [d1, d2] => { results := [.lit (.bool true)], args := [d1, d2] }
  | _ => none }
def devPlaysRow : OpenClaim := { program := "ytkpfhlfbhceebaa", sum := "dc093f7e06d5c13b5f075aeaf8be854a4a105d5381313c86e60cf2647b7913de", func := "noria/norialaw12.DevPlays", spec := "devPlays", unfollowed := true, recurses := true, apart := false }
def DevPlaysSaid : Prop := devPlaysRow.holds Try.pinned (OpenSpec.ofChange devPlaysSpec)

/-- ITS FALSE NEIGHBOUR: 'it returns false'. Refute it at one input. -/
def devPlaysWrong : ChangeSpec := { name := "devPlays", fn := fun _ => fun
  | [d1, d2] => { results := [.lit (.bool false)], args := [d1, d2] }
  | _ => none }
def DevPlaysWrongFalsely : Prop := devPlaysRow.holds Try.pinned (OpenSpec.ofChange devPlaysWrong)

/-- 'norialaw12.DevOf': WHATEVER THE INPUT: true; the input reads as it did. -/
def devOfSpec : ChangeSpec := { name := "devOf", fn := fun _ => fun
  | [d1, d2] => { results := [.lit (.bool true)], args := [d1, d2] }
  | _ => none }
def devOfRow : OpenClaim := { program := "ytkpfhlfbhceebaa", sum := "dc093f7e06d5c13b5f075aeaf8be854a4a105d5381313c86e60cf2647b7913de", func := "noria/norialaw12.DevOf", spec := "devOf", unfollowed := true, recurses := true, apart := false }
def DevOfSaid : Prop := devOfRow.holds Try.pinned (OpenSpec.ofChange devOfSpec)

/-- ITS FALSE NEIGHBOUR: 'it returns false'. Refute it at one input. -/
def devOfWrong : ChangeSpec := { name := "devOf", fn := fun _ => fun
  | [d1, d2] => { results := [.lit (.bool false)], args := [d1, d2] }
  | _ => none }
def DevOfWrongFalsely : Prop := devOfRow.holds Try.pinned (OpenSpec.ofChange devOfWrong)

/-- 'norialaw12.DevKeeps': WHATEVER THE INPUT: true; the input reads as it did. -/
def devKeepsSpec : ChangeSpec := { name := "devKeeps", fn := fun _ => fun
  | [d1, d2, d3] => { results := [.lit (.bool true)], args := [d1, d2, d3] }
  | _ => none }
def devKeepsRow : OpenClaim := { program := "ytkpfhlfbhceebaa", sum := "dc093f7e06d5c13b5f075aeaf8be854a4a105d5381313c86e60cf2647b7913de", func := "noria/norialaw12.DevKeeps", spec := "devKeeps", unfollowed := true, recurses := true, apart := false }
def DevKeepsSaid : Prop := devKeepsRow.holds Try.pinned (OpenSpec.ofChange devKeepsSpec)

/-- ITS FALSE NEIGHBOUR: 'it returns false'. Refute it at one input. -/
def devKeepsWrong : ChangeSpec := { name := "devKeeps", fn := fun _ => fun
  | [d1, d2, d3] => { results := [.lit (.bool false)], args := [d1, d2, d3] }
  | _ => none }
def DevKeepsWrongFalsely : Prop := devKeepsRow.holds Try.pinned (OpenSpec.ofChange devKeepsWrong)

/-- 'norialaw12.DevTwins': WHATEVER THE INPUT: true; the input reads as it did. -/
def devTwinsSpec : ChangeSpec := { name := "devTwins", fn := fun _ => fun
  | [d1, d2, d3] => { results := [.lit (.bool true)], args := [d1, d2, d3] }
  | _ => none }
def devTwinsRow : OpenClaim := { program := "ytkpfhlfbhceebaa", sum := "dc093f7e06d5c13b5f075aeaf8be854a4a105d5381313c86e60cf2647b7913de", func := "noria/norialaw12.DevTwins", spec := "devTwins", unfollowed := true, recurses := true, apart := false }
def DevTwinsSaid : Prop := devTwinsRow.holds Try.pinned (OpenSpec.ofChange devTwinsSpec)

/-- ITS FALSE NEIGHBOUR: 'it returns false'. Refute it at one input. -/
def devTwinsWrong : ChangeSpec := { name := "devTwins", fn := fun _ => fun
  | [d1, d2, d3] => { results := [.lit (.bool false)], args := [d1, d2, d3] }
  | _ => none }
def DevTwinsWrongFalsely : Prop := devTwinsRow.holds Try.pinned (OpenSpec.ofChange devTwinsWrong)

/-- 'norialaw12.DevSizes': WHATEVER THE INPUT: true; the input reads as it did. -/
def devSizesSpec : ChangeSpec := { name := "devSizes", fn := fun _ => fun
  | [d1, d2] => { results := [.lit (.bool true)], args := [d1, d2] }
  | _ => none }
def devSizesRow : OpenClaim := { program := "ytkpfhlfbhceebaa", sum := "dc093f7e06d5c13b5f075aeaf8be854a4a105d5381313c86e60cf2647b7913de", func := "noria/norialaw12.DevSizes", spec := "devSizes", unfollowed := true, recurses := true, apart := false }
def DevSizesSaid : Prop := devSizesRow.holds Try.pinned (OpenSpec.ofChange devSizesSpec)

/-- ITS FALSE NEIGHBOUR: 'it returns false'. Refute it at one input. -/
def devSizesWrong : ChangeSpec := { name := "devSizes", fn := fun _ => fun
  | [d1, d2] => { results := [.lit (.bool false)], args := [d1, d2] }
  | _ => none }
def DevSizesWrongFalsely : Prop := devSizesRow.holds Try.pinned (OpenSpec.ofChange devSizesWrong)

/- THE SECOND FORM. 'bulk': how many values and letters a reading holds, each counted each time it is reached (what is shared counts as often as it is met; a slice's spare places count too). A statement '..UptoSaid' is the law's where the arguments, and the package variables that the reading takes, are together of bulk at most 1048576: NARROWER than '..Said'. Prove '..Said' where nothing that the law and all that it calls make is longer than what came in: it says more and counts as full. Else prove '..UptoSaid'. A law counts once. -/
mutual
def uptoBulk {H : Type} : DataW H → Nat
  | .lit (.string bytes) => bytes.length + 1
  | .lit _ => 1
  | .nil => 1
  | .ptr d => uptoBulk d + 1
  | .slice elems spare => uptoBulkAll elems + uptoBulkAll spare + 1
  | .agg parts => uptoBulkAll parts + 1
  | .iface _ d => uptoBulk d + 1
  | .map entries => uptoBulkEntries entries + 1
  | .held _ => 1
def uptoBulkAll {H : Type} : List (DataW H) → Nat
  | [] => 0
  | d :: r => uptoBulk d + uptoBulkAll r
def uptoBulkEntries {H : Type} : List (Lit × DataW H) → Nat
  | [] => 0
  | x :: r => uptoBulkEntry x + uptoBulkEntries r
def uptoBulkEntry {H : Type} : Lit × DataW H → Nat
  | (.string bytes, d) => bytes.length + uptoBulk d + 1
  | (_, d) => uptoBulk d + 1
 end
def uptoSmall : (H : Type) → List (DataW H) → Bool := fun _ ds => decide (uptoBulkAll ds ≤ 1048576)
def OpenSpec.upto (s : _root_.Go.ChangeSpec) : _root_.Go.OpenSpec := { _root_.Go.OpenSpec.ofChange s with cond := some uptoSmall }

/-- 'norialaw12.DevPlays', WHERE WHAT IT READS IS OF BULK AT MOST 1048576: true; the input reads as it did. -/
def devPlaysUptoRow : OpenClaim := { program := "ytkpfhlfbhceebaa", sum := "dc093f7e06d5c13b5f075aeaf8be854a4a105d5381313c86e60cf2647b7913de", func := "noria/norialaw12.DevPlays", spec := "devPlays", unfollowed := true, recurses := true, apart := false, narrowed := true }
def DevPlaysUptoSaid : Prop := devPlaysUptoRow.holds Try.pinned (OpenSpec.upto devPlaysSpec)

/-- 'norialaw12.DevOf', WHERE WHAT IT READS IS OF BULK AT MOST 1048576: true; the input reads as it did. -/
def devOfUptoRow : OpenClaim := { program := "ytkpfhlfbhceebaa", sum := "dc093f7e06d5c13b5f075aeaf8be854a4a105d5381313c86e60cf2647b7913de", func := "noria/norialaw12.DevOf", spec := "devOf", unfollowed := true, recurses := true, apart := false, narrowed := true }
def DevOfUptoSaid : Prop := devOfUptoRow.holds Try.pinned (OpenSpec.upto devOfSpec)

/-- 'norialaw12.DevKeeps', WHERE WHAT IT READS IS OF BULK AT MOST 1048576: true; the input reads as it did. -/
def devKeepsUptoRow : OpenClaim := { program := "ytkpfhlfbhceebaa", sum := "dc093f7e06d5c13b5f075aeaf8be854a4a105d5381313c86e60cf2647b7913de", func := "noria/norialaw12.DevKeeps", spec := "devKeeps", unfollowed := true, recurses := true, apart := false, narrowed := true }
def DevKeepsUptoSaid : Prop := devKeepsUptoRow.holds Try.pinned (OpenSpec.upto devKeepsSpec)

/-- 'norialaw12.DevTwins', WHERE WHAT IT READS IS OF BULK AT MOST 1048576: true; the input reads as it did. -/
def devTwinsUptoRow : OpenClaim := { program := "ytkpfhlfbhceebaa", sum := "dc093f7e06d5c13b5f075aeaf8be854a4a105d5381313c86e60cf2647b7913de", func := "noria/norialaw12.DevTwins", spec := "devTwins", unfollowed := true, recurses := true, apart := false, narrowed := true }
def DevTwinsUptoSaid : Prop := devTwinsUptoRow.holds Try.pinned (OpenSpec.upto devTwinsSpec)

/-- 'norialaw12.DevSizes', WHERE WHAT IT READS IS OF BULK AT MOST 1048576: true; the input reads as it did. -/
def devSizesUptoRow : OpenClaim := { program := "ytkpfhlfbhceebaa", sum := "dc093f7e06d5c13b5f075aeaf8be854a4a105d5381313c86e60cf2647b7913de", func := "noria/norialaw12.DevSizes", spec := "devSizes", unfollowed := true, recurses := true, apart := false, narrowed := true }
def DevSizesUptoSaid : Prop := devSizesUptoRow.holds Try.pinned (OpenSpec.upto devSizesSpec)

end Rows
end Go.Proofs.Ytkpfhlfbhceebaa
