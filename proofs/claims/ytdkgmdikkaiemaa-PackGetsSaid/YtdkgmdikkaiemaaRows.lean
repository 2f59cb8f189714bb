/-
  No cell of these rows narrows 'for every input' (looked for: loops, veiled, ifaces, maps, wideKeys, modest, calm, conditions, laid).
  DERIVED. THE GIVEN ROWS OF THIS SEAT. 5 by the template 'for every input the law returns true; each argument reads behind the call as it read before'; 0 by the template 'total and deterministic' (their statements: YtdkgmdikkaiemaaTotals.lean).
  GIVEN WITH THE SEED: the statements are not yours to turn. If you find one false, say at which input.
  Laid BY PROGRAM, IN A SANDBOX (cutbox-rows.mjs): the forced cells as the released guide's own fill.sh prints them over the translation 2566668c68b38301… (all of the seat's roots in one cut). By AI agents, Wed Nov 11 2026. No macro, syntax, notation, axiom, sorry.
-/
import Derived.Test.YtdkgmdikkaiemaaChecked
import GoSem.Claim
import GoSem.ClaimJoined
import GoSem.ClaimMapViews
import Derived.JoinedTies
import Derived.KernelRfl
namespace Go.Proofs.Ytdkgmdikkaiemaa
/- THE CELL 'sum', in the pinned program and in every row, IS THE sha256 OF THE DUMP (.gsa) THAT YtdkgmdikkaiemaaProg.lean LOADS. Nothing in Lean hashes anything: it is a label: what it is worth is what the hold of that sum in a sandbox is worth. -/
noncomputable def Try.pinned : Pinned := { name := "ytdkgmdikkaiemaa", sum := "2566668c68b3830174be3bd0593c5d77a8d88936b8c93f13be4aac534222c2cf", checked := Try.checked }
namespace Rows
def none {H : Type} : Left H := { results := [], args := [] }

/-- 'norialaw4.PackPuts': WHATEVER THE INPUT: true; the input reads as it did. -/
def packPutsSpec : ChangeSpec := { name := "packPuts", fn := fun _ => fun
  | [d1, d2] => { results := [.lit (.bool true)], args := [d1, d2] }
  | _ => none }
def packPutsRow : OpenClaim := { program := "ytdkgmdikkaiemaa", sum := "2566668c68b3830174be3bd0593c5d77a8d88936b8c93f13be4aac534222c2cf", func := "noria/norialaw4.PackPuts", spec := "packPuts", apart := false }
def PackPutsSaid : Prop := packPutsRow.holds Try.pinned (OpenSpec.ofChange packPutsSpec)

/-- ITS FALSE NEIGHBOUR: 'it returns false'. Refute it at one input. -/
def packPutsWrong : ChangeSpec := { name := "packPuts", fn := fun _ => fun
  | [d1, d2] => { results := [.lit (.bool false)], args := [d1, d2] }
  | _ => none }
def PackPutsWrongFalsely : Prop := packPutsRow.holds Try.pinned (OpenSpec.ofChange packPutsWrong)

/-- 'norialaw4.PackGets': WHATEVER THE INPUT: true; the input reads as it did. -/
def packGetsSpec : ChangeSpec := { name := "packGets", fn := fun _ => fun
  | [d1, d2, d3] => { results := [.lit (.bool true)], args := [d1, d2, d3] }
  | _ => none }
def packGetsRow : OpenClaim := { program := "ytdkgmdikkaiemaa", sum := "2566668c68b3830174be3bd0593c5d77a8d88936b8c93f13be4aac534222c2cf", func := "noria/norialaw4.PackGets", spec := "packGets", apart := false }
def PackGetsSaid : Prop := packGetsRow.holds Try.pinned (OpenSpec.ofChange packGetsSpec)

/-- ITS FALSE NEIGHBOUR: 'it returns false'. Refute it at one input. -/
def packGetsWrong : ChangeSpec := { name := "packGets", fn := fun _ => fun
  | [d1, d2, d3] => { results := [.lit (.bool false)], args := [d1, d2, d3] }
  | _ => none }
def PackGetsWrongFalsely : Prop := packGetsRow.holds Try.pinned (OpenSpec.ofChange packGetsWrong)

/-- 'norialaw4.PackParts': WHATEVER THE INPUT: true; the input reads as it did. -/
def packPartsSpec : ChangeSpec := { name := "packParts", fn := fun _ => fun
  | [d] => { results := [.lit (.bool true)], args := [d] }
  | _ => none }
def packPartsRow : OpenClaim := { program := "ytdkgmdikkaiemaa", sum := "2566668c68b3830174be3bd0593c5d77a8d88936b8c93f13be4aac534222c2cf", func := "noria/norialaw4.PackParts", spec := "packParts", apart := false }
def PackPartsSaid : Prop := packPartsRow.holds Try.pinned (OpenSpec.ofChange packPartsSpec)

/-- ITS FALSE NEIGHBOUR: 'it returns false'. Refute it at one input. -/
def packPartsWrong : ChangeSpec := { name := "packParts", fn := fun _ => fun
  | [d] => { results := [.lit (.bool false)], args := [d] }
  | _ => none }
def PackPartsWrongFalsely : Prop := packPartsRow.holds Try.pinned (OpenSpec.ofChange packPartsWrong)

/-- 'norialaw4.PackWide': WHATEVER THE INPUT: true; the input reads as it did. -/
def packWideSpec : ChangeSpec := { name := "packWide", fn := fun _ => fun
  | [d1, d2] => { results := [.lit (.bool true)], args := [d1, d2] }
  | _ => none }
def packWideRow : OpenClaim := { program := "ytdkgmdikkaiemaa", sum := "2566668c68b3830174be3bd0593c5d77a8d88936b8c93f13be4aac534222c2cf", func := "noria/norialaw4.PackWide", spec := "packWide", apart := false }
def PackWideSaid : Prop := packWideRow.holds Try.pinned (OpenSpec.ofChange packWideSpec)

/-- ITS FALSE NEIGHBOUR: 'it returns false'. Refute it at one input. -/
def packWideWrong : ChangeSpec := { name := "packWide", fn := fun _ => fun
  | [d1, d2] => { results := [.lit (.bool false)], args := [d1, d2] }
  | _ => none }
def PackWideWrongFalsely : Prop := packWideRow.holds Try.pinned (OpenSpec.ofChange packWideWrong)

/-- 'norialaw4.PackJoins': WHATEVER THE INPUT: true; the input reads as it did. -/
def packJoinsSpec : ChangeSpec := { name := "packJoins", fn := fun _ => fun
  | [d1, d2, d3] => { results := [.lit (.bool true)], args := [d1, d2, d3] }
  | _ => none }
def packJoinsRow : OpenClaim := { program := "ytdkgmdikkaiemaa", sum := "2566668c68b3830174be3bd0593c5d77a8d88936b8c93f13be4aac534222c2cf", func := "noria/norialaw4.PackJoins", spec := "packJoins", apart := false }
def PackJoinsSaid : Prop := packJoinsRow.holds Try.pinned (OpenSpec.ofChange packJoinsSpec)

/-- ITS FALSE NEIGHBOUR: 'it returns false'. Refute it at one input. -/
def packJoinsWrong : ChangeSpec := { name := "packJoins", fn := fun _ => fun
  | [d1, d2, d3] => { results := [.lit (.bool false)], args := [d1, d2, d3] }
  | _ => none }
def PackJoinsWrongFalsely : Prop := packJoinsRow.holds Try.pinned (OpenSpec.ofChange packJoinsWrong)

/- THE SECOND FORM. 'bulk': how many values and letters a reading holds, each counted each time it is reached (what is shared counts as often as it is met; a slice's spare places count too). A statement '..UptoSaid' is the law's where the arguments, and the package variables that the reading takes, are together of bulk at most 1048576: NARROWER than '..Said'. Prove '..Said' where nothing that the law and all that it calls make is longer than what came in: it says more and counts as full. Else prove '..UptoSaid'. A law counts once. -/
mutual
def uptoBulk {H : Type} : DataW H → Nat
  | .lit (.string bytes) => bytes.length + 1
  | .lit _ => 1
  | .nil => 1
  | .ptr d => uptoBulk d + 1
  | .slice elems spare => uptoBulkAll elems + uptoBulkAll spare + 1
  | .agg parts => uptoBulkAll parts + 1
  | .iface _ d => uptoBulk d + 1
  | .map entries => uptoBulkEntries entries + 1
  | .held _ => 1
def uptoBulkAll {H : Type} : List (DataW H) → Nat
  | [] => 0
  | d :: r => uptoBulk d + uptoBulkAll r
def uptoBulkEntries {H : Type} : List (Lit × DataW H) → Nat
  | [] => 0
  | x :: r => uptoBulkEntry x + uptoBulkEntries r
def uptoBulkEntry {H : Type} : Lit × DataW H → Nat
  | (.string bytes, d) => bytes.length + uptoBulk d + 1
  | (_, d) => uptoBulk d + 1
 end
def uptoSmall : (H : Type) → List (DataW H) → Bool := fun _ ds => decide (uptoBulkAll ds ≤ 1048576)
def OpenSpec.upto (s : _root_.Go.ChangeSpec) : _root_.Go.OpenSpec := { _root_.Go.OpenSpec.ofChange s with cond := some uptoSmall }

/-- 'norialaw4.PackPuts', WHERE WHAT IT READS IS OF BULK AT MOST 1048576: true; the input reads as it did. -/
def packPutsUptoRow : OpenClaim := { program := "ytdkgmdikkaiemaa", sum := "2566668c68b3830174be3bd0593c5d77a8d88936b8c93f13be4aac534222c2cf", func := "noria/norialaw4.PackPuts", spec := "packPuts", apart := false, narrowed := true }
def PackPutsUptoSaid : Prop := packPutsUptoRow.holds Try.pinned (OpenSpec.upto packPutsSpec)

/-- 'norialaw4.PackGets', WHERE WHAT IT READS IS OF BULK AT MOST 1048576: true; the input reads as it did. -/
def packGetsUptoRow : OpenClaim := { program := "ytdkgmdikkaiemaa", sum := "2566668c68b3830174be3bd0593c5d77a8d88936b8c93f13be4aac534222c2cf", func := "noria/norialaw4.PackGets", spec := "packGets", apart := false, narrowed := true }
def PackGetsUptoSaid : Prop := packGetsUptoRow.holds Try.pinned (OpenSpec.upto packGetsSpec)

/-- 'norialaw4.PackParts', WHERE WHAT IT READS IS OF BULK AT MOST 1048576: true; the input reads as it did. -/
def packPartsUptoRow : OpenClaim := { program := "ytdkgmdikkaiemaa", sum := "2566668c68b3830174be3bd0593c5d77a8d88936b8c93f13be4aac534222c2cf", func := "noria/norialaw4.PackParts", spec := "packParts", apart := false, narrowed := true }
def PackPartsUptoSaid : Prop := packPartsUptoRow.holds Try.pinned (OpenSpec.upto packPartsSpec)

/-- 'norialaw4.PackWide', WHERE WHAT IT READS IS OF BULK AT MOST 1048576: true; the input reads as it did. -/
def packWideUptoRow : OpenClaim := { program := "ytdkgmdikkaiemaa", sum := "2566668c68b3830174be3bd0593c5d77a8d88936b8c93f13be4aac534222c2cf", func := "noria/norialaw4.PackWide", spec := "packWide", apart := false, narrowed := true }
def PackWideUptoSaid : Prop := packWideUptoRow.holds Try.pinned (OpenSpec.upto packWideSpec)

/-- 'norialaw4.PackJoins', WHERE WHAT IT READS IS OF BULK AT MOST 1048576: true; the input reads as it did. -/
def packJoinsUptoRow : OpenClaim := { program := "ytdkgmdikkaiemaa", sum := "2566668c68b3830174be3bd0593c5d77a8d88936b8c93f13be4aac534222c2cf", func := "noria/norialaw4.PackJoins", spec := "packJoins", apart := false, narrowed := true }
def PackJoinsUptoSaid : Prop := packJoinsUptoRow.holds Try.pinned (OpenSpec.upto packJoinsSpec)

end Rows
end Go.Proofs.Ytdkgmdikkaiemaa
