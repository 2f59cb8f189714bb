/-
  No cell of these rows narrows 'for every input' (looked for: loops, veiled, ifaces, maps, wideKeys, modest, calm, conditions, laid).
  DERIVED. THE GIVEN ROWS OF THIS SEAT. 4 by the template 'for every input the law returns true; each argument reads behind the call as it read before'; 0 by the template 'total and deterministic' (their statements: YtokekjbodkjjpaaTotals.lean).
  GIVEN WITH THE SEED: the statements are not yours to turn. If you find one false, say at which input.
  Laid BY PROGRAM, IN A SANDBOX (cutbox-rows.mjs): the forced cells as the released guide's own fill.sh prints them over the translation 489c5825d2bfca46… (all of the seat's roots in one cut). By AI agents, Wed Nov 11 2026. No macro, syntax, notation, axiom, sorry.
-/
import Derived.Test.YtokekjbodkjjpaaChecked
import GoSem.Claim
import GoSem.ClaimJoined
import GoSem.ClaimMapViews
import Derived.JoinedTies
import Derived.KernelRfl
namespace Go.Proofs.Ytokekjbodkjjpaa
/- THE CELL 'sum', in the pinned program and in every row, IS THE sha256 OF THE DUMP (.gsa) THAT YtokekjbodkjjpaaProg.lean LOADS. Nothing in Lean hashes anything: it is a label: what it is worth is what the hold of that sum in a sandbox is worth. -/
noncomputable def Try.pinned : Pinned := { name := "ytokekjbodkjjpaa", sum := "489c5825d2bfca4611771b5add37c6112ac34b16a7bc534cfeb4030e4fa9912f", checked := Try.checked }
namespace Rows
def none {H : Type} : Left H := { results := [], args := [] }

/-- 'norialaw5.RlePuts': WHATEVER THE INPUT: true; the input reads as it did. -/
def rlePutsSpec : ChangeSpec := { name := "rlePuts", fn := fun _ => fun
  | [d] => { results := [.lit (.bool true)], args := [d] }
  | _ => none }
def rlePutsRow : OpenClaim := { program := "ytokekjbodkjjpaa", sum := "489c5825d2bfca4611771b5add37c6112ac34b16a7bc534cfeb4030e4fa9912f", func := "noria/norialaw5.RlePuts", spec := "rlePuts", apart := false }
def RlePutsSaid : Prop := rlePutsRow.holds Try.pinned (OpenSpec.ofChange rlePutsSpec)

/-- ITS FALSE NEIGHBOUR: 'it returns false'. Refute it at one input. -/
def rlePutsWrong : ChangeSpec := { name := "rlePuts", fn := fun _ => fun
  | [d] => { results := [.lit (.bool false)], args := [d] }
  | _ => none }
def RlePutsWrongFalsely : Prop := rlePutsRow.holds Try.pinned (OpenSpec.ofChange rlePutsWrong)

/-- 'norialaw5.RleRuns': WHATEVER THE INPUT: true; the input reads as it did. -/
def rleRunsSpec : ChangeSpec := { name := "rleRuns", fn := fun _ => fun
  | [d1, d2] => { results := [.lit (.bool true)], args := [d1, d2] }
  | _ => none }
def rleRunsRow : OpenClaim := { program := "ytokekjbodkjjpaa", sum := "489c5825d2bfca4611771b5add37c6112ac34b16a7bc534cfeb4030e4fa9912f", func := "noria/norialaw5.RleRuns", spec := "rleRuns", apart := false }
def RleRunsSaid : Prop := rleRunsRow.holds Try.pinned (OpenSpec.ofChange rleRunsSpec)

/-- ITS FALSE NEIGHBOUR: 'it returns false'. Refute it at one input. -/
def rleRunsWrong : ChangeSpec := { name := "rleRuns", fn := fun _ => fun
  | [d1, d2] => { results := [.lit (.bool false)], args := [d1, d2] }
  | _ => none }
def RleRunsWrongFalsely : Prop := rleRunsRow.holds Try.pinned (OpenSpec.ofChange rleRunsWrong)

/-- 'norialaw5.RleFar': WHATEVER THE INPUT: true; the input reads as it did. -/
def rleFarSpec : ChangeSpec := { name := "rleFar", fn := fun _ => fun
  | [d1, d2, d3] => { results := [.lit (.bool true)], args := [d1, d2, d3] }
  | _ => none }
def rleFarRow : OpenClaim := { program := "ytokekjbodkjjpaa", sum := "489c5825d2bfca4611771b5add37c6112ac34b16a7bc534cfeb4030e4fa9912f", func := "noria/norialaw5.RleFar", spec := "rleFar", apart := false }
def RleFarSaid : Prop := rleFarRow.holds Try.pinned (OpenSpec.ofChange rleFarSpec)

/-- ITS FALSE NEIGHBOUR: 'it returns false'. Refute it at one input. -/
def rleFarWrong : ChangeSpec := { name := "rleFar", fn := fun _ => fun
  | [d1, d2, d3] => { results := [.lit (.bool false)], args := [d1, d2, d3] }
  | _ => none }
def RleFarWrongFalsely : Prop := rleFarRow.holds Try.pinned (OpenSpec.ofChange rleFarWrong)

/-- 'norialaw5.RleParts': WHATEVER THE INPUT: true; the input reads as it did. -/
def rlePartsSpec : ChangeSpec := { name := "rleParts", fn := fun _ => fun
  | [d1, d2] => { results := [.lit (.bool true)], args := [d1, d2] }
  | _ => none }
def rlePartsRow : OpenClaim := { program := "ytokekjbodkjjpaa", sum := "489c5825d2bfca4611771b5add37c6112ac34b16a7bc534cfeb4030e4fa9912f", func := "noria/norialaw5.RleParts", spec := "rleParts", apart := false }
def RlePartsSaid : Prop := rlePartsRow.holds Try.pinned (OpenSpec.ofChange rlePartsSpec)

/-- ITS FALSE NEIGHBOUR: 'it returns false'. Refute it at one input. -/
def rlePartsWrong : ChangeSpec := { name := "rleParts", fn := fun _ => fun
  | [d1, d2] => { results := [.lit (.bool false)], args := [d1, d2] }
  | _ => none }
def RlePartsWrongFalsely : Prop := rlePartsRow.holds Try.pinned (OpenSpec.ofChange rlePartsWrong)

/- THE SECOND FORM. 'bulk': how many values and letters a reading holds, each counted each time it is reached (what is shared counts as often as it is met; a slice's spare places count too). A statement '..UptoSaid' is the law's where the arguments, and the package variables that the reading takes, are together of bulk at most 1048576: NARROWER than '..Said'. Prove '..Said' where nothing that the law and all that it calls make is longer than what came in: it says more and counts as full. Else prove '..UptoSaid'. A law counts once. -/
mutual
def uptoBulk {H : Type} : DataW H → Nat
  | .lit (.string bytes) => bytes.length + 1
  | .lit _ => 1
  | .nil => 1
  | .ptr d => uptoBulk d + 1
  | .slice elems spare => uptoBulkAll elems + uptoBulkAll spare + 1
  | .agg parts => uptoBulkAll parts + 1
  | .iface _ d => uptoBulk d + 1
  | .map entries => uptoBulkEntries entries + 1
  | .held _ => 1
def uptoBulkAll {H : Type} : List (DataW H) → Nat
  | [] => 0
  | d :: r => uptoBulk d + uptoBulkAll r
def uptoBulkEntries {H : Type} : List (Lit × DataW H) → Nat
  | [] => 0
  | x :: r => uptoBulkEntry x + uptoBulkEntries r
def uptoBulkEntry {H : Type} : Lit × DataW H → Nat
  | (.string bytes, d) => bytes.length + uptoBulk d + 1
  | (_, d) => uptoBulk d + 1
 end
def uptoSmall : (H : Type) → List (DataW H) → Bool := fun _ ds => decide (uptoBulkAll ds ≤ 1048576)
def OpenSpec.upto (s : _root_.Go.ChangeSpec) : _root_.Go.OpenSpec := { _root_.Go.OpenSpec.ofChange s with cond := some uptoSmall }

/-- 'norialaw5.RlePuts', WHERE WHAT IT READS IS OF BULK AT MOST 1048576: true; the input reads as it did. -/
def rlePutsUptoRow : OpenClaim := { program := "ytokekjbodkjjpaa", sum := "489c5825d2bfca4611771b5add37c6112ac34b16a7bc534cfeb4030e4fa9912f", func := "noria/norialaw5.RlePuts", spec := "rlePuts", apart := false, narrowed := true }
def RlePutsUptoSaid : Prop := rlePutsUptoRow.holds Try.pinned (OpenSpec.upto rlePutsSpec)

/-- 'norialaw5.RleRuns', WHERE WHAT IT READS IS OF BULK AT MOST 1048576: true; the input reads as it did. -/
def rleRunsUptoRow : OpenClaim := { program := "ytokekjbodkjjpaa", sum := "489c5825d2bfca4611771b5add37c6112ac34b16a7bc534cfeb4030e4fa9912f", func := "noria/norialaw5.RleRuns", spec := "rleRuns", apart := false, narrowed := true }
def RleRunsUptoSaid : Prop := rleRunsUptoRow.holds Try.pinned (OpenSpec.upto rleRunsSpec)

/-- 'norialaw5.RleFar', WHERE WHAT IT READS IS OF BULK AT MOST 1048576: true; the input reads as it did. -/
def rleFarUptoRow : OpenClaim := { program := "ytokekjbodkjjpaa", sum := "489c5825d2bfca4611771b5add37c6112ac34b16a7bc534cfeb4030e4fa9912f", func := "noria/norialaw5.RleFar", spec := "rleFar", apart := false, narrowed := true }
def RleFarUptoSaid : Prop := rleFarUptoRow.holds Try.pinned (OpenSpec.upto rleFarSpec)

/-- 'norialaw5.RleParts', WHERE WHAT IT READS IS OF BULK AT MOST 1048576: true; the input reads as it did. -/
def rlePartsUptoRow : OpenClaim := { program := "ytokekjbodkjjpaa", sum := "489c5825d2bfca4611771b5add37c6112ac34b16a7bc534cfeb4030e4fa9912f", func := "noria/norialaw5.RleParts", spec := "rleParts", apart := false, narrowed := true }
def RlePartsUptoSaid : Prop := rlePartsUptoRow.holds Try.pinned (OpenSpec.upto rlePartsSpec)

end Rows
end Go.Proofs.Ytokekjbodkjjpaa
