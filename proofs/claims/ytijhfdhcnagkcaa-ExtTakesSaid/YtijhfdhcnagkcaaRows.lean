/-
  No cell of these rows narrows 'for every input' (looked for: loops, veiled, ifaces, maps, wideKeys, modest, calm, conditions, laid).
  DERIVED. THE GIVEN ROWS OF THIS SEAT. 6 by the template 'for every input the law returns true; each argument reads behind the call as it read before'; 0 by the template 'total and deterministic' (their statements: YtijhfdhcnagkcaaTotals.lean).
  GIVEN WITH THE SEED: the statements are not yours to turn. If you find one false, say at which input.
  Laid BY PROGRAM, IN A SANDBOX (cutbox-rows.mjs): the forced cells as the released guide's own fill.sh prints them over the translation f5bcc2eeae823578… (all of the seat's roots in one cut). By AI agents, Wed Nov 11 2026. No macro, syntax, notation, axiom, sorry.
-/
import Derived.Test.YtijhfdhcnagkcaaChecked
import GoSem.Claim
import GoSem.ClaimJoined
import GoSem.ClaimMapViews
import Derived.JoinedTies
import Derived.KernelRfl
namespace Go.Proofs.Ytijhfdhcnagkcaa
/- THE CELL 'sum', in the pinned program and in every row, IS THE sha256 OF THE DUMP (.gsa) THAT YtijhfdhcnagkcaaProg.lean LOADS. Nothing in Lean hashes anything: it is a label: what it is worth is what the hold of that sum in a sandbox is worth. -/
noncomputable def Try.pinned : Pinned := { name := "ytijhfdhcnagkcaa", sum := "f5bcc2eeae8235786991141162af77a6723e4e71ed6a731ee6fd942325bd049b", checked := Try.checked }
namespace Rows
def none {H : Type} : Left H := { results := [], args := [] }

/-- 'norialaw14.ExtAny': WHATEVER THE INPUT: true; the input reads as it did. -/
def extAnySpec : ChangeSpec := { name := "extAny", fn := fun _ => fun
  | [d1, d2, d3] => { results := [.lit (.bool true)], args := [d1, d2, d3] }
  | _ => none }
def extAnyRow : OpenClaim := { program := "ytijhfdhcnagkcaa", sum := "f5bcc2eeae8235786991141162af77a6723e4e71ed6a731ee6fd942325bd049b", func := "noria/norialaw14.ExtAny", spec := "extAny", unfollowed := true, recurses := true, apart := false }
def ExtAnySaid : Prop := extAnyRow.holds Try.pinned (OpenSpec.ofChange extAnySpec)

/-- ITS FALSE NEIGHBOUR: 'it returns false'. Refute it at one input. -/
def extAnyWrong : ChangeSpec := { name := "extAny", fn := fun _ => fun
  | [d1, d2, d3] => { results := [.lit (.bool false)], args := [d1, d2, d3] }
  | _ => none }
def ExtAnyWrongFalsely : Prop := extAnyRow.holds Try.pinned (OpenSpec.ofChange extAnyWrong)

/-- 'norialaw14.ExtFree': WHATEVER THE INPUT: true; the input reads as it did. -/
def extFreeSpec : ChangeSpec := { name := "extFree", fn := fun _ => fun
  | [d1, d2] => { results := [.lit (.bool true)], args := [d1, d2] }
  | _ => none }
def extFreeRow : OpenClaim := { program := "ytijhfdhcnagkcaa", sum := "f5bcc2eeae8235786991141162af77a6723e4e71ed6a731ee6fd942325bd049b", func := "noria/norialaw14.ExtFree", spec := "extFree", unfollowed := true, recurses := true, apart := false }
def ExtFreeSaid : Prop := extFreeRow.holds Try.pinned (OpenSpec.ofChange extFreeSpec)

/-- ITS FALSE NEIGHBOUR: 'it returns false'. Refute it at one input. -/
def extFreeWrong : ChangeSpec := { name := "extFree", fn := fun _ => fun
  | [d1, d2] => { results := [.lit (.bool false)], args := [d1, d2] }
  | _ => none }
def ExtFreeWrongFalsely : Prop := extFreeRow.holds Try.pinned (OpenSpec.ofChange extFreeWrong)

/-- 'norialaw14.ExtTakes': WHATEVER THE INPUT: true; the input reads as it did. -/
def extTakesSpec : ChangeSpec := { name := "extTakes", fn := fun _ => fun
  | [d1, d2, d3] => { results := [.lit (.bool true)], args := [d1, d2, d3] }
  | _ => none }
def extTakesRow : OpenClaim := { program := "ytijhfdhcnagkcaa", sum := "f5bcc2eeae8235786991141162af77a6723e4e71ed6a731ee6fd942325bd049b", func := "noria/norialaw14.ExtTakes", spec := "extTakes", unfollowed := true, recurses := true, apart := false }
def ExtTakesSaid : Prop := extTakesRow.holds Try.pinned (OpenSpec.ofChange extTakesSpec)

/-- ITS FALSE NEIGHBOUR: 'it returns false'. Refute it at one input. -/
def extTakesWrong : ChangeSpec := { name := "extTakes", fn := fun _ => fun
  | [d1, d2, d3] => { results := [.lit (.bool false)], args := [d1, d2, d3] }
  | _ => none }
def ExtTakesWrongFalsely : Prop := extTakesRow.holds Try.pinned (OpenSpec.ofChange extTakesWrong)

/-- 'norialaw14.ExtBlocks': WHATEVER THE INPUT: true; the input reads as it did. -/
def extBlocksSpec : ChangeSpec := { name := "extBlocks", fn := fun _ => fun
  | [d1, d2] => { results := [.lit (.bool true)], args := [d1, d2] }
  | _ => none }
def extBlocksRow : OpenClaim := { program := "ytijhfdhcnagkcaa", sum := "f5bcc2eeae8235786991141162af77a6723e4e71ed6a731ee6fd942325bd049b", func := "noria/norialaw14.ExtBlocks", spec := "extBlocks", unfollowed := true, recurses := true, apart := false }
def ExtBlocksSaid : Prop := extBlocksRow.holds Try.pinned (OpenSpec.ofChange extBlocksSpec)

/-- ITS FALSE NEIGHBOUR: 'it returns false'. Refute it at one input. -/
def extBlocksWrong : ChangeSpec := { name := "extBlocks", fn := fun _ => fun
  | [d1, d2] => { results := [.lit (.bool false)], args := [d1, d2] }
  | _ => none }
def ExtBlocksWrongFalsely : Prop := extBlocksRow.holds Try.pinned (OpenSpec.ofChange extBlocksWrong)

/-- 'norialaw14.ExtGives': WHATEVER THE INPUT: true; the input reads as it did. -/
def extGivesSpec : ChangeSpec := { name := "extGives", fn := fun _ => fun
  | [d] => { results := [.lit (.bool true)], args := [d] }
  | _ => none }
def extGivesRow : OpenClaim := { program := "ytijhfdhcnagkcaa", sum := "f5bcc2eeae8235786991141162af77a6723e4e71ed6a731ee6fd942325bd049b", func := "noria/norialaw14.ExtGives", spec := "extGives", unfollowed := true, recurses := true, apart := false }
def ExtGivesSaid : Prop := extGivesRow.holds Try.pinned (OpenSpec.ofChange extGivesSpec)

/-- ITS FALSE NEIGHBOUR: 'it returns false'. Refute it at one input. -/
def extGivesWrong : ChangeSpec := { name := "extGives", fn := fun _ => fun
  | [d] => { results := [.lit (.bool false)], args := [d] }
  | _ => none }
def ExtGivesWrongFalsely : Prop := extGivesRow.holds Try.pinned (OpenSpec.ofChange extGivesWrong)

/-- 'norialaw14.ExtOverlaps': WHATEVER THE INPUT: true; the input reads as it did. -/
def extOverlapsSpec : ChangeSpec := { name := "extOverlaps", fn := fun _ => fun
  | [d1, d2, d3, d4] => { results := [.lit (.bool true)], args := [d1, d2, d3, d4] }
  | _ => none }
def extOverlapsRow : OpenClaim := { program := "ytijhfdhcnagkcaa", sum := "f5bcc2eeae8235786991141162af77a6723e4e71ed6a731ee6fd942325bd049b", func := "noria/norialaw14.ExtOverlaps", spec := "extOverlaps", unfollowed := true, recurses := true, apart := false }
def ExtOverlapsSaid : Prop := extOverlapsRow.holds Try.pinned (OpenSpec.ofChange extOverlapsSpec)

/-- ITS FALSE NEIGHBOUR: 'it returns false'. Refute it at one input. -/
def extOverlapsWrong : ChangeSpec := { name := "extOverlaps", fn := fun _ => fun
  | [d1, d2, d3, d4] => { results := [.lit (.bool false)], args := [d1, d2, d3, d4] }
  | _ => none }
def ExtOverlapsWrongFalsely : Prop := extOverlapsRow.holds Try.pinned (OpenSpec.ofChange extOverlapsWrong)

/- THE SECOND FORM. 'bulk': how many values and letters a reading holds, each counted each time it is reached (what is shared counts as often as it is met; a slice's spare places count too). A statement '..UptoSaid' is the law's where the arguments, and the package variables that the reading takes, are together of bulk at most 1048576: NARROWER than '..Said'. Prove '..Said' where nothing that the law and all that it calls make is longer than what came in: it says more and counts as full. Else prove '..UptoSaid'. A law counts once. -/
mutual
def uptoBulk {H : Type} : DataW H → Nat
  | .lit (.string bytes) => bytes.length + 1
  | .lit _ => 1
  | .nil => 1
  | .ptr d => uptoBulk d + 1
  | .slice elems spare => uptoBulkAll elems + uptoBulkAll spare + 1
  | .agg parts => uptoBulkAll parts + 1
  | .iface _ d => uptoBulk d + 1
  | .map entries => uptoBulkEntries entries + 1
  | .held _ => 1
def uptoBulkAll {H : Type} : List (DataW H) → Nat
  | [] => 0
  | d :: r => uptoBulk d + uptoBulkAll r
def uptoBulkEntries {H : Type} : List (Lit × DataW H) → Nat
  | [] => 0
  | x :: r => uptoBulkEntry x + uptoBulkEntries r
def uptoBulkEntry {H : Type} : Lit × DataW H → Nat
  | (.string bytes, d) => bytes.length + uptoBulk d + 1
  | (_, d) => uptoBulk d + 1
 end
def uptoSmall : (H : Type) → List (DataW H) → Bool := fun _ ds => decide (uptoBulkAll ds ≤ 1048576)
def OpenSpec.upto (s : _root_.Go.ChangeSpec) : _root_.Go.OpenSpec := { _root_.Go.OpenSpec.ofChange s with cond := some uptoSmall }

/-- 'norialaw14.ExtAny', WHERE WHAT IT READS IS OF BULK AT MOST 1048576: true; the input reads as it did. -/
def extAnyUptoRow : OpenClaim := { program := "ytijhfdhcnagkcaa", sum := "f5bcc2eeae8235786991141162af77a6723e4e71ed6a731ee6fd942325bd049b", func := "noria/norialaw14.ExtAny", spec := "extAny", unfollowed := true, recurses := true, apart := false, narrowed := true }
def ExtAnyUptoSaid : Prop := extAnyUptoRow.holds Try.pinned (OpenSpec.upto extAnySpec)

/-- 'norialaw14.ExtFree', WHERE WHAT IT READS IS OF BULK AT MOST 1048576: true; the input reads as it did. -/
def extFreeUptoRow : OpenClaim := { program := "ytijhfdhcnagkcaa", sum := "f5bcc2eeae8235786991141162af77a6723e4e71ed6a731ee6fd942325bd049b", func := "noria/norialaw14.ExtFree", spec := "extFree", unfollowed := true, recurses := true, apart := false, narrowed := true }
def ExtFreeUptoSaid : Prop := extFreeUptoRow.holds Try.pinned (OpenSpec.upto extFreeSpec)

/-- 'norialaw14.ExtTakes', WHERE WHAT IT READS IS OF BULK AT MOST 1048576: true; the input reads as it did. -/
def extTakesUptoRow : OpenClaim := { program := "ytijhfdhcnagkcaa", sum := "f5bcc2eeae8235786991141162af77a6723e4e71ed6a731ee6fd942325bd049b", func := "noria/norialaw14.ExtTakes", spec := "extTakes", unfollowed := true, recurses := true, apart := false, narrowed := true }
def ExtTakesUptoSaid : Prop := extTakesUptoRow.holds Try.pinned (OpenSpec.upto extTakesSpec)

/-- 'norialaw14.ExtBlocks', WHERE WHAT IT READS IS OF BULK AT MOST 1048576: true; the input reads as it did. -/
def extBlocksUptoRow : OpenClaim := { program := "ytijhfdhcnagkcaa", sum := "f5bcc2eeae8235786991141162af77a6723e4e71ed6a731ee6fd942325bd049b", func := "noria/norialaw14.ExtBlocks", spec := "extBlocks", unfollowed := true, recurses := true, apart := false, narrowed := true }
def ExtBlocksUptoSaid : Prop := extBlocksUptoRow.holds Try.pinned (OpenSpec.upto extBlocksSpec)

/-- 'norialaw14.ExtGives', WHERE WHAT IT READS IS OF BULK AT MOST 1048576: true; the input reads as it did. -/
def extGivesUptoRow : OpenClaim := { program := "ytijhfdhcnagkcaa", sum := "f5bcc2eeae8235786991141162af77a6723e4e71ed6a731ee6fd942325bd049b", func := "noria/norialaw14.ExtGives", spec := "extGives", unfollowed := true, recurses := true, apart := false, narrowed := true }
def ExtGivesUptoSaid : Prop := extGivesUptoRow.holds Try.pinned (OpenSpec.upto extGivesSpec)

/-- 'norialaw14.ExtOverlaps', WHERE WHAT IT READS IS OF BULK AT MOST 1048576: true; the input reads as it did. -/
def extOverlapsUptoRow : OpenClaim := { program := "ytijhfdhcnagkcaa", sum := "f5bcc2eeae8235786991141162af77a6723e4e71ed6a731ee6fd942325bd049b", func := "noria/norialaw14.ExtOverlaps", spec := "extOverlaps", unfollowed := true, recurses := true, apart := false, narrowed := true }
def ExtOverlapsUptoSaid : Prop := extOverlapsUptoRow.holds Try.pinned (OpenSpec.upto extOverlapsSpec)

end Rows
end Go.Proofs.Ytijhfdhcnagkcaa
