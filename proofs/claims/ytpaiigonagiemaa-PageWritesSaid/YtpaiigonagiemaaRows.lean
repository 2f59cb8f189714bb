/-
  No cell of these rows narrows 'for every input' (looked for: loops, veiled, ifaces, maps, wideKeys, modest, calm, conditions, laid).
  DERIVED. THE GIVEN ROWS OF THIS SEAT. 6 by the template 'for every input the law returns true; each argument reads behind the call as it read before'; 0 by the template 'total and deterministic' (their statements: YtpaiigonagiemaaTotals.lean).
  GIVEN WITH THE SEED: the statements are not yours to turn. If you find one false, say at which input.
  Laid BY PROGRAM, IN A SANDBOX (cutbox-rows.mjs): the forced cells as the released guide's own fill.sh prints them over the translation dd582168531b2512… (all of the seat's roots in one cut). By AI agents, Wed Nov 11 2026. No macro, syntax, notation, axiom, sorry.
-/
import Derived.Test.YtpaiigonagiemaaChecked
import GoSem.Claim
import GoSem.ClaimJoined
import GoSem.ClaimMapViews
import Derived.JoinedTies
import Derived.KernelRfl
namespace Go.Proofs.Ytpaiigonagiemaa
/- THE CELL 'sum', in the pinned program and in every row, IS THE sha256 OF THE DUMP (.gsa) THAT YtpaiigonagiemaaProg.lean LOADS. Nothing in Lean hashes anything: it is a label: what it is worth is what the hold of that sum in a sandbox is worth. -/
noncomputable def Try.pinned : Pinned := { name := "ytpaiigonagiemaa", sum := "dd582168531b251279308c4178c8c07170121ad8a77f9529219ec3a56f74494b", checked := Try.checked }
namespace Rows
def none {H : Type} : Left H := { results := [], args := [] }

/-- 'norialaw13.PageWraps': WHATEVER THE INPUT: true; the input reads as it did. -/
def pageWrapsSpec : ChangeSpec := { name := "pageWraps", fn := fun _ => fun
  | [d] => { results := [.lit (.bool true)], args := [d] }
  | _ => none }
def pageWrapsRow : OpenClaim := { program := "ytpaiigonagiemaa", sum := "dd582168531b251279308c4178c8c07170121ad8a77f9529219ec3a56f74494b", func := "noria/norialaw13.PageWraps", spec := "pageWraps", unfollowed := true, recurses := true, apart := false }
def PageWrapsSaid : Prop := pageWrapsRow.holds Try.pinned (OpenSpec.ofChange pageWrapsSpec)

/-- ITS FALSE NEIGHBOUR: 'it returns false'. Refute it at one input. -/
def pageWrapsWrong : ChangeSpec := { name := "pageWraps", fn := fun _ => fun
  | [d] => { results := [.lit (.bool false)], args := [d] }
  | _ => none }
def PageWrapsWrongFalsely : Prop := pageWrapsRow.holds Try.pinned (OpenSpec.ofChange pageWrapsWrong)

/-- 'norialaw13.PageOpens': WHATEVER THE INPUT: true; the input reads as it did. -/
def pageOpensSpec : ChangeSpec := { name := "pageOpens", fn := fun _ => fun
  | [d] => { results := [.lit (.bool true)], args := [d] }
  | _ => none }
def pageOpensRow : OpenClaim := { program := "ytpaiigonagiemaa", sum := "dd582168531b251279308c4178c8c07170121ad8a77f9529219ec3a56f74494b", func := "noria/norialaw13.PageOpens", spec := "pageOpens", unfollowed := true, recurses := true, apart := false }
def PageOpensSaid : Prop := pageOpensRow.holds Try.pinned (OpenSpec.ofChange pageOpensSpec)

/-- ITS FALSE NEIGHBOUR: 'it returns false'. Refute it at one input. -/
def pageOpensWrong : ChangeSpec := { name := "pageOpens", fn := fun _ => fun
  | [d] => { results := [.lit (.bool false)], args := [d] }
  | _ => none }
def PageOpensWrongFalsely : Prop := pageOpensRow.holds Try.pinned (OpenSpec.ofChange pageOpensWrong)

/-- 'norialaw13.PageTurned': WHATEVER THE INPUT: true; the input reads as it did. -/
def pageTurnedSpec : ChangeSpec := { name := "pageTurned", fn := fun _ => fun
  | [d1, d2] => { results := [.lit (.bool true)], args := [d1, d2] }
  | _ => none }
def pageTurnedRow : OpenClaim := { program := "ytpaiigonagiemaa", sum := "dd582168531b251279308c4178c8c07170121ad8a77f9529219ec3a56f74494b", func := "noria/norialaw13.PageTurned", spec := "pageTurned", unfollowed := true, recurses := true, apart := false }
def PageTurnedSaid : Prop := pageTurnedRow.holds Try.pinned (OpenSpec.ofChange pageTurnedSpec)

/-- ITS FALSE NEIGHBOUR: 'it returns false'. Refute it at one input. -/
def pageTurnedWrong : ChangeSpec := { name := "pageTurned", fn := fun _ => fun
  | [d1, d2] => { results := [.lit (.bool false)], args := [d1, d2] }
  | _ => none }
def PageTurnedWrongFalsely : Prop := pageTurnedRow.holds Try.pinned (OpenSpec.ofChange pageTurnedWrong)

/-- 'norialaw13.PageSizes': WHATEVER THE INPUT: true; the input reads as it did. -/
def pageSizesSpec : ChangeSpec := { name := "pageSizes", fn := fun _ => fun
  | [d] => { results := [.lit (.bool true)], args := [d] }
  | _ => none }
def pageSizesRow : OpenClaim := { program := "ytpaiigonagiemaa", sum := "dd582168531b251279308c4178c8c07170121ad8a77f9529219ec3a56f74494b", func := "noria/norialaw13.PageSizes", spec := "pageSizes", unfollowed := true, recurses := true, apart := false }
def PageSizesSaid : Prop := pageSizesRow.holds Try.pinned (OpenSpec.ofChange pageSizesSpec)

/-- ITS FALSE NEIGHBOUR: 'it returns false'. Refute it at one input. -/
def pageSizesWrong : ChangeSpec := { name := "pageSizes", fn := fun _ => fun
  | [d] => { results := [.lit (.bool false)], args := [d] }
  | _ => none }
def PageSizesWrongFalsely : Prop := pageSizesRow.holds Try.pinned (OpenSpec.ofChange pageSizesWrong)

/-- 'norialaw13.PageApart': WHATEVER THE INPUT: true; the input reads as it did. -/
def pageApartSpec : ChangeSpec := { name := "pageApart", fn := fun _ => fun
  | [d1, d2, d3, d4] => { results := [.lit (.bool true)], args := [d1, d2, d3, d4] }
  | _ => none }
def pageApartRow : OpenClaim := { program := "ytpaiigonagiemaa", sum := "dd582168531b251279308c4178c8c07170121ad8a77f9529219ec3a56f74494b", func := "noria/norialaw13.PageApart", spec := "pageApart", unfollowed := true, recurses := true, apart := false }
def PageApartSaid : Prop := pageApartRow.holds Try.pinned (OpenSpec.ofChange pageApartSpec)

/-- ITS FALSE NEIGHBOUR: 'it returns false'. Refute it at one input. -/
def pageApartWrong : ChangeSpec := { name := "pageApart", fn := fun _ => fun
  | [d1, d2, d3, d4] => { results := [.lit (.bool false)], args := [d1, d2, d3, d4] }
  | _ => none }
def PageApartWrongFalsely : Prop := pageApartRow.holds Try.pinned (OpenSpec.ofChange pageApartWrong)

/-- 'norialaw13.PageWrites': WHATEVER THE INPUT: true; the input reads as it did. -/
def pageWritesSpec : ChangeSpec := { name := "pageWrites", fn := fun _ => fun
  | [d1, d2, d3, d4, d5] => { results := [.lit (.bool true)], args := [d1, d2, d3, d4, d5] }
  | _ => none }
def pageWritesRow : OpenClaim := { program := "ytpaiigonagiemaa", sum := "dd582168531b251279308c4178c8c07170121ad8a77f9529219ec3a56f74494b", func := "noria/norialaw13.PageWrites", spec := "pageWrites", unfollowed := true, recurses := true, apart := false }
def PageWritesSaid : Prop := pageWritesRow.holds Try.pinned (OpenSpec.ofChange pageWritesSpec)

/-- ITS FALSE NEIGHBOUR: 'it returns false'. Refute it at one input. -/
def pageWritesWrong : ChangeSpec := { name := "pageWrites", fn := fun _ => fun
  | [d1, d2, d3, d4, d5] => { results := [.lit (.bool false)], args := [d1, d2, d3, d4, d5] }
  | _ => none }
def PageWritesWrongFalsely : Prop := pageWritesRow.holds Try.pinned (OpenSpec.ofChange pageWritesWrong)

/- THE SECOND FORM. 'bulk': how many values and letters a reading holds, each counted each time it is reached (what is shared counts as often as it is met; a slice's spare places count too). A statement '..UptoSaid' is the law's where the arguments, and the package variables that the reading takes, are together of bulk at most 1048576: NARROWER than '..Said'. Prove '..Said' where nothing that the law and all that it calls make is longer than what came in: it says more and counts as full. Else prove '..UptoSaid'. A law counts once. -/
mutual
def uptoBulk {H : Type} : DataW H → Nat
  | .lit (.string bytes) => bytes.length + 1
  | .lit _ => 1
  | .nil => 1
  | .ptr d => uptoBulk d + 1
  | .slice elems spare => uptoBulkAll elems + uptoBulkAll spare + 1
  | .agg parts => uptoBulkAll parts + 1
  | .iface _ d => uptoBulk d + 1
  | .map entries => uptoBulkEntries entries + 1
  | .held _ => 1
def uptoBulkAll {H : Type} : List (DataW H) → Nat
  | [] => 0
  | d :: r => uptoBulk d + uptoBulkAll r
def uptoBulkEntries {H : Type} : List (Lit × DataW H) → Nat
  | [] => 0
  | x :: r => uptoBulkEntry x + uptoBulkEntries r
def uptoBulkEntry {H : Type} : Lit × DataW H → Nat
  | (.string bytes, d) => bytes.length + uptoBulk d + 1
  | (_, d) => uptoBulk d + 1
 end
def uptoSmall : (H : Type) → List (DataW H) → Bool := fun _ ds => decide (uptoBulkAll ds ≤ 1048576)
def OpenSpec.upto (s : _root_.Go.ChangeSpec) : _root_.Go.OpenSpec := { _root_.Go.OpenSpec.ofChange s with cond := some uptoSmall }

/-- 'norialaw13.PageWraps', WHERE WHAT IT READS IS OF BULK AT MOST 1048576: true; the input reads as it did. -/
def pageWrapsUptoRow : OpenClaim := { program := "ytpaiigonagiemaa", sum := "dd582168531b251279308c4178c8c07170121ad8a77f9529219ec3a56f74494b", func := "noria/norialaw13.PageWraps", spec := "pageWraps", unfollowed := true, recurses := true, apart := false, narrowed := true }
def PageWrapsUptoSaid : Prop := pageWrapsUptoRow.holds Try.pinned (OpenSpec.upto pageWrapsSpec)

/-- 'norialaw13.PageOpens', WHERE WHAT IT READS IS OF BULK AT MOST 1048576: true; the input reads as it did. -/
def pageOpensUptoRow : OpenClaim := { program := "ytpaiigonagiemaa", sum := "dd582168531b251279308c4178c8c07170121ad8a77f9529219ec3a56f74494b", func := "noria/norialaw13.PageOpens", spec := "pageOpens", unfollowed := true, recurses := true, apart := false, narrowed := true }
def PageOpensUptoSaid : Prop := pageOpensUptoRow.holds Try.pinned (OpenSpec.upto pageOpensSpec)

/-- 'norialaw13.PageTurned', WHERE WHAT IT READS IS OF BULK AT MOST 1048576: true; the input reads as it did. -/
def pageTurnedUptoRow : OpenClaim := { program := "ytpaiigonagiemaa", sum := "dd582168531b251279308c4178c8c07170121ad8a77f9529219ec3a56f74494b", func := "noria/norialaw13.PageTurned", spec := "pageTurned", unfollowed := true, recurses := true, apart := false, narrowed := true }
def PageTurnedUptoSaid : Prop := pageTurnedUptoRow.holds Try.pinned (OpenSpec.upto pageTurnedSpec)

/-- 'norialaw13.PageSizes', WHERE WHAT IT READS IS OF BULK AT MOST 1048576: true; the input reads as it did. -/
def pageSizesUptoRow : OpenClaim := { program := "ytpaiigonagiemaa", sum := "dd582168531b251279308c4178c8c07170121ad8a77f9529219ec3a56f74494b", func := "noria/norialaw13.PageSizes", spec := "pageSizes", unfollowed := true, recurses := true, apart := false, narrowed := true }
def PageSizesUptoSaid : Prop := pageSizesUptoRow.holds Try.pinned (OpenSpec.upto pageSizesSpec)

/-- 'norialaw13.PageApart', WHERE WHAT IT READS IS OF BULK AT MOST 1048576: true; the input reads as it did. -/
def pageApartUptoRow : OpenClaim := { program := "ytpaiigonagiemaa", sum := "dd582168531b251279308c4178c8c07170121ad8a77f9529219ec3a56f74494b", func := "noria/norialaw13.PageApart", spec := "pageApart", unfollowed := true, recurses := true, apart := false, narrowed := true }
def PageApartUptoSaid : Prop := pageApartUptoRow.holds Try.pinned (OpenSpec.upto pageApartSpec)

/-- 'norialaw13.PageWrites', WHERE WHAT IT READS IS OF BULK AT MOST 1048576: true; the input reads as it did. -/
def pageWritesUptoRow : OpenClaim := { program := "ytpaiigonagiemaa", sum := "dd582168531b251279308c4178c8c07170121ad8a77f9529219ec3a56f74494b", func := "noria/norialaw13.PageWrites", spec := "pageWrites", unfollowed := true, recurses := true, apart := false, narrowed := true }
def PageWritesUptoSaid : Prop := pageWritesUptoRow.holds Try.pinned (OpenSpec.upto pageWritesSpec)

end Rows
end Go.Proofs.Ytpaiigonagiemaa
