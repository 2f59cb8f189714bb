/-
  DERIVED. GIVEN WITH THE SEED: THE CARDS: each row of YtaflcaillcjmmaaGreatDoorRows.lean that lists a variable, with what it lists TIED to the program's text (the seventh form; the later family's looks); each row that meets fmt, with fmt's text TOLD by the authors' own Lean function (tested against real Go, not proved from fmt's source: count such statements apart). THE CARD IS WHAT COUNTS. Prove the row's statement (the work); the ties are given (YtaflcaillcjmmaaGreatDoorTie.lean); close each card by the builder's one call (the guide's Derived/Test/ToyasCard.lean, 'card_holds'). Laid BY PROGRAM, IN A SANDBOX (cutbox-door.mjs). By AI agents, Wed Nov 11 2026. No macro, syntax, notation, axiom, sorry.
-/
import Derived.Test.YtaflcaillcjmmaaGreatDoorRows
import GoSem.ClaimSeven
namespace Go.Proofs.YtaflcaillcjmmaaGreatDoor
namespace Rows

/-- THE TIED CARD OF 'norialaw3.ValReads'. -/
def valReadsCard : Claim7 := { stood := { row := valReadsRow, standIns := [], harness := (true, "f7bbede23a2b2ee718068b482f6be46afdec63ecacc4dc4f13dd5a5a2cf790f9"), looks := true }, kinds := [], alts := [], laidByText := true, laidKinds := [.data, .data, .data, .data, .sentinel, .sentinel, .pinned], laidTests := true, laidLooks := .later }
def ValReadsCardSaid : Prop := Claim7.holds Tryz.pinned (.plain (OpenSpec.ofChange valReadsSpec)) valReadsCard

/-- THE SECOND FORM's CARD OF 'norialaw3.ValReads'. -/
def valReadsUptoCard : Claim7 := { stood := { row := valReadsUptoRow, standIns := [], harness := (true, "f7bbede23a2b2ee718068b482f6be46afdec63ecacc4dc4f13dd5a5a2cf790f9"), looks := true }, kinds := [], alts := [], laidByText := true, laidKinds := [.data, .data, .data, .data, .sentinel, .sentinel, .pinned], laidTests := true, laidLooks := .later }
def ValReadsUptoCardSaid : Prop := Claim7.holds Tryz.pinned (.plain (OpenSpec.upto valReadsSpec)) valReadsUptoCard
end Rows
end Go.Proofs.YtaflcaillcjmmaaGreatDoor
