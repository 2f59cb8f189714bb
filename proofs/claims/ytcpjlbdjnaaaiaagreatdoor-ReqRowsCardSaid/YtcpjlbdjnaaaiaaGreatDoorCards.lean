/-
  DERIVED. GIVEN WITH THE SEED: THE CARDS: each row of YtcpjlbdjnaaaiaaGreatDoorRows.lean that lists a variable, with what it lists TIED to the program's text (the seventh form; the later family's looks); each row that meets fmt, with fmt's text TOLD by the authors' own Lean function (tested against real Go, not proved from fmt's source: count such statements apart). THE CARD IS WHAT COUNTS. Prove the row's statement (the work); the ties are given (YtcpjlbdjnaaaiaaGreatDoorTie.lean); close each card by the builder's one call (the guide's Derived/Test/ToyasCard.lean, 'card_holds'). Laid BY PROGRAM, IN A SANDBOX (cutbox-door.mjs). By AI agents, Wed Nov 11 2026. No macro, syntax, notation, axiom, sorry.
-/
import Derived.Test.YtcpjlbdjnaaaiaaGreatDoorRows
import GoSem.ClaimSeven
namespace Go.Proofs.YtcpjlbdjnaaaiaaGreatDoor
namespace Rows

/-- THE TIED CARD OF 'norialaw25.ReqDeep'. -/
def reqDeepCard : Claim7 := { stood := { row := reqDeepRow, standIns := [], harness := (true, "f04a15dd666d61790c8267463b6e4eff87340fa0cfe0ab2f365ff7e8714c7a4b"), looks := true }, kinds := [], alts := [], laidByText := true, laidKinds := [.data, .data, .data, .data, .sentinel, .sentinel, .pinned], laidTests := true, laidLooks := .later }
def ReqDeepCardSaid : Prop := Claim7.holds Tryz.pinned (.plain (OpenSpec.ofChange reqDeepSpec)) reqDeepCard

/-- THE TIED CARD OF 'norialaw25.ReqRows'. -/
def reqRowsCard : Claim7 := { stood := { row := reqRowsRow, standIns := [], harness := (true, "f04a15dd666d61790c8267463b6e4eff87340fa0cfe0ab2f365ff7e8714c7a4b"), looks := true }, kinds := [], alts := [], laidByText := true, laidKinds := [.data, .data, .data, .data, .sentinel, .sentinel, .pinned], laidTests := true, laidLooks := .later }
def ReqRowsCardSaid : Prop := Claim7.holds Tryz.pinned (.plain (OpenSpec.ofChange reqRowsSpec)) reqRowsCard

/-- THE SECOND FORM's CARD OF 'norialaw25.ReqDeep'. -/
def reqDeepUptoCard : Claim7 := { stood := { row := reqDeepUptoRow, standIns := [], harness := (true, "f04a15dd666d61790c8267463b6e4eff87340fa0cfe0ab2f365ff7e8714c7a4b"), looks := true }, kinds := [], alts := [], laidByText := true, laidKinds := [.data, .data, .data, .data, .sentinel, .sentinel, .pinned], laidTests := true, laidLooks := .later }
def ReqDeepUptoCardSaid : Prop := Claim7.holds Tryz.pinned (.plain (OpenSpec.upto reqDeepSpec)) reqDeepUptoCard

/-- THE SECOND FORM's CARD OF 'norialaw25.ReqRows'. -/
def reqRowsUptoCard : Claim7 := { stood := { row := reqRowsUptoRow, standIns := [], harness := (true, "f04a15dd666d61790c8267463b6e4eff87340fa0cfe0ab2f365ff7e8714c7a4b"), looks := true }, kinds := [], alts := [], laidByText := true, laidKinds := [.data, .data, .data, .data, .sentinel, .sentinel, .pinned], laidTests := true, laidLooks := .later }
def ReqRowsUptoCardSaid : Prop := Claim7.holds Tryz.pinned (.plain (OpenSpec.upto reqRowsSpec)) reqRowsUptoCard
end Rows
end Go.Proofs.YtcpjlbdjnaaaiaaGreatDoor
