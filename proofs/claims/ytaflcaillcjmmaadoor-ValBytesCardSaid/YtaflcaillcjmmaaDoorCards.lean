/-
  DERIVED. GIVEN WITH THE SEED: THE CARDS: each row of YtaflcaillcjmmaaDoorRows.lean that lists a variable, with what it lists TIED to the program's text (the seventh form; the later family's looks); each row that meets fmt, with fmt's text TOLD by the authors' own Lean function (tested against real Go, not proved from fmt's source: count such statements apart). THE CARD IS WHAT COUNTS. Prove the row's statement (the work); the ties are given (YtaflcaillcjmmaaDoorTie.lean); close each card by the builder's one call (the guide's Derived/Test/ToyasCard.lean, 'card_holds'). Laid BY PROGRAM, IN A SANDBOX (cutbox-door.mjs). By AI agents, Wed Nov 11 2026. No macro, syntax, notation, axiom, sorry.
-/
import Derived.Test.YtaflcaillcjmmaaDoorRows
import GoSem.ClaimSeven
namespace Go.Proofs.YtaflcaillcjmmaaDoor
namespace Rows

/-- THE TIED CARD OF 'norialaw3.ValBytes'. -/
def valBytesCard : Claim7 := { stood := { row := valBytesRow, standIns := [], harness := (true, "64a8652ff91831ee77b833d1a3fe32db14f95093e0119ff6417449a731d70960"), looks := true }, kinds := [], alts := [], laidByText := true, laidKinds := [.data, .data, .data, .data, .sentinel, .sentinel, .pinned], laidTests := true, laidLooks := .later }
def ValBytesCardSaid : Prop := Claim7.holds Tryd.pinned (.plain (OpenSpec.ofChange valBytesSpec)) valBytesCard

/-- THE TIED CARD OF 'norialaw3.ValNumbers'. -/
def valNumbersCard : Claim7 := { stood := { row := valNumbersRow, standIns := [], harness := (true, "64a8652ff91831ee77b833d1a3fe32db14f95093e0119ff6417449a731d70960"), looks := true }, kinds := [], alts := [], laidByText := true, laidKinds := [.data, .data, .data, .data, .sentinel, .sentinel, .pinned], laidTests := true, laidLooks := .later }
def ValNumbersCardSaid : Prop := Claim7.holds Tryd.pinned (.plain (OpenSpec.ofChange valNumbersSpec)) valNumbersCard

/-- THE SECOND FORM's CARD OF 'norialaw3.ValBytes'. -/
def valBytesUptoCard : Claim7 := { stood := { row := valBytesUptoRow, standIns := [], harness := (true, "64a8652ff91831ee77b833d1a3fe32db14f95093e0119ff6417449a731d70960"), looks := true }, kinds := [], alts := [], laidByText := true, laidKinds := [.data, .data, .data, .data, .sentinel, .sentinel, .pinned], laidTests := true, laidLooks := .later }
def ValBytesUptoCardSaid : Prop := Claim7.holds Tryd.pinned (.plain (OpenSpec.upto valBytesSpec)) valBytesUptoCard

/-- THE SECOND FORM's CARD OF 'norialaw3.ValNumbers'. -/
def valNumbersUptoCard : Claim7 := { stood := { row := valNumbersUptoRow, standIns := [], harness := (true, "64a8652ff91831ee77b833d1a3fe32db14f95093e0119ff6417449a731d70960"), looks := true }, kinds := [], alts := [], laidByText := true, laidKinds := [.data, .data, .data, .data, .sentinel, .sentinel, .pinned], laidTests := true, laidLooks := .later }
def ValNumbersUptoCardSaid : Prop := Claim7.holds Tryd.pinned (.plain (OpenSpec.upto valNumbersSpec)) valNumbersUptoCard
end Rows
end Go.Proofs.YtaflcaillcjmmaaDoor
