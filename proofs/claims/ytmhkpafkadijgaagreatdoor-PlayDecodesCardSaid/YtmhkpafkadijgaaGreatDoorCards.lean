/-
  DERIVED. GIVEN WITH THE SEED: THE CARDS: each row of YtmhkpafkadijgaaGreatDoorRows.lean that lists a variable, with what it lists TIED to the program's text (the seventh form; the later family's looks); each row that meets fmt, with fmt's text TOLD by the authors' own Lean function (tested against real Go, not proved from fmt's source: count such statements apart). THE CARD IS WHAT COUNTS. Prove the row's statement (the work); the ties are given (YtmhkpafkadijgaaGreatDoorTie.lean); close each card by the builder's one call (the guide's Derived/Test/ToyasCard.lean, 'card_holds'). Laid BY PROGRAM, IN A SANDBOX (cutbox-door.mjs). By AI agents, Wed Nov 11 2026. No macro, syntax, notation, axiom, sorry.
-/
import Derived.Test.YtmhkpafkadijgaaGreatDoorRows
import GoSem.ClaimSeven
namespace Go.Proofs.YtmhkpafkadijgaaGreatDoor
namespace Rows

/-- THE TIED CARD OF 'erratumlaw24.PlayDecodes'. -/
def playDecodesCard : Claim7 := { stood := { row := playDecodesRow, standIns := [], harness := (true, "9c83ab49001b806314f2cf8e7a853318500b44af97b4245473db5c5f6e6ba126"), looks := true }, kinds := [], alts := [], goes := true, laidByText := true, laidKinds := [.data, .data, .data, .data, .sentinel, .sentinel, .pinned], laidTests := true, laidLooks := .later }
def PlayDecodesCardSaid : Prop := Claim7.holds Tryz.pinned (.plain (OpenSpec.ofChange playDecodesSpec)) playDecodesCard

/-- THE TIED CARD OF 'erratumlaw24.PlayAsked'. -/
def playAskedCard : Claim7 := { stood := { row := playAskedRow, standIns := [], harness := (true, "9c83ab49001b806314f2cf8e7a853318500b44af97b4245473db5c5f6e6ba126"), looks := true }, kinds := [], alts := [], goes := true, laidByText := true, laidKinds := [.data, .data, .data, .data, .sentinel, .sentinel, .pinned], laidTests := true, laidLooks := .later }
def PlayAskedCardSaid : Prop := Claim7.holds Tryz.pinned (.plain (OpenSpec.ofChange playAskedSpec)) playAskedCard
end Rows
end Go.Proofs.YtmhkpafkadijgaaGreatDoor
