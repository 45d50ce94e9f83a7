/-
  DERIVED. GIVEN WITH THE SEED: THE CARDS: each row of YtkndgkbgbmhjoaaGreatDoorRows.lean that lists a variable, with what it lists TIED to the program's text (the seventh form; the later family's looks); each row that meets fmt, with fmt's text TOLD by the authors' own Lean function (tested against real Go, not proved from fmt's source: count such statements apart). THE CARD IS WHAT COUNTS. Prove the row's statement (the work); the ties are given (YtkndgkbgbmhjoaaGreatDoorTie.lean); close each card by the builder's one call (the guide's Derived/Test/ToyasCard.lean, 'card_holds'). Laid BY PROGRAM, IN A SANDBOX (cutbox-door.mjs). By AI agents, Wed Nov 11 2026. No macro, syntax, notation, axiom, sorry.
-/
import Derived.Test.YtkndgkbgbmhjoaaGreatDoorRows
import GoSem.ClaimSeven
namespace Go.Proofs.YtkndgkbgbmhjoaaGreatDoor
namespace Rows

/-- THE TIED CARD OF 'erratumlaw24.PlayEncodes'. -/
def playEncodesCard : Claim7 := { stood := { row := playEncodesRow, standIns := [], harness := (true, "fad6012ebf906241fd596e6c628bd5063e77c4e4476d33fc5f98a79f0dccaa25"), looks := true }, kinds := [], alts := [], goes := true, laidByText := true, laidKinds := [.data, .data, .data, .data, .sentinel, .sentinel, .pinned], laidTests := true, laidLooks := .later }
def PlayEncodesCardSaid : Prop := Claim7.holds Tryz.pinned (.plain (OpenSpec.ofChange playEncodesSpec)) playEncodesCard
end Rows
end Go.Proofs.YtkndgkbgbmhjoaaGreatDoor
