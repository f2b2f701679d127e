/-
  DERIVED. GIVEN WITH THE SEED: THE CARDS: each row of YtdjikbbnnejilaaGreatDoorRows.lean that lists a variable, with what it lists TIED to the program's text (the seventh form; the later family's looks); each row that meets fmt, with fmt's text TOLD by the authors' own Lean function (tested against real Go, not proved from fmt's source: count such statements apart). THE CARD IS WHAT COUNTS. Prove the row's statement (the work); the ties are given (YtdjikbbnnejilaaGreatDoorTie.lean); close each card by the builder's one call (the guide's Derived/Test/ToyasCard.lean, 'card_holds'). Laid BY PROGRAM, IN A SANDBOX (cutbox-door.mjs). By AI agents, Wed Nov 11 2026. No macro, syntax, notation, axiom, sorry.
-/
import Derived.Test.YtdjikbbnnejilaaGreatDoorRows
import GoSem.ClaimSeven
namespace Go.Proofs.YtdjikbbnnejilaaGreatDoor
namespace Rows

/-- THE TIED CARD OF 'abaculuslaw39.BookKnown'. -/
def bookKnownCard : Claim7 := { stood := { row := bookKnownRow, standIns := [], harness := (true, "3fee010939a81f306520de69db1bf8a715492cc51d8c64fb87693746ef9b1f4e"), looks := true }, kinds := [], alts := [], laidByText := true, laidKinds := [.data, .data, .pinned], laidTests := true, laidLooks := .later }
def BookKnownCardSaid : Prop := Claim7.holds Tryz.pinned (.plain (OpenSpec.ofChange bookKnownSpec)) bookKnownCard

/-- THE SECOND FORM's CARD OF 'abaculuslaw39.BookKnown'. -/
def bookKnownUptoCard : Claim7 := { stood := { row := bookKnownUptoRow, standIns := [], harness := (true, "3fee010939a81f306520de69db1bf8a715492cc51d8c64fb87693746ef9b1f4e"), looks := true }, kinds := [], alts := [], laidByText := true, laidKinds := [.data, .data, .pinned], laidTests := true, laidLooks := .later }
def BookKnownUptoCardSaid : Prop := Claim7.holds Tryz.pinned (.plain (OpenSpec.upto bookKnownSpec)) bookKnownUptoCard
end Rows
end Go.Proofs.YtdjikbbnnejilaaGreatDoor
