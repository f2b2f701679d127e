/-
  DERIVED. GIVEN WITH THE SEED: THE CARDS: each row of YtegdmcbjaihejaaGreatDoorRows.lean that lists a variable, with what it lists TIED to the program's text (the seventh form; the later family's looks); each row that meets fmt, with fmt's text TOLD by the authors' own Lean function (tested against real Go, not proved from fmt's source: count such statements apart). THE CARD IS WHAT COUNTS. Prove the row's statement (the work); the ties are given (YtegdmcbjaihejaaGreatDoorTie.lean); close each card by the builder's one call (the guide's Derived/Test/ToyasCard.lean, 'card_holds'). Laid BY PROGRAM, IN A SANDBOX (cutbox-door.mjs). By AI agents, Wed Nov 11 2026. No macro, syntax, notation, axiom, sorry.
-/
import Derived.Test.YtegdmcbjaihejaaGreatDoorRows
import GoSem.ClaimSeven
namespace Go.Proofs.YtegdmcbjaihejaaGreatDoor
namespace Rows

/-- THE TIED CARD OF 'abaculuslaw36.CrossKnown'. -/
def crossKnownCard : Claim7 := { stood := { row := crossKnownRow, standIns := [], harness := (true, "cbc806088c59f34322171beae1f3353416b0d0d531c1c192e9dbf042b879dcaa"), looks := true }, kinds := [], alts := [], laidByText := true, laidKinds := [.data, .data, .pinned], laidTests := true, laidLooks := .later }
def CrossKnownCardSaid : Prop := Claim7.holds Tryz.pinned (.plain (OpenSpec.ofChange crossKnownSpec)) crossKnownCard

/-- THE SECOND FORM's CARD OF 'abaculuslaw36.CrossKnown'. -/
def crossKnownUptoCard : Claim7 := { stood := { row := crossKnownUptoRow, standIns := [], harness := (true, "cbc806088c59f34322171beae1f3353416b0d0d531c1c192e9dbf042b879dcaa"), looks := true }, kinds := [], alts := [], laidByText := true, laidKinds := [.data, .data, .pinned], laidTests := true, laidLooks := .later }
def CrossKnownUptoCardSaid : Prop := Claim7.holds Tryz.pinned (.plain (OpenSpec.upto crossKnownSpec)) crossKnownUptoCard
end Rows
end Go.Proofs.YtegdmcbjaihejaaGreatDoor
