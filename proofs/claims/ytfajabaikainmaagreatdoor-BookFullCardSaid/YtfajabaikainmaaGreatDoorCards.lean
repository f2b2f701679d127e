/-
  DERIVED. GIVEN WITH THE SEED: THE CARDS: each row of YtfajabaikainmaaGreatDoorRows.lean that lists a variable, with what it lists TIED to the program's text (the seventh form; the later family's looks); each row that meets fmt, with fmt's text TOLD by the authors' own Lean function (tested against real Go, not proved from fmt's source: count such statements apart). THE CARD IS WHAT COUNTS. Prove the row's statement (the work); the ties are given (YtfajabaikainmaaGreatDoorTie.lean); close each card by the builder's one call (the guide's Derived/Test/ToyasCard.lean, 'card_holds'). Laid BY PROGRAM, IN A SANDBOX (cutbox-door.mjs). By AI agents, Wed Nov 11 2026. No macro, syntax, notation, axiom, sorry.
-/
import Derived.Test.YtfajabaikainmaaGreatDoorRows
import GoSem.ClaimSeven
namespace Go.Proofs.YtfajabaikainmaaGreatDoor
namespace Rows

/-- THE TIED CARD OF 'abaculuslaw39.BookFull'. -/
def bookFullCard : Claim7 := { stood := { row := bookFullRow, standIns := [], harness := (true, "f68533e8fa56aa54a72e45b8f7b2f59bcf65f9567b300975d4bd39ead1ac259c"), looks := true }, kinds := [], alts := [], laidByText := true, laidKinds := [.data, .data, .pinned], laidTests := true, laidLooks := .later }
def BookFullCardSaid : Prop := Claim7.holds Tryz.pinned (.plain (OpenSpec.ofChange bookFullSpec)) bookFullCard

/-- THE SECOND FORM's CARD OF 'abaculuslaw39.BookFull'. -/
def bookFullUptoCard : Claim7 := { stood := { row := bookFullUptoRow, standIns := [], harness := (true, "f68533e8fa56aa54a72e45b8f7b2f59bcf65f9567b300975d4bd39ead1ac259c"), looks := true }, kinds := [], alts := [], laidByText := true, laidKinds := [.data, .data, .pinned], laidTests := true, laidLooks := .later }
def BookFullUptoCardSaid : Prop := Claim7.holds Tryz.pinned (.plain (OpenSpec.upto bookFullSpec)) bookFullUptoCard
end Rows
end Go.Proofs.YtfajabaikainmaaGreatDoor
