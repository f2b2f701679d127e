/-
  DERIVED. GIVEN WITH THE SEED: THE CARDS: each row of YtmejdkniafjncaaGreatDoorRows.lean that lists a variable, with what it lists TIED to the program's text (the seventh form; the later family's looks); each row that meets fmt, with fmt's text TOLD by the authors' own Lean function (tested against real Go, not proved from fmt's source: count such statements apart). THE CARD IS WHAT COUNTS. Prove the row's statement (the work); the ties are given (YtmejdkniafjncaaGreatDoorTie.lean); close each card by the builder's one call (the guide's Derived/Test/ToyasCard.lean, 'card_holds'). Laid BY PROGRAM, IN A SANDBOX (cutbox-door.mjs). By AI agents, Wed Nov 11 2026. No macro, syntax, notation, axiom, sorry.
-/
import Derived.Test.YtmejdkniafjncaaGreatDoorRows
import GoSem.ClaimSeven
namespace Go.Proofs.YtmejdkniafjncaaGreatDoor
namespace Rows

/-- THE TIED CARD OF 'abaculuslaw39.BookSpace'. -/
def bookSpaceCard : Claim7 := { stood := { row := bookSpaceRow, standIns := [], harness := (true, "6084eecb019af370ee88e18501c901b26f69d58269fcb651f610f8ca3bc0559e"), looks := true }, kinds := [], alts := [], laidByText := true, laidKinds := [.data, .data, .pinned], laidTests := true, laidLooks := .later }
def BookSpaceCardSaid : Prop := Claim7.holds Tryz.pinned (.plain (OpenSpec.ofChange bookSpaceSpec)) bookSpaceCard

/-- THE SECOND FORM's CARD OF 'abaculuslaw39.BookSpace'. -/
def bookSpaceUptoCard : Claim7 := { stood := { row := bookSpaceUptoRow, standIns := [], harness := (true, "6084eecb019af370ee88e18501c901b26f69d58269fcb651f610f8ca3bc0559e"), looks := true }, kinds := [], alts := [], laidByText := true, laidKinds := [.data, .data, .pinned], laidTests := true, laidLooks := .later }
def BookSpaceUptoCardSaid : Prop := Claim7.holds Tryz.pinned (.plain (OpenSpec.upto bookSpaceSpec)) bookSpaceUptoCard
end Rows
end Go.Proofs.YtmejdkniafjncaaGreatDoor
