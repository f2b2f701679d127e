/-
  DERIVED. GIVEN WITH THE SEED: THE CARDS: each row of YtnpbbffegbjdfaaGreatDoorRows.lean that lists a variable, with what it lists TIED to the program's text (the seventh form; the later family's looks); each row that meets fmt, with fmt's text TOLD by the authors' own Lean function (tested against real Go, not proved from fmt's source: count such statements apart). THE CARD IS WHAT COUNTS. Prove the row's statement (the work); the ties are given (YtnpbbffegbjdfaaGreatDoorTie.lean); close each card by the builder's one call (the guide's Derived/Test/ToyasCard.lean, 'card_holds'). Laid BY PROGRAM, IN A SANDBOX (cutbox-door.mjs). By AI agents, Wed Nov 11 2026. No macro, syntax, notation, axiom, sorry.
-/
import Derived.Test.YtnpbbffegbjdfaaGreatDoorRows
import GoSem.ClaimSeven
namespace Go.Proofs.YtnpbbffegbjdfaaGreatDoor
namespace Rows

/-- THE TIED CARD OF 'abaculuslaw40.ServeKnown'. -/
def serveKnownCard : Claim7 := { stood := { row := serveKnownRow, standIns := [], harness := (true, "7cc36beb56c9bba45461382a723a917ad618d83dfa965a25d0de84dc292b2b0a"), looks := true }, kinds := [], alts := [], laidByText := true, laidKinds := [.data, .data, .pinned], laidTests := true, laidLooks := .later }
def ServeKnownCardSaid : Prop := Claim7.holds Tryz.pinned (.plain (OpenSpec.ofChange serveKnownSpec)) serveKnownCard

/-- THE SECOND FORM's CARD OF 'abaculuslaw40.ServeKnown'. -/
def serveKnownUptoCard : Claim7 := { stood := { row := serveKnownUptoRow, standIns := [], harness := (true, "7cc36beb56c9bba45461382a723a917ad618d83dfa965a25d0de84dc292b2b0a"), looks := true }, kinds := [], alts := [], laidByText := true, laidKinds := [.data, .data, .pinned], laidTests := true, laidLooks := .later }
def ServeKnownUptoCardSaid : Prop := Claim7.holds Tryz.pinned (.plain (OpenSpec.upto serveKnownSpec)) serveKnownUptoCard
end Rows
end Go.Proofs.YtnpbbffegbjdfaaGreatDoor
