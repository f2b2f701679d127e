/-
  DERIVED. GIVEN WITH THE SEED: THE CARDS: each row of YtnbopkflhjakdaaGreatDoorRows.lean that lists a variable, with what it lists TIED to the program's text (the seventh form; the later family's looks); each row that meets fmt, with fmt's text TOLD by the authors' own Lean function (tested against real Go, not proved from fmt's source: count such statements apart). THE CARD IS WHAT COUNTS. Prove the row's statement (the work); the ties are given (YtnbopkflhjakdaaGreatDoorTie.lean); close each card by the builder's one call (the guide's Derived/Test/ToyasCard.lean, 'card_holds'). Laid BY PROGRAM, IN A SANDBOX (cutbox-door.mjs). By AI agents, Wed Nov 11 2026. No macro, syntax, notation, axiom, sorry.
-/
import Derived.Test.YtnbopkflhjakdaaGreatDoorRows
import GoSem.ClaimSeven
namespace Go.Proofs.YtnbopkflhjakdaaGreatDoor
namespace Rows

/-- THE TIED CARD OF 'abaculuslaw39.BookVersions'. -/
def bookVersionsCard : Claim7 := { stood := { row := bookVersionsRow, standIns := [], harness := (true, "9b8c9ccd1902222ae09ac1062e32ccf6b47679750e621c433fd2bb7c072970ff"), looks := true }, kinds := [], alts := [], laidByText := true, laidKinds := [.data, .data, .pinned], laidTests := true, laidLooks := .later }
def BookVersionsCardSaid : Prop := Claim7.holds Tryz.pinned (.plain (OpenSpec.ofChange bookVersionsSpec)) bookVersionsCard

/-- THE SECOND FORM's CARD OF 'abaculuslaw39.BookVersions'. -/
def bookVersionsUptoCard : Claim7 := { stood := { row := bookVersionsUptoRow, standIns := [], harness := (true, "9b8c9ccd1902222ae09ac1062e32ccf6b47679750e621c433fd2bb7c072970ff"), looks := true }, kinds := [], alts := [], laidByText := true, laidKinds := [.data, .data, .pinned], laidTests := true, laidLooks := .later }
def BookVersionsUptoCardSaid : Prop := Claim7.holds Tryz.pinned (.plain (OpenSpec.upto bookVersionsSpec)) bookVersionsUptoCard
end Rows
end Go.Proofs.YtnbopkflhjakdaaGreatDoor
