/-
  DERIVED. GIVEN WITH THE SEED: THE CARDS: each row of YthfmallebojjpaaGreatDoorRows.lean that lists a variable, with what it lists TIED to the program's text (the seventh form; the later family's looks); each row that meets fmt, with fmt's text TOLD by the authors' own Lean function (tested against real Go, not proved from fmt's source: count such statements apart). THE CARD IS WHAT COUNTS. Prove the row's statement (the work); the ties are given (YthfmallebojjpaaGreatDoorTie.lean); close each card by the builder's one call (the guide's Derived/Test/ToyasCard.lean, 'card_holds'). Laid BY PROGRAM, IN A SANDBOX (cutbox-door.mjs). By AI agents, Wed Nov 11 2026. No macro, syntax, notation, axiom, sorry.
-/
import Derived.Test.YthfmallebojjpaaGreatDoorRows
import GoSem.ClaimSeven
namespace Go.Proofs.YthfmallebojjpaaGreatDoor
namespace Rows

/-- THE TIED CARD OF 'abaculuslaw39.BookDisks'. -/
def bookDisksCard : Claim7 := { stood := { row := bookDisksRow, standIns := [], harness := (true, "2508809a250523ce003214d1ea738a3e26c787007002e9a3ab2881222a7b7604"), looks := true }, kinds := [], alts := [], laidByText := true, laidKinds := [.data, .data, .pinned], laidTests := true, laidLooks := .later }
def BookDisksCardSaid : Prop := Claim7.holds Tryz.pinned (.plain (OpenSpec.ofChange bookDisksSpec)) bookDisksCard

/-- THE SECOND FORM's CARD OF 'abaculuslaw39.BookDisks'. -/
def bookDisksUptoCard : Claim7 := { stood := { row := bookDisksUptoRow, standIns := [], harness := (true, "2508809a250523ce003214d1ea738a3e26c787007002e9a3ab2881222a7b7604"), looks := true }, kinds := [], alts := [], laidByText := true, laidKinds := [.data, .data, .pinned], laidTests := true, laidLooks := .later }
def BookDisksUptoCardSaid : Prop := Claim7.holds Tryz.pinned (.plain (OpenSpec.upto bookDisksSpec)) bookDisksUptoCard
end Rows
end Go.Proofs.YthfmallebojjpaaGreatDoor
