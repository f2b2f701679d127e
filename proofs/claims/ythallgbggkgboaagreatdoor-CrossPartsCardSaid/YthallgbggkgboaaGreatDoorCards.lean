/-
  DERIVED. GIVEN WITH THE SEED: THE CARDS: each row of YthallgbggkgboaaGreatDoorRows.lean that lists a variable, with what it lists TIED to the program's text (the seventh form; the later family's looks); each row that meets fmt, with fmt's text TOLD by the authors' own Lean function (tested against real Go, not proved from fmt's source: count such statements apart). THE CARD IS WHAT COUNTS. Prove the row's statement (the work); the ties are given (YthallgbggkgboaaGreatDoorTie.lean); close each card by the builder's one call (the guide's Derived/Test/ToyasCard.lean, 'card_holds'). Laid BY PROGRAM, IN A SANDBOX (cutbox-door.mjs). By AI agents, Wed Nov 11 2026. No macro, syntax, notation, axiom, sorry.
-/
import Derived.Test.YthallgbggkgboaaGreatDoorRows
import GoSem.ClaimSeven
namespace Go.Proofs.YthallgbggkgboaaGreatDoor
namespace Rows

/-- THE TIED CARD OF 'abaculuslaw36.CrossParts'. -/
def crossPartsCard : Claim7 := { stood := { row := crossPartsRow, standIns := [], harness := (true, "fc2d860e5ee35c671bc061a350b3733e9cc986950340a53e5ad7d8ad20d78c64"), looks := true }, kinds := [], alts := [], laidByText := true, laidKinds := [.data, .data, .pinned], laidTests := true, laidLooks := .later }
def CrossPartsCardSaid : Prop := Claim7.holds Tryz.pinned (.plain (OpenSpec.ofChange crossPartsSpec)) crossPartsCard

/-- THE SECOND FORM's CARD OF 'abaculuslaw36.CrossParts'. -/
def crossPartsUptoCard : Claim7 := { stood := { row := crossPartsUptoRow, standIns := [], harness := (true, "fc2d860e5ee35c671bc061a350b3733e9cc986950340a53e5ad7d8ad20d78c64"), looks := true }, kinds := [], alts := [], laidByText := true, laidKinds := [.data, .data, .pinned], laidTests := true, laidLooks := .later }
def CrossPartsUptoCardSaid : Prop := Claim7.holds Tryz.pinned (.plain (OpenSpec.upto crossPartsSpec)) crossPartsUptoCard
end Rows
end Go.Proofs.YthallgbggkgboaaGreatDoor
