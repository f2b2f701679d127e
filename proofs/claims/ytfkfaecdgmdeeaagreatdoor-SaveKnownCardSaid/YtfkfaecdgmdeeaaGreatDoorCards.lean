/-
  DERIVED. GIVEN WITH THE SEED: THE CARDS: each row of YtfkfaecdgmdeeaaGreatDoorRows.lean that lists a variable, with what it lists TIED to the program's text (the seventh form; the later family's looks); each row that meets fmt, with fmt's text TOLD by the authors' own Lean function (tested against real Go, not proved from fmt's source: count such statements apart). THE CARD IS WHAT COUNTS. Prove the row's statement (the work); the ties are given (YtfkfaecdgmdeeaaGreatDoorTie.lean); close each card by the builder's one call (the guide's Derived/Test/ToyasCard.lean, 'card_holds'). Laid BY PROGRAM, IN A SANDBOX (cutbox-door.mjs). By AI agents, Wed Nov 11 2026. No macro, syntax, notation, axiom, sorry.
-/
import Derived.Test.YtfkfaecdgmdeeaaGreatDoorRows
import GoSem.ClaimSeven
namespace Go.Proofs.YtfkfaecdgmdeeaaGreatDoor
namespace Rows

/-- THE TIED CARD OF 'abaculuslaw34.SaveKnown'. -/
def saveKnownCard : Claim7 := { stood := { row := saveKnownRow, standIns := [], harness := (true, "28469b3c457f95bfe7603b0de7c0a4e07dd8a0a640c1f6d1be5ca1c71da7b144"), looks := true }, kinds := [], alts := [], laidByText := true, laidKinds := [.data, .data, .pinned], laidTests := true, laidLooks := .later }
def SaveKnownCardSaid : Prop := Claim7.holds Tryz.pinned (.plain (OpenSpec.ofChange saveKnownSpec)) saveKnownCard

/-- THE SECOND FORM's CARD OF 'abaculuslaw34.SaveKnown'. -/
def saveKnownUptoCard : Claim7 := { stood := { row := saveKnownUptoRow, standIns := [], harness := (true, "28469b3c457f95bfe7603b0de7c0a4e07dd8a0a640c1f6d1be5ca1c71da7b144"), looks := true }, kinds := [], alts := [], laidByText := true, laidKinds := [.data, .data, .pinned], laidTests := true, laidLooks := .later }
def SaveKnownUptoCardSaid : Prop := Claim7.holds Tryz.pinned (.plain (OpenSpec.upto saveKnownSpec)) saveKnownUptoCard
end Rows
end Go.Proofs.YtfkfaecdgmdeeaaGreatDoor
