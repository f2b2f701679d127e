/-
  DERIVED. GIVEN WITH THE SEED: THE CARDS: each row of YtdcjedkgpabjhaaGreatDoorRows.lean that lists a variable, with what it lists TIED to the program's text (the seventh form; the later family's looks); each row that meets fmt, with fmt's text TOLD by the authors' own Lean function (tested against real Go, not proved from fmt's source: count such statements apart). THE CARD IS WHAT COUNTS. Prove the row's statement (the work); the ties are given (YtdcjedkgpabjhaaGreatDoorTie.lean); close each card by the builder's one call (the guide's Derived/Test/ToyasCard.lean, 'card_holds'). Laid BY PROGRAM, IN A SANDBOX (cutbox-door.mjs). By AI agents, Wed Nov 11 2026. No macro, syntax, notation, axiom, sorry.
-/
import Derived.Test.YtdcjedkgpabjhaaGreatDoorRows
import GoSem.ClaimSeven
namespace Go.Proofs.YtdcjedkgpabjhaaGreatDoor
namespace Rows

/-- THE TIED CARD OF 'abaculuslaw41.ToolKnown'. -/
def toolKnownCard : Claim7 := { stood := { row := toolKnownRow, standIns := [], harness := (true, "47f582776a4eb68b5bec28380b4b3ce9383dfdab7642b135b6e44bd51fb5fcf7"), looks := true }, kinds := [], alts := [], laidByText := true, laidKinds := [.data, .data, .data, .data, .pinned], laidTests := true, laidLooks := .later }
def ToolKnownCardSaid : Prop := Claim7.holds Tryz.pinned (.plain (OpenSpec.ofChange toolKnownSpec)) toolKnownCard

/-- THE SECOND FORM's CARD OF 'abaculuslaw41.ToolKnown'. -/
def toolKnownUptoCard : Claim7 := { stood := { row := toolKnownUptoRow, standIns := [], harness := (true, "47f582776a4eb68b5bec28380b4b3ce9383dfdab7642b135b6e44bd51fb5fcf7"), looks := true }, kinds := [], alts := [], laidByText := true, laidKinds := [.data, .data, .data, .data, .pinned], laidTests := true, laidLooks := .later }
def ToolKnownUptoCardSaid : Prop := Claim7.holds Tryz.pinned (.plain (OpenSpec.upto toolKnownSpec)) toolKnownUptoCard
end Rows
end Go.Proofs.YtdcjedkgpabjhaaGreatDoor
