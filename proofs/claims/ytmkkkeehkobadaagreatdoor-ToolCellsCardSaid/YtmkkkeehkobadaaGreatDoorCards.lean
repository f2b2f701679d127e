/-
  DERIVED. GIVEN WITH THE SEED: THE CARDS: each row of YtmkkkeehkobadaaGreatDoorRows.lean that lists a variable, with what it lists TIED to the program's text (the seventh form; the later family's looks); each row that meets fmt, with fmt's text TOLD by the authors' own Lean function (tested against real Go, not proved from fmt's source: count such statements apart). THE CARD IS WHAT COUNTS. Prove the row's statement (the work); the ties are given (YtmkkkeehkobadaaGreatDoorTie.lean); close each card by the builder's one call (the guide's Derived/Test/ToyasCard.lean, 'card_holds'). Laid BY PROGRAM, IN A SANDBOX (cutbox-door.mjs). By AI agents, Wed Nov 11 2026. No macro, syntax, notation, axiom, sorry.
-/
import Derived.Test.YtmkkkeehkobadaaGreatDoorRows
import GoSem.ClaimSeven
namespace Go.Proofs.YtmkkkeehkobadaaGreatDoor
namespace Rows

/-- THE TIED CARD OF 'abaculuslaw41.ToolCells'. -/
def toolCellsCard : Claim7 := { stood := { row := toolCellsRow, standIns := [], harness := (true, "48b01c96fe36836267a92b61fd920ebf822639e8959fef603d49b08f34332746"), looks := true }, kinds := [], alts := [], laidByText := true, laidKinds := [.data, .data, .data, .data, .pinned], laidTests := true, laidLooks := .later }
def ToolCellsCardSaid : Prop := Claim7.holds Tryz.pinned (.plain (OpenSpec.ofChange toolCellsSpec)) toolCellsCard

/-- THE SECOND FORM's CARD OF 'abaculuslaw41.ToolCells'. -/
def toolCellsUptoCard : Claim7 := { stood := { row := toolCellsUptoRow, standIns := [], harness := (true, "48b01c96fe36836267a92b61fd920ebf822639e8959fef603d49b08f34332746"), looks := true }, kinds := [], alts := [], laidByText := true, laidKinds := [.data, .data, .data, .data, .pinned], laidTests := true, laidLooks := .later }
def ToolCellsUptoCardSaid : Prop := Claim7.holds Tryz.pinned (.plain (OpenSpec.upto toolCellsSpec)) toolCellsUptoCard
end Rows
end Go.Proofs.YtmkkkeehkobadaaGreatDoor
