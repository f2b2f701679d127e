/-
  DERIVED. GIVEN WITH THE SEED: THE CARDS: each row of YtelehhfnomdneaaGreatDoorRows.lean that lists a variable, with what it lists TIED to the program's text (the seventh form; the later family's looks); each row that meets fmt, with fmt's text TOLD by the authors' own Lean function (tested against real Go, not proved from fmt's source: count such statements apart). THE CARD IS WHAT COUNTS. Prove the row's statement (the work); the ties are given (YtelehhfnomdneaaGreatDoorTie.lean); close each card by the builder's one call (the guide's Derived/Test/ToyasCard.lean, 'card_holds'). Laid BY PROGRAM, IN A SANDBOX (cutbox-door.mjs). By AI agents, Wed Nov 11 2026. No macro, syntax, notation, axiom, sorry.
-/
import Derived.Test.YtelehhfnomdneaaGreatDoorRows
import GoSem.ClaimSeven
namespace Go.Proofs.YtelehhfnomdneaaGreatDoor
namespace Rows

/-- THE TIED CARD OF 'abaculuslaw41.ToolSpecs'. -/
def toolSpecsCard : Claim7 := { stood := { row := toolSpecsRow, standIns := [], harness := (true, "fc4923b5ea5a23b6a501d171666b6bdd62faf1b0be656479cb9109c75b67ba2f"), looks := true }, kinds := [], alts := [], laidByText := true, laidKinds := [.data, .data, .data, .data, .pinned], laidTests := true, laidLooks := .later }
def ToolSpecsCardSaid : Prop := Claim7.holds Tryz.pinned (.plain (OpenSpec.ofChange toolSpecsSpec)) toolSpecsCard

/-- THE SECOND FORM's CARD OF 'abaculuslaw41.ToolSpecs'. -/
def toolSpecsUptoCard : Claim7 := { stood := { row := toolSpecsUptoRow, standIns := [], harness := (true, "fc4923b5ea5a23b6a501d171666b6bdd62faf1b0be656479cb9109c75b67ba2f"), looks := true }, kinds := [], alts := [], laidByText := true, laidKinds := [.data, .data, .data, .data, .pinned], laidTests := true, laidLooks := .later }
def ToolSpecsUptoCardSaid : Prop := Claim7.holds Tryz.pinned (.plain (OpenSpec.upto toolSpecsSpec)) toolSpecsUptoCard
end Rows
end Go.Proofs.YtelehhfnomdneaaGreatDoor
