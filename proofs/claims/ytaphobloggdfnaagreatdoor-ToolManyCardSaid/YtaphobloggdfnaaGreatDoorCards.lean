/-
  DERIVED. GIVEN WITH THE SEED: THE CARDS: each row of YtaphobloggdfnaaGreatDoorRows.lean that lists a variable, with what it lists TIED to the program's text (the seventh form; the later family's looks); each row that meets fmt, with fmt's text TOLD by the authors' own Lean function (tested against real Go, not proved from fmt's source: count such statements apart). THE CARD IS WHAT COUNTS. Prove the row's statement (the work); the ties are given (YtaphobloggdfnaaGreatDoorTie.lean); close each card by the builder's one call (the guide's Derived/Test/ToyasCard.lean, 'card_holds'). Laid BY PROGRAM, IN A SANDBOX (cutbox-door.mjs). By AI agents, Wed Nov 11 2026. No macro, syntax, notation, axiom, sorry.
-/
import Derived.Test.YtaphobloggdfnaaGreatDoorRows
import GoSem.ClaimSeven
namespace Go.Proofs.YtaphobloggdfnaaGreatDoor
namespace Rows

/-- THE TIED CARD OF 'abaculuslaw41.ToolMany'. -/
def toolManyCard : Claim7 := { stood := { row := toolManyRow, standIns := [], harness := (true, "88d682cf62394144e37f86088bd5a587158b04ad3d7ac1b7b563b60302a118ae"), looks := true }, kinds := [], alts := [], laidByText := true, laidKinds := [.data, .data, .data, .data, .pinned], laidTests := true, laidLooks := .later }
def ToolManyCardSaid : Prop := Claim7.holds Tryz.pinned (.plain (OpenSpec.ofChange toolManySpec)) toolManyCard

/-- THE SECOND FORM's CARD OF 'abaculuslaw41.ToolMany'. -/
def toolManyUptoCard : Claim7 := { stood := { row := toolManyUptoRow, standIns := [], harness := (true, "88d682cf62394144e37f86088bd5a587158b04ad3d7ac1b7b563b60302a118ae"), looks := true }, kinds := [], alts := [], laidByText := true, laidKinds := [.data, .data, .data, .data, .pinned], laidTests := true, laidLooks := .later }
def ToolManyUptoCardSaid : Prop := Claim7.holds Tryz.pinned (.plain (OpenSpec.upto toolManySpec)) toolManyUptoCard
end Rows
end Go.Proofs.YtaphobloggdfnaaGreatDoor
