/-
  DERIVED. GIVEN WITH THE SEED: THE CARDS: each row of YtdlggegdlknkeaaGreatDoorRows.lean that lists a variable, with what it lists TIED to the program's text (the seventh form; the later family's looks); each row that meets fmt, with fmt's text TOLD by the authors' own Lean function (tested against real Go, not proved from fmt's source: count such statements apart). THE CARD IS WHAT COUNTS. Prove the row's statement (the work); the ties are given (YtdlggegdlknkeaaGreatDoorTie.lean); close each card by the builder's one call (the guide's Derived/Test/ToyasCard.lean, 'card_holds'). Laid BY PROGRAM, IN A SANDBOX (cutbox-door.mjs). By AI agents, Wed Nov 11 2026. No macro, syntax, notation, axiom, sorry.
-/
import Derived.Test.YtdlggegdlknkeaaGreatDoorRows
import GoSem.ClaimSeven
namespace Go.Proofs.YtdlggegdlknkeaaGreatDoor
namespace Rows

/-- THE TIED CARD OF 'abaculuslaw33.PipeGoals'. -/
def pipeGoalsCard : Claim7 := { stood := { row := pipeGoalsRow, standIns := [], harness := (true, "d830047cdc88b48b12ca3945f58a7ea326bdbbc724e53b2a0fd6bd3f596bf614"), looks := true }, kinds := [], alts := [], laidByText := true, laidKinds := [.data, .data, .pinned], laidTests := true, laidLooks := .later }
def PipeGoalsCardSaid : Prop := Claim7.holds Tryz.pinned (.plain (OpenSpec.ofChange pipeGoalsSpec)) pipeGoalsCard

/-- THE SECOND FORM's CARD OF 'abaculuslaw33.PipeGoals'. -/
def pipeGoalsUptoCard : Claim7 := { stood := { row := pipeGoalsUptoRow, standIns := [], harness := (true, "d830047cdc88b48b12ca3945f58a7ea326bdbbc724e53b2a0fd6bd3f596bf614"), looks := true }, kinds := [], alts := [], laidByText := true, laidKinds := [.data, .data, .pinned], laidTests := true, laidLooks := .later }
def PipeGoalsUptoCardSaid : Prop := Claim7.holds Tryz.pinned (.plain (OpenSpec.upto pipeGoalsSpec)) pipeGoalsUptoCard
end Rows
end Go.Proofs.YtdlggegdlknkeaaGreatDoor
