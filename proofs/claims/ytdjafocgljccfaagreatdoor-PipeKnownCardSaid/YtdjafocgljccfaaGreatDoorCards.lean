/-
  DERIVED. GIVEN WITH THE SEED: THE CARDS: each row of YtdjafocgljccfaaGreatDoorRows.lean that lists a variable, with what it lists TIED to the program's text (the seventh form; the later family's looks); each row that meets fmt, with fmt's text TOLD by the authors' own Lean function (tested against real Go, not proved from fmt's source: count such statements apart). THE CARD IS WHAT COUNTS. Prove the row's statement (the work); the ties are given (YtdjafocgljccfaaGreatDoorTie.lean); close each card by the builder's one call (the guide's Derived/Test/ToyasCard.lean, 'card_holds'). Laid BY PROGRAM, IN A SANDBOX (cutbox-door.mjs). By AI agents, Wed Nov 11 2026. No macro, syntax, notation, axiom, sorry.
-/
import Derived.Test.YtdjafocgljccfaaGreatDoorRows
import GoSem.ClaimSeven
namespace Go.Proofs.YtdjafocgljccfaaGreatDoor
namespace Rows

/-- THE TIED CARD OF 'abaculuslaw33.PipeKnown'. -/
def pipeKnownCard : Claim7 := { stood := { row := pipeKnownRow, standIns := [], harness := (true, "5085c1db8dafa3cefbd08fefe9fc8e21c90fa1dd9d595722581e4e490c177a97"), looks := true }, kinds := [], alts := [], laidByText := true, laidKinds := [.data, .data, .data, .data, .pinned], laidTests := true, laidLooks := .later }
def PipeKnownCardSaid : Prop := Claim7.holds Tryz.pinned (.plain (OpenSpec.ofChange pipeKnownSpec)) pipeKnownCard

/-- THE SECOND FORM's CARD OF 'abaculuslaw33.PipeKnown'. -/
def pipeKnownUptoCard : Claim7 := { stood := { row := pipeKnownUptoRow, standIns := [], harness := (true, "5085c1db8dafa3cefbd08fefe9fc8e21c90fa1dd9d595722581e4e490c177a97"), looks := true }, kinds := [], alts := [], laidByText := true, laidKinds := [.data, .data, .data, .data, .pinned], laidTests := true, laidLooks := .later }
def PipeKnownUptoCardSaid : Prop := Claim7.holds Tryz.pinned (.plain (OpenSpec.upto pipeKnownSpec)) pipeKnownUptoCard
end Rows
end Go.Proofs.YtdjafocgljccfaaGreatDoor
