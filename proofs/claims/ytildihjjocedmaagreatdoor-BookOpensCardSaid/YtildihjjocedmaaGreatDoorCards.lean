/-
  DERIVED. GIVEN WITH THE SEED: THE CARDS: each row of YtildihjjocedmaaGreatDoorRows.lean that lists a variable, with what it lists TIED to the program's text (the seventh form; the later family's looks); each row that meets fmt, with fmt's text TOLD by the authors' own Lean function (tested against real Go, not proved from fmt's source: count such statements apart). THE CARD IS WHAT COUNTS. Prove the row's statement (the work); the ties are given (YtildihjjocedmaaGreatDoorTie.lean); close each card by the builder's one call (the guide's Derived/Test/ToyasCard.lean, 'card_holds'). Laid BY PROGRAM, IN A SANDBOX (cutbox-door.mjs). By AI agents, Wed Nov 11 2026. No macro, syntax, notation, axiom, sorry.
-/
import Derived.Test.YtildihjjocedmaaGreatDoorRows
import GoSem.ClaimSeven
namespace Go.Proofs.YtildihjjocedmaaGreatDoor
namespace Rows

/-- THE TIED CARD OF 'abaculuslaw39.BookOpens'. -/
def bookOpensCard : Claim7 := { stood := { row := bookOpensRow, standIns := [], harness := (true, "8955100e0f0b769f493712740b31f72302fc09d4ffdf2e7e439e6cbf425bbf7b"), looks := true }, kinds := [], alts := [], laidByText := true, laidKinds := [.data, .data, .pinned], laidTests := true, laidLooks := .later }
def BookOpensCardSaid : Prop := Claim7.holds Tryz.pinned (.plain (OpenSpec.ofChange bookOpensSpec)) bookOpensCard

/-- THE SECOND FORM's CARD OF 'abaculuslaw39.BookOpens'. -/
def bookOpensUptoCard : Claim7 := { stood := { row := bookOpensUptoRow, standIns := [], harness := (true, "8955100e0f0b769f493712740b31f72302fc09d4ffdf2e7e439e6cbf425bbf7b"), looks := true }, kinds := [], alts := [], laidByText := true, laidKinds := [.data, .data, .pinned], laidTests := true, laidLooks := .later }
def BookOpensUptoCardSaid : Prop := Claim7.holds Tryz.pinned (.plain (OpenSpec.upto bookOpensSpec)) bookOpensUptoCard
end Rows
end Go.Proofs.YtildihjjocedmaaGreatDoor
