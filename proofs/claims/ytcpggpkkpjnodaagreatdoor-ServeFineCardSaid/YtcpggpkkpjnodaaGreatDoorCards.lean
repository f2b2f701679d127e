/-
  DERIVED. GIVEN WITH THE SEED: THE CARDS: each row of YtcpggpkkpjnodaaGreatDoorRows.lean that lists a variable, with what it lists TIED to the program's text (the seventh form; the later family's looks); each row that meets fmt, with fmt's text TOLD by the authors' own Lean function (tested against real Go, not proved from fmt's source: count such statements apart). THE CARD IS WHAT COUNTS. Prove the row's statement (the work); the ties are given (YtcpggpkkpjnodaaGreatDoorTie.lean); close each card by the builder's one call (the guide's Derived/Test/ToyasCard.lean, 'card_holds'). Laid BY PROGRAM, IN A SANDBOX (cutbox-door.mjs). By AI agents, Wed Nov 11 2026. No macro, syntax, notation, axiom, sorry.
-/
import Derived.Test.YtcpggpkkpjnodaaGreatDoorRows
import GoSem.ClaimSeven
namespace Go.Proofs.YtcpggpkkpjnodaaGreatDoor
namespace Rows

/-- THE TIED CARD OF 'abaculuslaw40.ServeFine'. -/
def serveFineCard : Claim7 := { stood := { row := serveFineRow, standIns := [], harness := (true, "28136a3538c2bbb4da74e9cbe34829a98b944dfc7f1304b80e7934b2574de062"), looks := true }, kinds := [], alts := [], laidByText := true, laidKinds := [.data], laidTests := true, laidLooks := .later }
def ServeFineCardSaid : Prop := Claim7.holds Tryz.pinned (.plain (OpenSpec.ofChange serveFineSpec)) serveFineCard

/-- THE SECOND FORM's CARD OF 'abaculuslaw40.ServeFine'. -/
def serveFineUptoCard : Claim7 := { stood := { row := serveFineUptoRow, standIns := [], harness := (true, "28136a3538c2bbb4da74e9cbe34829a98b944dfc7f1304b80e7934b2574de062"), looks := true }, kinds := [], alts := [], laidByText := true, laidKinds := [.data], laidTests := true, laidLooks := .later }
def ServeFineUptoCardSaid : Prop := Claim7.holds Tryz.pinned (.plain (OpenSpec.upto serveFineSpec)) serveFineUptoCard
end Rows
end Go.Proofs.YtcpggpkkpjnodaaGreatDoor
