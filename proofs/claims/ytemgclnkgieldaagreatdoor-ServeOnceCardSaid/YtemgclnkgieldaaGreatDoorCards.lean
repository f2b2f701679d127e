/-
  DERIVED. GIVEN WITH THE SEED: THE CARDS: each row of YtemgclnkgieldaaGreatDoorRows.lean that lists a variable, with what it lists TIED to the program's text (the seventh form; the later family's looks); each row that meets fmt, with fmt's text TOLD by the authors' own Lean function (tested against real Go, not proved from fmt's source: count such statements apart). THE CARD IS WHAT COUNTS. Prove the row's statement (the work); the ties are given (YtemgclnkgieldaaGreatDoorTie.lean); close each card by the builder's one call (the guide's Derived/Test/ToyasCard.lean, 'card_holds'). Laid BY PROGRAM, IN A SANDBOX (cutbox-door.mjs). By AI agents, Wed Nov 11 2026. No macro, syntax, notation, axiom, sorry.
-/
import Derived.Test.YtemgclnkgieldaaGreatDoorRows
import GoSem.ClaimSeven
namespace Go.Proofs.YtemgclnkgieldaaGreatDoor
namespace Rows

/-- THE TIED CARD OF 'abaculuslaw40.ServeOnce'. -/
def serveOnceCard : Claim7 := { stood := { row := serveOnceRow, standIns := [], harness := (true, "c5d4fb67b052aaf9865350e996a33a0097121116aa57231124da987a319b8dfb"), looks := true }, kinds := [], alts := [], laidByText := true, laidKinds := [.data, .data, .pinned], laidTests := true, laidLooks := .later }
def ServeOnceCardSaid : Prop := Claim7.holds Tryz.pinned (.plain (OpenSpec.ofChange serveOnceSpec)) serveOnceCard

/-- THE SECOND FORM's CARD OF 'abaculuslaw40.ServeOnce'. -/
def serveOnceUptoCard : Claim7 := { stood := { row := serveOnceUptoRow, standIns := [], harness := (true, "c5d4fb67b052aaf9865350e996a33a0097121116aa57231124da987a319b8dfb"), looks := true }, kinds := [], alts := [], laidByText := true, laidKinds := [.data, .data, .pinned], laidTests := true, laidLooks := .later }
def ServeOnceUptoCardSaid : Prop := Claim7.holds Tryz.pinned (.plain (OpenSpec.upto serveOnceSpec)) serveOnceUptoCard
end Rows
end Go.Proofs.YtemgclnkgieldaaGreatDoor
