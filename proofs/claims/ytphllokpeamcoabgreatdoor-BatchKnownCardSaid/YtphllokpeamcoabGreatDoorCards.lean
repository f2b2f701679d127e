/-
  DERIVED. GIVEN WITH THE SEED: THE CARDS: each row of YtphllokpeamcoabGreatDoorRows.lean that lists a variable, with what it lists TIED to the program's text (the seventh form; the later family's looks); each row that meets fmt, with fmt's text TOLD by the authors' own Lean function (tested against real Go, not proved from fmt's source: count such statements apart). THE CARD IS WHAT COUNTS. Prove the row's statement (the work); the ties are given (YtphllokpeamcoabGreatDoorTie.lean); close each card by the builder's one call (the guide's Derived/Test/ToyasCard.lean, 'card_holds'). Laid BY PROGRAM, IN A SANDBOX (cutbox-door.mjs). By AI agents, Wed Nov 11 2026. No macro, syntax, notation, axiom, sorry.
-/
import Derived.Test.YtphllokpeamcoabGreatDoorRows
import GoSem.ClaimSeven
namespace Go.Proofs.YtphllokpeamcoabGreatDoor
namespace Rows

/-- THE TIED CARD OF 'abaculuslaw38.BatchKnown'. -/
def batchKnownCard : Claim7 := { stood := { row := batchKnownRow, standIns := [], harness := (true, "10317c222290d11acddf4c97efdc013f13b163bfb8aa85c62462b584dc337b64"), looks := true }, kinds := [], alts := [], laidByText := true, laidKinds := [.data], laidTests := true, laidLooks := .later }
def BatchKnownCardSaid : Prop := Claim7.holds Tryz.pinned (.plain (OpenSpec.ofChange batchKnownSpec)) batchKnownCard

/-- THE SECOND FORM's CARD OF 'abaculuslaw38.BatchKnown'. -/
def batchKnownUptoCard : Claim7 := { stood := { row := batchKnownUptoRow, standIns := [], harness := (true, "10317c222290d11acddf4c97efdc013f13b163bfb8aa85c62462b584dc337b64"), looks := true }, kinds := [], alts := [], laidByText := true, laidKinds := [.data], laidTests := true, laidLooks := .later }
def BatchKnownUptoCardSaid : Prop := Claim7.holds Tryz.pinned (.plain (OpenSpec.upto batchKnownSpec)) batchKnownUptoCard
end Rows
end Go.Proofs.YtphllokpeamcoabGreatDoor
