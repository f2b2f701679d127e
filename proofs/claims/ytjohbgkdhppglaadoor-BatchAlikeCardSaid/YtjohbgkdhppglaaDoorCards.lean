/-
  DERIVED. GIVEN WITH THE SEED: THE CARDS: each row of YtjohbgkdhppglaaDoorRows.lean that lists a variable, with what it lists TIED to the program's text (the seventh form; the later family's looks); each row that meets fmt, with fmt's text TOLD by the authors' own Lean function (tested against real Go, not proved from fmt's source: count such statements apart). THE CARD IS WHAT COUNTS. Prove the row's statement (the work); the ties are given (YtjohbgkdhppglaaDoorTie.lean); close each card by the builder's one call (the guide's Derived/Test/ToyasCard.lean, 'card_holds'). Laid BY PROGRAM, IN A SANDBOX (cutbox-door.mjs). By AI agents, Wed Nov 11 2026. No macro, syntax, notation, axiom, sorry.
-/
import Derived.Test.YtjohbgkdhppglaaDoorRows
import GoSem.ClaimSeven
namespace Go.Proofs.YtjohbgkdhppglaaDoor
namespace Rows

/-- THE TIED CARD OF 'abaculuslaw38.BatchAlike'. -/
def batchAlikeCard : Claim7 := { stood := { row := batchAlikeRow, standIns := [], harness := (true, "8af86cbd84d039c420d389dddd2d0e8cb801646b869fdaafcc70756384c058ec"), looks := false }, kinds := [], alts := [], laidByText := true, laidKinds := [.data], laidTests := true, laidLooks := .later }
def BatchAlikeCardSaid : Prop := Claim7.holds Tryd.pinned (.plain (OpenSpec.ofChange batchAlikeSpec)) batchAlikeCard

/-- THE SECOND FORM's CARD OF 'abaculuslaw38.BatchAlike'. -/
def batchAlikeUptoCard : Claim7 := { stood := { row := batchAlikeUptoRow, standIns := [], harness := (true, "8af86cbd84d039c420d389dddd2d0e8cb801646b869fdaafcc70756384c058ec"), looks := false }, kinds := [], alts := [], laidByText := true, laidKinds := [.data], laidTests := true, laidLooks := .later }
def BatchAlikeUptoCardSaid : Prop := Claim7.holds Tryd.pinned (.plain (OpenSpec.upto batchAlikeSpec)) batchAlikeUptoCard
end Rows
end Go.Proofs.YtjohbgkdhppglaaDoor
