/-
  DERIVED. GIVEN WITH THE SEED: THE CARDS: each row of YtdnohegcgpblpaaGreatDoorRows.lean that lists a variable, with what it lists TIED to the program's text (the seventh form; the later family's looks); each row that meets fmt, with fmt's text TOLD by the authors' own Lean function (tested against real Go, not proved from fmt's source: count such statements apart). THE CARD IS WHAT COUNTS. Prove the row's statement (the work); the ties are given (YtdnohegcgpblpaaGreatDoorTie.lean); close each card by the builder's one call (the guide's Derived/Test/ToyasCard.lean, 'card_holds'). Laid BY PROGRAM, IN A SANDBOX (cutbox-door.mjs). By AI agents, Wed Nov 11 2026. No macro, syntax, notation, axiom, sorry.
-/
import Derived.Test.YtdnohegcgpblpaaGreatDoorRows
import GoSem.ClaimSeven
namespace Go.Proofs.YtdnohegcgpblpaaGreatDoor
namespace Rows

/-- THE TIED CARD OF 'abaculuslaw36.CrossMany'. -/
def crossManyCard : Claim7 := { stood := { row := crossManyRow, standIns := [], harness := (true, "4dd0cd75c3570d41cd725e2f938a6096d4c97d12a8d79d3672975ead4571a658"), looks := true }, kinds := [], alts := [], laidByText := true, laidKinds := [.data, .data, .pinned], laidTests := true, laidLooks := .later }
def CrossManyCardSaid : Prop := Claim7.holds Tryz.pinned (.plain (OpenSpec.ofChange crossManySpec)) crossManyCard

/-- THE SECOND FORM's CARD OF 'abaculuslaw36.CrossMany'. -/
def crossManyUptoCard : Claim7 := { stood := { row := crossManyUptoRow, standIns := [], harness := (true, "4dd0cd75c3570d41cd725e2f938a6096d4c97d12a8d79d3672975ead4571a658"), looks := true }, kinds := [], alts := [], laidByText := true, laidKinds := [.data, .data, .pinned], laidTests := true, laidLooks := .later }
def CrossManyUptoCardSaid : Prop := Claim7.holds Tryz.pinned (.plain (OpenSpec.upto crossManySpec)) crossManyUptoCard
end Rows
end Go.Proofs.YtdnohegcgpblpaaGreatDoor
