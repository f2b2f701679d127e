/-
  What the row says of the closure.
-/
import Derived.Test.YtmkkkeehkobadaaGreatDoorCl2
import Derived.Test.YtmkkkeehkobadaaGreatDoorCl3
import Derived.Test.YtmkkkeehkobadaaGreatDoorCl4
import Derived.Test.YtmkkkeehkobadaaGreatDoorCl5
import Derived.Test.YtmkkkeehkobadaaGreatDoorRows
namespace Go.Proofs.YtmkkkeehkobadaaGreatDoor.Cl
open Go
set_option maxRecDepth 100000
theorem inPlace : (Rows.toolCellsRow.inPlace == Tryz.pinned.checked.prog.inPlace 3) = true := by
  show (Rows.toolCellsRow.inPlace == P.inPlace 3) = true
  exact inPlaceP
theorem unfollowed : (Rows.toolCellsRow.unfollowed == Tryz.pinned.checked.prog.unfollowed 3) = true := by
  show (Rows.toolCellsRow.unfollowed == P.unfollowed 3) = true
  rw [unf]; rfl
theorem recurses : (Rows.toolCellsRow.recurses == Tryz.pinned.checked.prog.recurses 3) = true := by
  show (Rows.toolCellsRow.recurses == P.recurses 3) = true
  unfold Program.recurses
  rw [unf]; rfl
theorem named : (Rows.toolCellsRow.named == Tryz.pinned.checked.prog.varsNamed 3) = true := by
  show (Rows.toolCellsRow.named == P.varsNamed 3) = true
  exact namedP
theorem noGoes : Tryz.pinned.checked.prog.funcs.any Func.goes = false := noGoesP
theorem laidOut2 : laidOutB Tryz.pinned.checked.prog = true := laidOut
theorem mapsRowed : mapsRowed Tryz.pinned.checked.prog = true := mapsRowedP
theorem stopsB : (Tryz.pinned.checked.prog.stops == []) = true := stopsBP
theorem stopKnobsB : (Tryz.pinned.checked.prog.stopKnobs == []) = true := stopKnobsBP
theorem stopsHeard : Tryz.pinned.checked.prog.stopsHeard = true := stopsHeardP
theorem mayEnter : Tryz.pinned.checked.prog.mayEnter = true := mayEnterP
end Go.Proofs.YtmkkkeehkobadaaGreatDoor.Cl
