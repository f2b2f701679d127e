/-
  What the row says of the closure.
-/
import Derived.Test.YthallgbggkgboaaGreatDoorCl2
import Derived.Test.YthallgbggkgboaaGreatDoorCl3
import Derived.Test.YthallgbggkgboaaGreatDoorCl4
import Derived.Test.YthallgbggkgboaaGreatDoorCl5
import Derived.Test.YthallgbggkgboaaGreatDoorRows
namespace Go.Proofs.YthallgbggkgboaaGreatDoor.Cl
open Go
set_option maxRecDepth 100000
theorem inPlace : (Rows.crossPartsRow.inPlace == Tryz.pinned.checked.prog.inPlace 3) = true := by
  show (Rows.crossPartsRow.inPlace == P.inPlace 3) = true
  exact inPlaceP
theorem unfollowed : (Rows.crossPartsRow.unfollowed == Tryz.pinned.checked.prog.unfollowed 3) = true := by
  show (Rows.crossPartsRow.unfollowed == P.unfollowed 3) = true
  rw [unf]; rfl
theorem recurses : (Rows.crossPartsRow.recurses == Tryz.pinned.checked.prog.recurses 3) = true := by
  show (Rows.crossPartsRow.recurses == P.recurses 3) = true
  unfold Program.recurses
  rw [unf]; rfl
theorem named : (Rows.crossPartsRow.named == Tryz.pinned.checked.prog.varsNamed 3) = true := by
  show (Rows.crossPartsRow.named == P.varsNamed 3) = true
  exact namedP
theorem noGoes : Tryz.pinned.checked.prog.funcs.any Func.goes = false := noGoesP
theorem laidOut2 : laidOutB Tryz.pinned.checked.prog = true := laidOut
theorem mapsRowed : mapsRowed Tryz.pinned.checked.prog = true := mapsRowedP
theorem stopsB : (Tryz.pinned.checked.prog.stops == []) = true := stopsBP
theorem stopKnobsB : (Tryz.pinned.checked.prog.stopKnobs == []) = true := stopKnobsBP
theorem stopsHeard : Tryz.pinned.checked.prog.stopsHeard = true := stopsHeardP
theorem mayEnter : Tryz.pinned.checked.prog.mayEnter = true := mayEnterP
end Go.Proofs.YthallgbggkgboaaGreatDoor.Cl
