/-
  What the row says of the closure.
-/
import Derived.Test.YtaphobloggdfnaaGreatDoorCl2
import Derived.Test.YtaphobloggdfnaaGreatDoorCl3
import Derived.Test.YtaphobloggdfnaaGreatDoorCl4
import Derived.Test.YtaphobloggdfnaaGreatDoorCl5
import Derived.Test.YtaphobloggdfnaaGreatDoorRows
namespace Go.Proofs.YtaphobloggdfnaaGreatDoor.Cl
open Go
set_option maxRecDepth 100000
theorem inPlace : (Rows.toolManyRow.inPlace == Tryz.pinned.checked.prog.inPlace 3) = true := by
  show (Rows.toolManyRow.inPlace == P.inPlace 3) = true
  exact inPlaceP
theorem unfollowed : (Rows.toolManyRow.unfollowed == Tryz.pinned.checked.prog.unfollowed 3) = true := by
  show (Rows.toolManyRow.unfollowed == P.unfollowed 3) = true
  rw [unf]; rfl
theorem recurses : (Rows.toolManyRow.recurses == Tryz.pinned.checked.prog.recurses 3) = true := by
  show (Rows.toolManyRow.recurses == P.recurses 3) = true
  unfold Program.recurses
  rw [unf]; rfl
theorem named : (Rows.toolManyRow.named == Tryz.pinned.checked.prog.varsNamed 3) = true := by
  show (Rows.toolManyRow.named == P.varsNamed 3) = true
  exact namedP
theorem noGoes : Tryz.pinned.checked.prog.funcs.any Func.goes = false := noGoesP
theorem laidOut2 : laidOutB Tryz.pinned.checked.prog = true := laidOut
theorem mapsRowed : mapsRowed Tryz.pinned.checked.prog = true := mapsRowedP
theorem stopsB : (Tryz.pinned.checked.prog.stops == []) = true := stopsBP
theorem stopKnobsB : (Tryz.pinned.checked.prog.stopKnobs == []) = true := stopKnobsBP
theorem stopsHeard : Tryz.pinned.checked.prog.stopsHeard = true := stopsHeardP
theorem mayEnter : Tryz.pinned.checked.prog.mayEnter = true := mayEnterP
end Go.Proofs.YtaphobloggdfnaaGreatDoor.Cl
