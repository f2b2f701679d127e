/-
  What the row says of the closure.
-/
import Derived.Test.YtnbopkflhjakdaaGreatDoorCl2
import Derived.Test.YtnbopkflhjakdaaGreatDoorCl3
import Derived.Test.YtnbopkflhjakdaaGreatDoorCl4
import Derived.Test.YtnbopkflhjakdaaGreatDoorCl5
import Derived.Test.YtnbopkflhjakdaaGreatDoorRows
namespace Go.Proofs.YtnbopkflhjakdaaGreatDoor.Cl
open Go
set_option maxRecDepth 100000
theorem inPlace : (Rows.bookVersionsRow.inPlace == Tryz.pinned.checked.prog.inPlace 3) = true := by
  show (Rows.bookVersionsRow.inPlace == P.inPlace 3) = true
  exact inPlaceP
theorem unfollowed : (Rows.bookVersionsRow.unfollowed == Tryz.pinned.checked.prog.unfollowed 3) = true := by
  show (Rows.bookVersionsRow.unfollowed == P.unfollowed 3) = true
  rw [unf]; rfl
theorem recurses : (Rows.bookVersionsRow.recurses == Tryz.pinned.checked.prog.recurses 3) = true := by
  show (Rows.bookVersionsRow.recurses == P.recurses 3) = true
  unfold Program.recurses
  rw [unf]; rfl
theorem named : (Rows.bookVersionsRow.named == Tryz.pinned.checked.prog.varsNamed 3) = true := by
  show (Rows.bookVersionsRow.named == P.varsNamed 3) = true
  exact namedP
theorem noGoes : Tryz.pinned.checked.prog.funcs.any Func.goes = false := noGoesP
theorem laidOut2 : laidOutB Tryz.pinned.checked.prog = true := laidOut
theorem mapsRowed : mapsRowed Tryz.pinned.checked.prog = true := mapsRowedP
theorem stopsB : (Tryz.pinned.checked.prog.stops == []) = true := stopsBP
theorem stopKnobsB : (Tryz.pinned.checked.prog.stopKnobs == []) = true := stopKnobsBP
theorem stopsHeard : Tryz.pinned.checked.prog.stopsHeard = true := stopsHeardP
theorem mayEnter : Tryz.pinned.checked.prog.mayEnter = true := mayEnterP
end Go.Proofs.YtnbopkflhjakdaaGreatDoor.Cl
