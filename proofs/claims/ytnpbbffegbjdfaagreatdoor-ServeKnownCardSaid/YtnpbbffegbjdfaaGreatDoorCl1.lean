/-
  What the row says of the closure.
-/
import Derived.Test.YtnpbbffegbjdfaaGreatDoorCl2
import Derived.Test.YtnpbbffegbjdfaaGreatDoorCl3
import Derived.Test.YtnpbbffegbjdfaaGreatDoorRows
namespace Go.Proofs.YtnpbbffegbjdfaaGreatDoor.Cl
open Go
set_option maxRecDepth 100000
theorem inPlace : (Rows.serveKnownRow.inPlace == Tryz.pinned.checked.prog.inPlace 3) = true := by
  show (Rows.serveKnownRow.inPlace == P.inPlace 3) = true
  unfold Program.inPlace
  rw [clo]
  kernel_rfl
theorem unfollowed : (Rows.serveKnownRow.unfollowed == Tryz.pinned.checked.prog.unfollowed 3) = true := by
  show (Rows.serveKnownRow.unfollowed == P.unfollowed 3) = true
  rw [unf]; rfl
theorem recurses : (Rows.serveKnownRow.recurses == Tryz.pinned.checked.prog.recurses 3) = true := by
  show (Rows.serveKnownRow.recurses == P.recurses 3) = true
  unfold Program.recurses
  rw [unf]; rfl
theorem named : (Rows.serveKnownRow.named == Tryz.pinned.checked.prog.varsNamed 3) = true := by
  show (Rows.serveKnownRow.named == P.varsNamed 3) = true
  unfold Program.varsNamed
  rw [clo]
  kernel_rfl
theorem noGoes : Tryz.pinned.checked.prog.funcs.any Func.goes = false := noGoesP
theorem laidOut2 : laidOutB Tryz.pinned.checked.prog = true := laidOut
end Go.Proofs.YtnpbbffegbjdfaaGreatDoor.Cl
