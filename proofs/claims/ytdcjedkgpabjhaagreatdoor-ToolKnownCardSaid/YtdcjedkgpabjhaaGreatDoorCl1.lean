/-
  What the row says of the closure.
-/
import Derived.Test.YtdcjedkgpabjhaaGreatDoorCl2
import Derived.Test.YtdcjedkgpabjhaaGreatDoorCl3
import Derived.Test.YtdcjedkgpabjhaaGreatDoorRows
namespace Go.Proofs.YtdcjedkgpabjhaaGreatDoor.Cl
open Go
set_option maxRecDepth 100000
theorem inPlace : (Rows.toolKnownRow.inPlace == Tryz.pinned.checked.prog.inPlace 3) = true := by
  show (Rows.toolKnownRow.inPlace == P.inPlace 3) = true
  unfold Program.inPlace
  rw [clo]
  kernel_rfl
theorem unfollowed : (Rows.toolKnownRow.unfollowed == Tryz.pinned.checked.prog.unfollowed 3) = true := by
  show (Rows.toolKnownRow.unfollowed == P.unfollowed 3) = true
  rw [unf]; rfl
theorem recurses : (Rows.toolKnownRow.recurses == Tryz.pinned.checked.prog.recurses 3) = true := by
  show (Rows.toolKnownRow.recurses == P.recurses 3) = true
  unfold Program.recurses
  rw [unf]; rfl
theorem named : (Rows.toolKnownRow.named == Tryz.pinned.checked.prog.varsNamed 3) = true := by
  show (Rows.toolKnownRow.named == P.varsNamed 3) = true
  unfold Program.varsNamed
  rw [clo]
  kernel_rfl
theorem noGoes : Tryz.pinned.checked.prog.funcs.any Func.goes = false := noGoesP
theorem laidOut2 : laidOutB Tryz.pinned.checked.prog = true := laidOut
end Go.Proofs.YtdcjedkgpabjhaaGreatDoor.Cl
