/-
  What the row says of the closure.
-/
import Derived.Test.YtfajabaikainmaaGreatDoorCl2
import Derived.Test.YtfajabaikainmaaGreatDoorCl3
import Derived.Test.YtfajabaikainmaaGreatDoorRows
namespace Go.Proofs.YtfajabaikainmaaGreatDoor.Cl
open Go
set_option maxRecDepth 100000
theorem inPlace : (Rows.bookFullRow.inPlace == Tryz.pinned.checked.prog.inPlace 3) = true := by
  show (Rows.bookFullRow.inPlace == P.inPlace 3) = true
  unfold Program.inPlace
  rw [clo]
  kernel_rfl
theorem unfollowed : (Rows.bookFullRow.unfollowed == Tryz.pinned.checked.prog.unfollowed 3) = true := by
  show (Rows.bookFullRow.unfollowed == P.unfollowed 3) = true
  rw [unf]; rfl
theorem recurses : (Rows.bookFullRow.recurses == Tryz.pinned.checked.prog.recurses 3) = true := by
  show (Rows.bookFullRow.recurses == P.recurses 3) = true
  unfold Program.recurses
  rw [unf]; rfl
theorem named : (Rows.bookFullRow.named == Tryz.pinned.checked.prog.varsNamed 3) = true := by
  show (Rows.bookFullRow.named == P.varsNamed 3) = true
  unfold Program.varsNamed
  rw [clo]
  kernel_rfl
theorem noGoes : Tryz.pinned.checked.prog.funcs.any Func.goes = false := noGoesP
theorem laidOut2 : laidOutB Tryz.pinned.checked.prog = true := laidOut
end Go.Proofs.YtfajabaikainmaaGreatDoor.Cl
