/-
  What the row says of the closure.
-/
import Derived.Test.YthfmallebojjpaaGreatDoorCl2
import Derived.Test.YthfmallebojjpaaGreatDoorCl3
import Derived.Test.YthfmallebojjpaaGreatDoorRows
namespace Go.Proofs.YthfmallebojjpaaGreatDoor.Cl
open Go
set_option maxRecDepth 100000
theorem inPlace : (Rows.bookDisksRow.inPlace == Tryz.pinned.checked.prog.inPlace 3) = true := by
  show (Rows.bookDisksRow.inPlace == P.inPlace 3) = true
  unfold Program.inPlace
  rw [clo]
  kernel_rfl
theorem unfollowed : (Rows.bookDisksRow.unfollowed == Tryz.pinned.checked.prog.unfollowed 3) = true := by
  show (Rows.bookDisksRow.unfollowed == P.unfollowed 3) = true
  rw [unf]; rfl
theorem recurses : (Rows.bookDisksRow.recurses == Tryz.pinned.checked.prog.recurses 3) = true := by
  show (Rows.bookDisksRow.recurses == P.recurses 3) = true
  unfold Program.recurses
  rw [unf]; rfl
theorem named : (Rows.bookDisksRow.named == Tryz.pinned.checked.prog.varsNamed 3) = true := by
  show (Rows.bookDisksRow.named == P.varsNamed 3) = true
  unfold Program.varsNamed
  rw [clo]
  kernel_rfl
theorem noGoes : Tryz.pinned.checked.prog.funcs.any Func.goes = false := noGoesP
theorem laidOut2 : laidOutB Tryz.pinned.checked.prog = true := laidOut
end Go.Proofs.YthfmallebojjpaaGreatDoor.Cl
