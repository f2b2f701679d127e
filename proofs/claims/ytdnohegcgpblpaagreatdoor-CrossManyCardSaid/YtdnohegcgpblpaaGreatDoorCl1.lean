/-
  What the row says of the closure.
-/
import Derived.Test.YtdnohegcgpblpaaGreatDoorCl2
import Derived.Test.YtdnohegcgpblpaaGreatDoorCl3
import Derived.Test.YtdnohegcgpblpaaGreatDoorRows
namespace Go.Proofs.YtdnohegcgpblpaaGreatDoor.Cl
open Go
set_option maxRecDepth 100000
theorem inPlace : (Rows.crossManyRow.inPlace == Tryz.pinned.checked.prog.inPlace 3) = true := by
  show (Rows.crossManyRow.inPlace == P.inPlace 3) = true
  unfold Program.inPlace
  rw [clo]
  kernel_rfl
theorem unfollowed : (Rows.crossManyRow.unfollowed == Tryz.pinned.checked.prog.unfollowed 3) = true := by
  show (Rows.crossManyRow.unfollowed == P.unfollowed 3) = true
  rw [unf]; rfl
theorem recurses : (Rows.crossManyRow.recurses == Tryz.pinned.checked.prog.recurses 3) = true := by
  show (Rows.crossManyRow.recurses == P.recurses 3) = true
  unfold Program.recurses
  rw [unf]; rfl
theorem named : (Rows.crossManyRow.named == Tryz.pinned.checked.prog.varsNamed 3) = true := by
  show (Rows.crossManyRow.named == P.varsNamed 3) = true
  unfold Program.varsNamed
  rw [clo]
  kernel_rfl
theorem noGoes : Tryz.pinned.checked.prog.funcs.any Func.goes = false := noGoesP
theorem laidOut2 : laidOutB Tryz.pinned.checked.prog = true := laidOut
end Go.Proofs.YtdnohegcgpblpaaGreatDoor.Cl
