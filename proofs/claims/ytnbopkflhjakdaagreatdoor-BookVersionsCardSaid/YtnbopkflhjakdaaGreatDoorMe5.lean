/-
  The runs of known calls: models checked, laid, read.
-/
import Derived.Test.YtnbopkflhjakdaaGreatDoorMe0
namespace Go.Proofs.YtnbopkflhjakdaaGreatDoor.Mv
open Go Go.RowKit CX Md
theorem l5_run : runH (xo noOrc) 100000 l5 = true := by kernel_rfl
theorem r5_run : runH (xo noOrc) 100000 r5 = true := by kernel_rfl
theorem c6_run : runH (xo noOrc) 100000 c6 = true := by kernel_rfl
theorem l6_run : runH (xo noOrc) 100000 l6 = true := by kernel_rfl
theorem r6_run : runH (xo noOrc) 100000 r6 = true := by kernel_rfl
end Go.Proofs.YtnbopkflhjakdaaGreatDoor.Mv
