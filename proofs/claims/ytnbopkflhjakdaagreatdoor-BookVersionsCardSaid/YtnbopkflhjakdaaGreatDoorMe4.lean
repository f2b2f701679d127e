/-
  The runs of known calls: models checked, laid, read.
-/
import Derived.Test.YtnbopkflhjakdaaGreatDoorMe0
namespace Go.Proofs.YtnbopkflhjakdaaGreatDoor.Mv
open Go Go.RowKit CX Md
theorem r3_run : runH (xo noOrc) 100000 r3 = true := by kernel_rfl
theorem c4_run : runH (xo noOrc) 100000 c4 = true := by kernel_rfl
theorem l4_run : runH (xo noOrc) 100000 l4 = true := by kernel_rfl
theorem r4_run : runH (xo noOrc) 100000 r4 = true := by kernel_rfl
theorem c5_run : runH (xo noOrc) 100000 c5 = true := by kernel_rfl
end Go.Proofs.YtnbopkflhjakdaaGreatDoor.Mv
