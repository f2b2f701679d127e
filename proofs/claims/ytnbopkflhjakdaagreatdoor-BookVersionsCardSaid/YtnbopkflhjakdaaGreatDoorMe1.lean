/-
  The runs of known calls: models checked, laid, read.
-/
import Derived.Test.YtnbopkflhjakdaaGreatDoorMe0
namespace Go.Proofs.YtnbopkflhjakdaaGreatDoor.Mv
open Go Go.RowKit CX Md
theorem c0_run : runH (xo noOrc) 100000 c0 = true := by kernel_rfl
theorem l0_run : runH (xo noOrc) 100000 l0 = true := by kernel_rfl
theorem r0_run : runH (xo noOrc) 100000 r0 = true := by kernel_rfl
theorem c1_run : runH (xo noOrc) 100000 c1 = true := by kernel_rfl
theorem l1_run : runH (xo noOrc) 100000 l1 = true := by kernel_rfl
end Go.Proofs.YtnbopkflhjakdaaGreatDoor.Mv
