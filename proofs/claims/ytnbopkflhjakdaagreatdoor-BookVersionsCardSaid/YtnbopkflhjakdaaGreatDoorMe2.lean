/-
  The runs of known calls: models checked, laid, read.
-/
import Derived.Test.YtnbopkflhjakdaaGreatDoorMe0
namespace Go.Proofs.YtnbopkflhjakdaaGreatDoor.Mv
open Go Go.RowKit CX Md
theorem r1_run : runH (xo noOrc) 100000 r1 = true := by kernel_rfl
theorem c2_run : runH (xo noOrc) 100000 c2 = true := by kernel_rfl
theorem l2_run : runH (xo noOrc) 100000 l2 = true := by kernel_rfl
end Go.Proofs.YtnbopkflhjakdaaGreatDoor.Mv
