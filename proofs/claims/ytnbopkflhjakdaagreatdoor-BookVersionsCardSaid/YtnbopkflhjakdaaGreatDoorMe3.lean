/-
  The runs of known calls: models checked, laid, read.
-/
import Derived.Test.YtnbopkflhjakdaaGreatDoorMe0
namespace Go.Proofs.YtnbopkflhjakdaaGreatDoor.Mv
open Go Go.RowKit CX Md
theorem r2_run : runH (xo noOrc) 100000 r2 = true := by kernel_rfl
theorem c3_run : runH (xo noOrc) 100000 c3 = true := by kernel_rfl
theorem l3_run : runH (xo noOrc) 100000 l3 = true := by kernel_rfl
end Go.Proofs.YtnbopkflhjakdaaGreatDoor.Mv
