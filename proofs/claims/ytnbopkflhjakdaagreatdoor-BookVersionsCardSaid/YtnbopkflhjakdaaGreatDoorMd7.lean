/-
  The runs of known calls.
-/
import Derived.Test.YtnbopkflhjakdaaGreatDoorMd0
namespace Go.Proofs.YtnbopkflhjakdaaGreatDoor.Mv
open Go Go.RowKit CX
theorem k41_run : runH (xo noOrc) 100000 k41 = true := by kernel_rfl
theorem k41_ok : OrcOk Tryz.prog ⟨6, noSym⟩ (orcH k41) := orcH_ok (xo_ok (noOrc_ok _ _)) k41_run
end Go.Proofs.YtnbopkflhjakdaaGreatDoor.Mv
