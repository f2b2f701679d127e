/-
  The runs of known calls.
-/
import Derived.Test.YtnbopkflhjakdaaGreatDoorMd0
namespace Go.Proofs.YtnbopkflhjakdaaGreatDoor.Mv
open Go Go.RowKit CX
theorem k40_run : runH (xo noOrc) 100000 k40 = true := by kernel_rfl
theorem k40_ok : OrcOk Tryz.prog ⟨6, noSym⟩ (orcH k40) := orcH_ok (xo_ok (noOrc_ok _ _)) k40_run
end Go.Proofs.YtnbopkflhjakdaaGreatDoor.Mv
