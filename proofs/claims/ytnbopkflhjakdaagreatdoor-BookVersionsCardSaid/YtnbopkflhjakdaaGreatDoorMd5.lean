/-
  The runs of known calls.
-/
import Derived.Test.YtnbopkflhjakdaaGreatDoorMd0
namespace Go.Proofs.YtnbopkflhjakdaaGreatDoor.Mv
open Go Go.RowKit CX
theorem k37_run : runH (xo noOrc) 100000 k37 = true := by kernel_rfl
theorem k37_ok : OrcOk Tryz.prog ⟨6, noSym⟩ (orcH k37) := orcH_ok (xo_ok (noOrc_ok _ _)) k37_run
theorem k38_run : runH (xo noOrc) 100000 k38 = true := by kernel_rfl
theorem k38_ok : OrcOk Tryz.prog ⟨6, noSym⟩ (orcH k38) := orcH_ok (xo_ok (noOrc_ok _ _)) k38_run
theorem k39_run : runH (xo noOrc) 100000 k39 = true := by kernel_rfl
theorem k39_ok : OrcOk Tryz.prog ⟨6, noSym⟩ (orcH k39) := orcH_ok (xo_ok (noOrc_ok _ _)) k39_run
end Go.Proofs.YtnbopkflhjakdaaGreatDoor.Mv
