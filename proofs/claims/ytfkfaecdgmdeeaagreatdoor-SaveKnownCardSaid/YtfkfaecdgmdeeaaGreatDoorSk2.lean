/-
  The runs of known calls.
-/
import Derived.Test.YtfkfaecdgmdeeaaGreatDoorSk0
namespace Go.Proofs.YtfkfaecdgmdeeaaGreatDoor.Kw
open Go Go.RowKit CX
theorem k4_run : runH (xo noOrc) 100000 k4 = true := by kernel_rfl
theorem k4_ok : OrcOk Tryz.prog ⟨6, noSym⟩ (orcH k4) := orcH_ok (xo_ok (noOrc_ok _ _)) k4_run
theorem k5_run : runH (xo noOrc) 100000 k5 = true := by kernel_rfl
theorem k5_ok : OrcOk Tryz.prog ⟨6, noSym⟩ (orcH k5) := orcH_ok (xo_ok (noOrc_ok _ _)) k5_run
end Go.Proofs.YtfkfaecdgmdeeaaGreatDoor.Kw
