/-
  The runs of known calls.
-/
import Derived.Test.YtfkfaecdgmdeeaaGreatDoorSk0
namespace Go.Proofs.YtfkfaecdgmdeeaaGreatDoor.Kw
open Go Go.RowKit CX
theorem k8_run : runH (xo noOrc) 100000 k8 = true := by kernel_rfl
theorem k8_ok : OrcOk Tryz.prog ⟨6, noSym⟩ (orcH k8) := orcH_ok (xo_ok (noOrc_ok _ _)) k8_run
end Go.Proofs.YtfkfaecdgmdeeaaGreatDoor.Kw
