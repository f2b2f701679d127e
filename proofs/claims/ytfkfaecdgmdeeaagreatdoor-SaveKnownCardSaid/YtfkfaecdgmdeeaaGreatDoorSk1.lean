/-
  The runs of known calls.
-/
import Derived.Test.YtfkfaecdgmdeeaaGreatDoorSk0
namespace Go.Proofs.YtfkfaecdgmdeeaaGreatDoor.Kw
open Go Go.RowKit CX
theorem k0_run : runH (xo noOrc) 100000 k0 = true := by kernel_rfl
theorem k0_ok : OrcOk Tryz.prog ⟨6, noSym⟩ (orcH k0) := orcH_ok (xo_ok (noOrc_ok _ _)) k0_run
theorem k1_run : runH (xo noOrc) 100000 k1 = true := by kernel_rfl
theorem k1_ok : OrcOk Tryz.prog ⟨6, noSym⟩ (orcH k1) := orcH_ok (xo_ok (noOrc_ok _ _)) k1_run
theorem k2_run : runH (xo noOrc) 100000 k2 = true := by kernel_rfl
theorem k2_ok : OrcOk Tryz.prog ⟨6, noSym⟩ (orcH k2) := orcH_ok (xo_ok (noOrc_ok _ _)) k2_run
theorem k3_run : runH (xo noOrc) 100000 k3 = true := by kernel_rfl
theorem k3_ok : OrcOk Tryz.prog ⟨6, noSym⟩ (orcH k3) := orcH_ok (xo_ok (noOrc_ok _ _)) k3_run
end Go.Proofs.YtfkfaecdgmdeeaaGreatDoor.Kw
