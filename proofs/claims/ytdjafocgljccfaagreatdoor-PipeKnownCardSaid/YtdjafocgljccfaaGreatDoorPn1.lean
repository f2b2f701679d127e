/-
  The runs of known calls.
-/
import Derived.Test.YtdjafocgljccfaaGreatDoorPn0
namespace Go.Proofs.YtdjafocgljccfaaGreatDoor.Kw
open Go Go.RowKit CX
theorem k0_run : runH (xo noOrc) 100000 k0 = true := by kernel_rfl
theorem k0_ok : OrcOk Tryz.prog ⟨8, noSym⟩ (orcH k0) := orcH_ok (xo_ok (noOrc_ok _ _)) k0_run
theorem k1_run : runH (xo noOrc) 100000 k1 = true := by kernel_rfl
theorem k1_ok : OrcOk Tryz.prog ⟨8, noSym⟩ (orcH k1) := orcH_ok (xo_ok (noOrc_ok _ _)) k1_run
end Go.Proofs.YtdjafocgljccfaaGreatDoor.Kw
