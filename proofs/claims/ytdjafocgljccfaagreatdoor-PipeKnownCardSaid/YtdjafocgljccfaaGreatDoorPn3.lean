/-
  The runs of known calls.
-/
import Derived.Test.YtdjafocgljccfaaGreatDoorPn0
import Derived.Test.YtdjafocgljccfaaGreatDoorPn2
namespace Go.Proofs.YtdjafocgljccfaaGreatDoor.Kw
open Go Go.RowKit CX
theorem k3_run : runH (xo (orcOr (orcH k2) noOrc)) 100000 k3 = true := by kernel_rfl
theorem k3_ok : OrcOk Tryz.prog ⟨8, noSym⟩ (orcH k3) := orcH_ok (xo_ok (orcOr_ok k2_ok (noOrc_ok _ _))) k3_run
theorem k4_run : runH (xo noOrc) 100000 k4 = true := by kernel_rfl
theorem k4_ok : OrcOk Tryz.prog ⟨8, noSym⟩ (orcH k4) := orcH_ok (xo_ok (noOrc_ok _ _)) k4_run
end Go.Proofs.YtdjafocgljccfaaGreatDoor.Kw
