/-
  The runs of known calls.
-/
import Derived.Test.YtdjafocgljccfaaGreatDoorPn0
import Derived.Test.YtdjafocgljccfaaGreatDoorPn14
import Derived.Test.YtdjafocgljccfaaGreatDoorPn16
import Derived.Test.YtdjafocgljccfaaGreatDoorPn19
namespace Go.Proofs.YtdjafocgljccfaaGreatDoor.Kw
open Go Go.RowKit CX
theorem k65_run : runH (xo noOrc) 100000 k65 = true := by kernel_rfl
theorem k65_ok : OrcOk Tryz.prog ⟨8, noSym⟩ (orcH k65) := orcH_ok (xo_ok (noOrc_ok _ _)) k65_run
theorem k66_run : runH (xo noOrc) 100000 k66 = true := by kernel_rfl
theorem k66_ok : OrcOk Tryz.prog ⟨8, noSym⟩ (orcH k66) := orcH_ok (xo_ok (noOrc_ok _ _)) k66_run
theorem k67_run : runH (xo noOrc) 100000 k67 = true := by kernel_rfl
theorem k67_ok : OrcOk Tryz.prog ⟨8, noSym⟩ (orcH k67) := orcH_ok (xo_ok (noOrc_ok _ _)) k67_run
theorem k68_run : runH (xo (orcOr (orcH k27) (orcOr (orcH k49) (orcOr (orcH k50) (orcOr (orcH k64) (orcOr (orcH k65) (orcOr (orcH k66) (orcOr (orcH k67) noOrc)))))))) 100000 k68 = true := by kernel_rfl
theorem k68_ok : OrcOk Tryz.prog ⟨8, noSym⟩ (orcH k68) := orcH_ok (xo_ok (orcOr_ok k27_ok (orcOr_ok k49_ok (orcOr_ok k50_ok (orcOr_ok k64_ok (orcOr_ok k65_ok (orcOr_ok k66_ok (orcOr_ok k67_ok (noOrc_ok _ _))))))))) k68_run
theorem k69_run : runH (xo noOrc) 100000 k69 = true := by kernel_rfl
theorem k69_ok : OrcOk Tryz.prog ⟨8, noSym⟩ (orcH k69) := orcH_ok (xo_ok (noOrc_ok _ _)) k69_run
end Go.Proofs.YtdjafocgljccfaaGreatDoor.Kw
