/-
  The runs of known calls.
-/
import Derived.Test.YtdjafocgljccfaaGreatDoorPn0
import Derived.Test.YtdjafocgljccfaaGreatDoorPn13
namespace Go.Proofs.YtdjafocgljccfaaGreatDoor.Kw
open Go Go.RowKit CX
theorem k25_run : runH (xo (orcOr (orcH k24) noOrc)) 100000 k25 = true := by kernel_rfl
theorem k25_ok : OrcOk Tryz.prog ⟨8, noSym⟩ (orcH k25) := orcH_ok (xo_ok (orcOr_ok k24_ok (noOrc_ok _ _))) k25_run
theorem k26_run : runH (xo noOrc) 100000 k26 = true := by kernel_rfl
theorem k26_ok : OrcOk Tryz.prog ⟨8, noSym⟩ (orcH k26) := orcH_ok (xo_ok (noOrc_ok _ _)) k26_run
theorem k27_run : runH (xo noOrc) 100000 k27 = true := by kernel_rfl
theorem k27_ok : OrcOk Tryz.prog ⟨8, noSym⟩ (orcH k27) := orcH_ok (xo_ok (noOrc_ok _ _)) k27_run
theorem k28_run : runH (xo noOrc) 100000 k28 = true := by kernel_rfl
theorem k28_ok : OrcOk Tryz.prog ⟨8, noSym⟩ (orcH k28) := orcH_ok (xo_ok (noOrc_ok _ _)) k28_run
theorem k29_run : runH (xo noOrc) 100000 k29 = true := by kernel_rfl
theorem k29_ok : OrcOk Tryz.prog ⟨8, noSym⟩ (orcH k29) := orcH_ok (xo_ok (noOrc_ok _ _)) k29_run
theorem k30_run : runH (xo noOrc) 100000 k30 = true := by kernel_rfl
theorem k30_ok : OrcOk Tryz.prog ⟨8, noSym⟩ (orcH k30) := orcH_ok (xo_ok (noOrc_ok _ _)) k30_run
theorem k31_run : runH (xo noOrc) 100000 k31 = true := by kernel_rfl
theorem k31_ok : OrcOk Tryz.prog ⟨8, noSym⟩ (orcH k31) := orcH_ok (xo_ok (noOrc_ok _ _)) k31_run
end Go.Proofs.YtdjafocgljccfaaGreatDoor.Kw
