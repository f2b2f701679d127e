/-
  The runs of known calls.
-/
import Derived.Test.YtdjafocgljccfaaGreatDoorPn0
import Derived.Test.YtdjafocgljccfaaGreatDoorPn21
namespace Go.Proofs.YtdjafocgljccfaaGreatDoor.Kw
open Go Go.RowKit CX
theorem k71_run : runH (xo (orcOr (orcH k70) noOrc)) 100000 k71 = true := by kernel_rfl
theorem k71_ok : OrcOk Tryz.prog ⟨8, noSym⟩ (orcH k71) := orcH_ok (xo_ok (orcOr_ok k70_ok (noOrc_ok _ _))) k71_run
theorem k72_run : runH (xo noOrc) 100000 k72 = true := by kernel_rfl
theorem k72_ok : OrcOk Tryz.prog ⟨8, noSym⟩ (orcH k72) := orcH_ok (xo_ok (noOrc_ok _ _)) k72_run
theorem k73_run : runH (xo noOrc) 100000 k73 = true := by kernel_rfl
theorem k73_ok : OrcOk Tryz.prog ⟨8, noSym⟩ (orcH k73) := orcH_ok (xo_ok (noOrc_ok _ _)) k73_run
theorem k74_run : runH (xo noOrc) 100000 k74 = true := by kernel_rfl
theorem k74_ok : OrcOk Tryz.prog ⟨8, noSym⟩ (orcH k74) := orcH_ok (xo_ok (noOrc_ok _ _)) k74_run
end Go.Proofs.YtdjafocgljccfaaGreatDoor.Kw
