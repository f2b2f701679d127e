/-
  The runs of known calls.
-/
import Derived.Test.YtdjafocgljccfaaGreatDoorPn0
namespace Go.Proofs.YtdjafocgljccfaaGreatDoor.Kw
open Go Go.RowKit CX
theorem k52_run : runH (xo noOrc) 100000 k52 = true := by kernel_rfl
theorem k52_ok : OrcOk Tryz.prog ⟨8, noSym⟩ (orcH k52) := orcH_ok (xo_ok (noOrc_ok _ _)) k52_run
theorem k53_run : runH (xo noOrc) 100000 k53 = true := by kernel_rfl
theorem k53_ok : OrcOk Tryz.prog ⟨8, noSym⟩ (orcH k53) := orcH_ok (xo_ok (noOrc_ok _ _)) k53_run
theorem k54_run : runH (xo noOrc) 100000 k54 = true := by kernel_rfl
theorem k54_ok : OrcOk Tryz.prog ⟨8, noSym⟩ (orcH k54) := orcH_ok (xo_ok (noOrc_ok _ _)) k54_run
theorem k55_run : runH (xo noOrc) 100000 k55 = true := by kernel_rfl
theorem k55_ok : OrcOk Tryz.prog ⟨8, noSym⟩ (orcH k55) := orcH_ok (xo_ok (noOrc_ok _ _)) k55_run
theorem k56_run : runH (xo noOrc) 100000 k56 = true := by kernel_rfl
theorem k56_ok : OrcOk Tryz.prog ⟨8, noSym⟩ (orcH k56) := orcH_ok (xo_ok (noOrc_ok _ _)) k56_run
theorem k57_run : runH (xo noOrc) 100000 k57 = true := by kernel_rfl
theorem k57_ok : OrcOk Tryz.prog ⟨8, noSym⟩ (orcH k57) := orcH_ok (xo_ok (noOrc_ok _ _)) k57_run
theorem k58_run : runH (xo noOrc) 100000 k58 = true := by kernel_rfl
theorem k58_ok : OrcOk Tryz.prog ⟨8, noSym⟩ (orcH k58) := orcH_ok (xo_ok (noOrc_ok _ _)) k58_run
end Go.Proofs.YtdjafocgljccfaaGreatDoor.Kw
