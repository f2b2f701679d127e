/-
  The runs of known calls.
-/
import Derived.Test.YtdjafocgljccfaaGreatDoorPn0
namespace Go.Proofs.YtdjafocgljccfaaGreatDoor.Kw
open Go Go.RowKit CX
theorem k59_run : runH (xo noOrc) 100000 k59 = true := by kernel_rfl
theorem k59_ok : OrcOk Tryz.prog ⟨8, noSym⟩ (orcH k59) := orcH_ok (xo_ok (noOrc_ok _ _)) k59_run
theorem k60_run : runH (xo noOrc) 100000 k60 = true := by kernel_rfl
theorem k60_ok : OrcOk Tryz.prog ⟨8, noSym⟩ (orcH k60) := orcH_ok (xo_ok (noOrc_ok _ _)) k60_run
theorem k61_run : runH (xo noOrc) 100000 k61 = true := by kernel_rfl
theorem k61_ok : OrcOk Tryz.prog ⟨8, noSym⟩ (orcH k61) := orcH_ok (xo_ok (noOrc_ok _ _)) k61_run
theorem k62_run : runH (xo noOrc) 100000 k62 = true := by kernel_rfl
theorem k62_ok : OrcOk Tryz.prog ⟨8, noSym⟩ (orcH k62) := orcH_ok (xo_ok (noOrc_ok _ _)) k62_run
end Go.Proofs.YtdjafocgljccfaaGreatDoor.Kw
