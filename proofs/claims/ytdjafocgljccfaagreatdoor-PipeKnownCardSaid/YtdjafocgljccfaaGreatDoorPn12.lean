/-
  The runs of known calls.
-/
import Derived.Test.YtdjafocgljccfaaGreatDoorPn0
namespace Go.Proofs.YtdjafocgljccfaaGreatDoor.Kw
open Go Go.RowKit CX
theorem k21_run : runH (xo noOrc) 100000 k21 = true := by kernel_rfl
theorem k21_ok : OrcOk Tryz.prog ⟨8, noSym⟩ (orcH k21) := orcH_ok (xo_ok (noOrc_ok _ _)) k21_run
theorem k22_run : runH (xo noOrc) 100000 k22 = true := by kernel_rfl
theorem k22_ok : OrcOk Tryz.prog ⟨8, noSym⟩ (orcH k22) := orcH_ok (xo_ok (noOrc_ok _ _)) k22_run
theorem k23_run : runH (xo noOrc) 100000 k23 = true := by kernel_rfl
theorem k23_ok : OrcOk Tryz.prog ⟨8, noSym⟩ (orcH k23) := orcH_ok (xo_ok (noOrc_ok _ _)) k23_run
end Go.Proofs.YtdjafocgljccfaaGreatDoor.Kw
