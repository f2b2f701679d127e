/-
  The runs of known calls.
-/
import Derived.Test.YtdjafocgljccfaaGreatDoorPn0
namespace Go.Proofs.YtdjafocgljccfaaGreatDoor.Kw
open Go Go.RowKit CX
theorem k70_run : runH (xo noOrc) 100000 k70 = true := by kernel_rfl
theorem k70_ok : OrcOk Tryz.prog ⟨8, noSym⟩ (orcH k70) := orcH_ok (xo_ok (noOrc_ok _ _)) k70_run
end Go.Proofs.YtdjafocgljccfaaGreatDoor.Kw
