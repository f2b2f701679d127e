/-
  The runs of known calls.
-/
import Derived.Test.YtdjafocgljccfaaGreatDoorPn0
namespace Go.Proofs.YtdjafocgljccfaaGreatDoor.Kw
open Go Go.RowKit CX
theorem k2_run : runH (xo noOrc) 100000 k2 = true := by kernel_rfl
theorem k2_ok : OrcOk Tryz.prog ⟨8, noSym⟩ (orcH k2) := orcH_ok (xo_ok (noOrc_ok _ _)) k2_run
end Go.Proofs.YtdjafocgljccfaaGreatDoor.Kw
