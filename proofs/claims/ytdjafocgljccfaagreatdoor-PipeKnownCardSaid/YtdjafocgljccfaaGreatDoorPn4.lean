/-
  The runs of known calls.
-/
import Derived.Test.YtdjafocgljccfaaGreatDoorPn0
namespace Go.Proofs.YtdjafocgljccfaaGreatDoor.Kw
open Go Go.RowKit CX
theorem k5_run : runH (xo noOrc) 100000 k5 = true := by kernel_rfl
theorem k5_ok : OrcOk Tryz.prog ⟨8, noSym⟩ (orcH k5) := orcH_ok (xo_ok (noOrc_ok _ _)) k5_run
end Go.Proofs.YtdjafocgljccfaaGreatDoor.Kw
