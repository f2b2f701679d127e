/-
  The runs of known calls.
-/
import Derived.Test.YtdjafocgljccfaaGreatDoorPn0
namespace Go.Proofs.YtdjafocgljccfaaGreatDoor.Kw
open Go Go.RowKit CX
theorem k17_run : runH (xo noOrc) 100000 k17 = true := by kernel_rfl
theorem k17_ok : OrcOk Tryz.prog ⟨8, noSym⟩ (orcH k17) := orcH_ok (xo_ok (noOrc_ok _ _)) k17_run
end Go.Proofs.YtdjafocgljccfaaGreatDoor.Kw
