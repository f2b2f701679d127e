/-
  The runs of known calls.
-/
import Derived.Test.YtdjafocgljccfaaGreatDoorPn0
namespace Go.Proofs.YtdjafocgljccfaaGreatDoor.Kw
open Go Go.RowKit CX
theorem k24_run : runH (xo noOrc) 100000 k24 = true := by kernel_rfl
theorem k24_ok : OrcOk Tryz.prog ⟨8, noSym⟩ (orcH k24) := orcH_ok (xo_ok (noOrc_ok _ _)) k24_run
end Go.Proofs.YtdjafocgljccfaaGreatDoor.Kw
