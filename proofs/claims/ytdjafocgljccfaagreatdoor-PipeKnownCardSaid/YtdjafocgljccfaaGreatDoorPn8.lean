/-
  The runs of known calls.
-/
import Derived.Test.YtdjafocgljccfaaGreatDoorPn0
namespace Go.Proofs.YtdjafocgljccfaaGreatDoor.Kw
open Go Go.RowKit CX
theorem k16_run : runH (xo noOrc) 100000 k16 = true := by kernel_rfl
theorem k16_ok : OrcOk Tryz.prog ⟨8, noSym⟩ (orcH k16) := orcH_ok (xo_ok (noOrc_ok _ _)) k16_run
end Go.Proofs.YtdjafocgljccfaaGreatDoor.Kw
