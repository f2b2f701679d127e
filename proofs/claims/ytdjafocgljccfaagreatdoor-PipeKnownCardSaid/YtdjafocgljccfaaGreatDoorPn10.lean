/-
  The runs of known calls.
-/
import Derived.Test.YtdjafocgljccfaaGreatDoorPn0
import Derived.Test.YtdjafocgljccfaaGreatDoorPn7
import Derived.Test.YtdjafocgljccfaaGreatDoorPn8
import Derived.Test.YtdjafocgljccfaaGreatDoorPn9
namespace Go.Proofs.YtdjafocgljccfaaGreatDoor.Kw
open Go Go.RowKit CX
theorem k18_run : runH (xo (orcOr (orcH k14) (orcOr (orcH k15) (orcOr (orcH k16) (orcOr (orcH k17) noOrc))))) 100000 k18 = true := by kernel_rfl
theorem k18_ok : OrcOk Tryz.prog ⟨8, noSym⟩ (orcH k18) := orcH_ok (xo_ok (orcOr_ok k14_ok (orcOr_ok k15_ok (orcOr_ok k16_ok (orcOr_ok k17_ok (noOrc_ok _ _)))))) k18_run
end Go.Proofs.YtdjafocgljccfaaGreatDoor.Kw
