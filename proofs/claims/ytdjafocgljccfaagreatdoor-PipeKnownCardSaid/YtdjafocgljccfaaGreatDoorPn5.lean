/-
  The runs of known calls.
-/
import Derived.Test.YtdjafocgljccfaaGreatDoorPn0
import Derived.Test.YtdjafocgljccfaaGreatDoorPn4
namespace Go.Proofs.YtdjafocgljccfaaGreatDoor.Kw
open Go Go.RowKit CX
theorem k6_run : runH (xo (orcOr (orcH k5) noOrc)) 100000 k6 = true := by kernel_rfl
theorem k6_ok : OrcOk Tryz.prog ⟨8, noSym⟩ (orcH k6) := orcH_ok (xo_ok (orcOr_ok k5_ok (noOrc_ok _ _))) k6_run
theorem k7_run : runH (xo noOrc) 100000 k7 = true := by kernel_rfl
theorem k7_ok : OrcOk Tryz.prog ⟨8, noSym⟩ (orcH k7) := orcH_ok (xo_ok (noOrc_ok _ _)) k7_run
end Go.Proofs.YtdjafocgljccfaaGreatDoor.Kw
