/-
  The runs of known calls.
-/
import Derived.Test.YtdjafocgljccfaaGreatDoorPn0
import Derived.Test.YtdjafocgljccfaaGreatDoorPn16
import Derived.Test.YtdjafocgljccfaaGreatDoorPn17
import Derived.Test.YtdjafocgljccfaaGreatDoorPn18
namespace Go.Proofs.YtdjafocgljccfaaGreatDoor.Kw
open Go Go.RowKit CX
theorem k63_run : runH (xo (orcOr (orcH k51) (orcOr (orcH k52) (orcOr (orcH k53) (orcOr (orcH k54) (orcOr (orcH k55) (orcOr (orcH k56) (orcOr (orcH k57) (orcOr (orcH k58) (orcOr (orcH k59) (orcOr (orcH k60) (orcOr (orcH k61) (orcOr (orcH k62) noOrc))))))))))))) 100000 k63 = true := by kernel_rfl
theorem k63_ok : OrcOk Tryz.prog ⟨8, noSym⟩ (orcH k63) := orcH_ok (xo_ok (orcOr_ok k51_ok (orcOr_ok k52_ok (orcOr_ok k53_ok (orcOr_ok k54_ok (orcOr_ok k55_ok (orcOr_ok k56_ok (orcOr_ok k57_ok (orcOr_ok k58_ok (orcOr_ok k59_ok (orcOr_ok k60_ok (orcOr_ok k61_ok (orcOr_ok k62_ok (noOrc_ok _ _)))))))))))))) k63_run
theorem k64_run : runH (xo (orcOr (orcH k63) noOrc)) 100000 k64 = true := by kernel_rfl
theorem k64_ok : OrcOk Tryz.prog ⟨8, noSym⟩ (orcH k64) := orcH_ok (xo_ok (orcOr_ok k63_ok (noOrc_ok _ _))) k64_run
end Go.Proofs.YtdjafocgljccfaaGreatDoor.Kw
