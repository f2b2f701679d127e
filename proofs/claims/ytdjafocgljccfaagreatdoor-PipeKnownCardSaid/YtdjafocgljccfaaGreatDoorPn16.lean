/-
  The runs of known calls.
-/
import Derived.Test.YtdjafocgljccfaaGreatDoorPn0
import Derived.Test.YtdjafocgljccfaaGreatDoorPn14
import Derived.Test.YtdjafocgljccfaaGreatDoorPn15
namespace Go.Proofs.YtdjafocgljccfaaGreatDoor.Kw
open Go Go.RowKit CX
theorem k48_run : runH (xo (orcOr (orcH k28) (orcOr (orcH k29) (orcOr (orcH k30) (orcOr (orcH k31) (orcOr (orcH k32) (orcOr (orcH k33) (orcOr (orcH k34) (orcOr (orcH k35) (orcOr (orcH k36) (orcOr (orcH k37) (orcOr (orcH k38) (orcOr (orcH k39) (orcOr (orcH k40) (orcOr (orcH k41) (orcOr (orcH k42) (orcOr (orcH k43) (orcOr (orcH k44) (orcOr (orcH k45) (orcOr (orcH k46) (orcOr (orcH k47) noOrc))))))))))))))))))))) 100000 k48 = true := by kernel_rfl
theorem k48_ok : OrcOk Tryz.prog ⟨8, noSym⟩ (orcH k48) := orcH_ok (xo_ok (orcOr_ok k28_ok (orcOr_ok k29_ok (orcOr_ok k30_ok (orcOr_ok k31_ok (orcOr_ok k32_ok (orcOr_ok k33_ok (orcOr_ok k34_ok (orcOr_ok k35_ok (orcOr_ok k36_ok (orcOr_ok k37_ok (orcOr_ok k38_ok (orcOr_ok k39_ok (orcOr_ok k40_ok (orcOr_ok k41_ok (orcOr_ok k42_ok (orcOr_ok k43_ok (orcOr_ok k44_ok (orcOr_ok k45_ok (orcOr_ok k46_ok (orcOr_ok k47_ok (noOrc_ok _ _)))))))))))))))))))))) k48_run
theorem k49_run : runH (xo (orcOr (orcH k48) noOrc)) 100000 k49 = true := by kernel_rfl
theorem k49_ok : OrcOk Tryz.prog ⟨8, noSym⟩ (orcH k49) := orcH_ok (xo_ok (orcOr_ok k48_ok (noOrc_ok _ _))) k49_run
theorem k50_run : runH (xo noOrc) 100000 k50 = true := by kernel_rfl
theorem k50_ok : OrcOk Tryz.prog ⟨8, noSym⟩ (orcH k50) := orcH_ok (xo_ok (noOrc_ok _ _)) k50_run
theorem k51_run : runH (xo noOrc) 100000 k51 = true := by kernel_rfl
theorem k51_ok : OrcOk Tryz.prog ⟨8, noSym⟩ (orcH k51) := orcH_ok (xo_ok (noOrc_ok _ _)) k51_run
end Go.Proofs.YtdjafocgljccfaaGreatDoor.Kw
