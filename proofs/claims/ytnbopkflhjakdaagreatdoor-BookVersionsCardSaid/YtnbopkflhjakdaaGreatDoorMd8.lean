/-
  The runs of known calls.
-/
import Derived.Test.YtnbopkflhjakdaaGreatDoorMd0
import Derived.Test.YtnbopkflhjakdaaGreatDoorMd1
import Derived.Test.YtnbopkflhjakdaaGreatDoorMd4
import Derived.Test.YtnbopkflhjakdaaGreatDoorMd5
import Derived.Test.YtnbopkflhjakdaaGreatDoorMd6
import Derived.Test.YtnbopkflhjakdaaGreatDoorMd7
namespace Go.Proofs.YtnbopkflhjakdaaGreatDoor.Mv
open Go Go.RowKit CX
theorem k42_run : runH (xo (orcOr (orcH k38) (orcOr (orcH k39) (orcOr (orcH k40) (orcOr (orcH k41) noOrc))))) 100000 k42 = true := by kernel_rfl
theorem k42_ok : OrcOk Tryz.prog ⟨6, noSym⟩ (orcH k42) := orcH_ok (xo_ok (orcOr_ok k38_ok (orcOr_ok k39_ok (orcOr_ok k40_ok (orcOr_ok k41_ok (noOrc_ok _ _)))))) k42_run
theorem k43_run : runH (xo (orcOr (orcR 6 k0) (orcOr (orcR 6 k1) (orcOr (orcH k34) (orcOr (orcR 6 k3) (orcOr (orcH k35) (orcOr (orcR 6 k5) (orcOr (orcH k36) (orcOr (orcH k37) (orcOr (orcH k42) (orcOr (orcR 6 k8) noOrc))))))))))) 100000 k43 = true := by kernel_rfl
theorem k43_xok : (xo (orcOr (orcR 6 k0) (orcOr (orcR 6 k1) (orcOr (orcH k34) (orcOr (orcR 6 k3) (orcOr (orcH k35) (orcOr (orcR 6 k5) (orcOr (orcH k36) (orcOr (orcH k37) (orcOr (orcH k42) (orcOr (orcR 6 k8) noOrc))))))))))).Ok := xo_ok (orcOr_ok k0_ok (orcOr_ok k1_ok (orcOr_ok k34_ok (orcOr_ok k3_ok (orcOr_ok k35_ok (orcOr_ok k5_ok (orcOr_ok k36_ok (orcOr_ok k37_ok (orcOr_ok k42_ok (orcOr_ok k8_ok (noOrc_ok _ _)))))))))))
theorem k44_run : runH (xo noOrc) 100000 k44 = true := by kernel_rfl
theorem k44_ok : OrcOk Tryz.prog ⟨6, noSym⟩ (orcH k44) := orcH_ok (xo_ok (noOrc_ok _ _)) k44_run
theorem k45_run : runH (xo noOrc) 100000 k45 = true := by kernel_rfl
theorem k45_ok : OrcOk Tryz.prog ⟨6, noSym⟩ (orcH k45) := orcH_ok (xo_ok (noOrc_ok _ _)) k45_run
theorem k46_run : runH (xo (orcOr (orcR 6 k6) (orcOr (orcR 6 k1) noOrc))) 100000 k46 = true := by kernel_rfl
theorem k46_ok : OrcOk Tryz.prog ⟨6, noSym⟩ (orcH k46) := orcH_ok (xo_ok (orcOr_ok k6_ok (orcOr_ok k1_ok (noOrc_ok _ _)))) k46_run
end Go.Proofs.YtnbopkflhjakdaaGreatDoor.Mv
