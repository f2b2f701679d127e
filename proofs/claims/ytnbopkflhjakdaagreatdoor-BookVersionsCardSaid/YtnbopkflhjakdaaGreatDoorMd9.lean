/-
  The runs of known calls.
-/
import Derived.Test.YtnbopkflhjakdaaGreatDoorMd0
import Derived.Test.YtnbopkflhjakdaaGreatDoorMd1
import Derived.Test.YtnbopkflhjakdaaGreatDoorMd8
namespace Go.Proofs.YtnbopkflhjakdaaGreatDoor.Mv
open Go Go.RowKit CX
theorem k47_run : runH (xo noOrc) 100000 k47 = true := by kernel_rfl
theorem k47_ok : OrcOk Tryz.prog ⟨6, noSym⟩ (orcH k47) := orcH_ok (xo_ok (noOrc_ok _ _)) k47_run
theorem k48_run : runH (xo (orcOr (orcH k47) noOrc)) 100000 k48 = true := by kernel_rfl
theorem k48_ok : OrcOk Tryz.prog ⟨6, noSym⟩ (orcH k48) := orcH_ok (xo_ok (orcOr_ok k47_ok (noOrc_ok _ _))) k48_run
theorem k49_run : runH (xo (orcOr (orcR 6 k0) (orcOr (orcR 6 k1) (orcOr (orcH k44) (orcOr (orcR 6 k3) (orcOr (orcH k45) (orcOr (orcR 6 k5) (orcOr (orcH k46) (orcOr (orcH k48) noOrc))))))))) 100000 k49 = true := by kernel_rfl
theorem k49_xok : (xo (orcOr (orcR 6 k0) (orcOr (orcR 6 k1) (orcOr (orcH k44) (orcOr (orcR 6 k3) (orcOr (orcH k45) (orcOr (orcR 6 k5) (orcOr (orcH k46) (orcOr (orcH k48) noOrc))))))))).Ok := xo_ok (orcOr_ok k0_ok (orcOr_ok k1_ok (orcOr_ok k44_ok (orcOr_ok k3_ok (orcOr_ok k45_ok (orcOr_ok k5_ok (orcOr_ok k46_ok (orcOr_ok k48_ok (noOrc_ok _ _)))))))))
end Go.Proofs.YtnbopkflhjakdaaGreatDoor.Mv
