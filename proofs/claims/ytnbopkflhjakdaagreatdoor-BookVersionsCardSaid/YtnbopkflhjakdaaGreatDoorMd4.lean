/-
  The runs of known calls.
-/
import Derived.Test.YtnbopkflhjakdaaGreatDoorMd0
import Derived.Test.YtnbopkflhjakdaaGreatDoorMd1
import Derived.Test.YtnbopkflhjakdaaGreatDoorMd2
import Derived.Test.YtnbopkflhjakdaaGreatDoorMd3
namespace Go.Proofs.YtnbopkflhjakdaaGreatDoor.Mv
open Go Go.RowKit CX
theorem k24_run : runH (xo (orcOr (orcR 6 k8) (orcOr (orcR 6 k13) (orcOr (orcR 6 k14) (orcOr (orcH k20) (orcOr (orcR 6 k21) (orcOr (orcR 6 k22) (orcOr (orcR 6 k15) (orcOr (orcH k23) noOrc))))))))) 100000 k24 = true := by kernel_rfl
theorem k24_ok : OrcOk Tryz.prog ⟨6, noSym⟩ (orcH k24) := orcH_ok (xo_ok (orcOr_ok k8_ok (orcOr_ok k13_ok (orcOr_ok k14_ok (orcOr_ok k20_ok (orcOr_ok k21_ok (orcOr_ok k22_ok (orcOr_ok k15_ok (orcOr_ok k23_ok (noOrc_ok _ _)))))))))) k24_run
theorem k25_run : runH (xo (orcOr (orcR 6 k0) (orcOr (orcR 6 k1) (orcOr (orcH k18) (orcOr (orcR 6 k3) (orcOr (orcH k19) (orcOr (orcR 6 k5) (orcOr (orcR 6 k7) (orcOr (orcH k24) noOrc))))))))) 100000 k25 = true := by kernel_rfl
theorem k25_xok : (xo (orcOr (orcR 6 k0) (orcOr (orcR 6 k1) (orcOr (orcH k18) (orcOr (orcR 6 k3) (orcOr (orcH k19) (orcOr (orcR 6 k5) (orcOr (orcR 6 k7) (orcOr (orcH k24) noOrc))))))))).Ok := xo_ok (orcOr_ok k0_ok (orcOr_ok k1_ok (orcOr_ok k18_ok (orcOr_ok k3_ok (orcOr_ok k19_ok (orcOr_ok k5_ok (orcOr_ok k7_ok (orcOr_ok k24_ok (noOrc_ok _ _)))))))))
theorem k26_run : runH (xo noOrc) 100000 k26 = true := by kernel_rfl
theorem k26_ok : OrcOk Tryz.prog ⟨6, noSym⟩ (orcH k26) := orcH_ok (xo_ok (noOrc_ok _ _)) k26_run
theorem k27_run : runH (xo noOrc) 100000 k27 = true := by kernel_rfl
theorem k27_ok : OrcOk Tryz.prog ⟨6, noSym⟩ (orcH k27) := orcH_ok (xo_ok (noOrc_ok _ _)) k27_run
theorem k28_run : runH (xo (orcOr (orcR 6 k6) (orcOr (orcR 6 k1) noOrc))) 100000 k28 = true := by kernel_rfl
theorem k28_okR : okR 6 k28 = true := by kernel_rfl
theorem k28_ok : OrcOk Tryz.prog ⟨6, noSym⟩ (orcR 6 k28) := orcR_ok (xo_ok (orcOr_ok k6_ok (orcOr_ok k1_ok (noOrc_ok _ _)))) rfl k28_okR k28_run
theorem k29_run : runH (xo noOrc) 100000 k29 = true := by kernel_rfl
theorem k29_okR : okR 6 k29 = true := by kernel_rfl
theorem k29_ok : OrcOk Tryz.prog ⟨6, noSym⟩ (orcR 6 k29) := orcR_ok (xo_ok (noOrc_ok _ _)) rfl k29_okR k29_run
theorem k30_run : runH (xo (orcOr (orcR 6 k0) (orcOr (orcR 6 k1) (orcOr (orcH k26) (orcOr (orcR 6 k3) (orcOr (orcH k27) (orcOr (orcR 6 k5) (orcOr (orcR 6 k28) (orcOr (orcR 6 k29) noOrc))))))))) 100000 k30 = true := by kernel_rfl
theorem k30_xok : (xo (orcOr (orcR 6 k0) (orcOr (orcR 6 k1) (orcOr (orcH k26) (orcOr (orcR 6 k3) (orcOr (orcH k27) (orcOr (orcR 6 k5) (orcOr (orcR 6 k28) (orcOr (orcR 6 k29) noOrc))))))))).Ok := xo_ok (orcOr_ok k0_ok (orcOr_ok k1_ok (orcOr_ok k26_ok (orcOr_ok k3_ok (orcOr_ok k27_ok (orcOr_ok k5_ok (orcOr_ok k28_ok (orcOr_ok k29_ok (noOrc_ok _ _)))))))))
theorem k31_run : runH (xo noOrc) 100000 k31 = true := by kernel_rfl
theorem k31_ok : OrcOk Tryz.prog ⟨6, noSym⟩ (orcH k31) := orcH_ok (xo_ok (noOrc_ok _ _)) k31_run
theorem k32_run : runH (xo noOrc) 100000 k32 = true := by kernel_rfl
theorem k32_ok : OrcOk Tryz.prog ⟨6, noSym⟩ (orcH k32) := orcH_ok (xo_ok (noOrc_ok _ _)) k32_run
theorem k33_run : runH (xo (orcOr (orcR 6 k0) (orcOr (orcR 6 k1) (orcOr (orcH k31) (orcOr (orcR 6 k3) (orcOr (orcH k32) (orcOr (orcR 6 k5) (orcOr (orcR 6 k28) (orcOr (orcR 6 k29) noOrc))))))))) 100000 k33 = true := by kernel_rfl
theorem k33_xok : (xo (orcOr (orcR 6 k0) (orcOr (orcR 6 k1) (orcOr (orcH k31) (orcOr (orcR 6 k3) (orcOr (orcH k32) (orcOr (orcR 6 k5) (orcOr (orcR 6 k28) (orcOr (orcR 6 k29) noOrc))))))))).Ok := xo_ok (orcOr_ok k0_ok (orcOr_ok k1_ok (orcOr_ok k31_ok (orcOr_ok k3_ok (orcOr_ok k32_ok (orcOr_ok k5_ok (orcOr_ok k28_ok (orcOr_ok k29_ok (noOrc_ok _ _)))))))))
theorem k34_run : runH (xo noOrc) 100000 k34 = true := by kernel_rfl
theorem k34_ok : OrcOk Tryz.prog ⟨6, noSym⟩ (orcH k34) := orcH_ok (xo_ok (noOrc_ok _ _)) k34_run
theorem k35_run : runH (xo noOrc) 100000 k35 = true := by kernel_rfl
theorem k35_ok : OrcOk Tryz.prog ⟨6, noSym⟩ (orcH k35) := orcH_ok (xo_ok (noOrc_ok _ _)) k35_run
theorem k36_run : runH (xo (orcOr (orcR 6 k6) (orcOr (orcR 6 k1) noOrc))) 100000 k36 = true := by kernel_rfl
theorem k36_ok : OrcOk Tryz.prog ⟨6, noSym⟩ (orcH k36) := orcH_ok (xo_ok (orcOr_ok k6_ok (orcOr_ok k1_ok (noOrc_ok _ _)))) k36_run
end Go.Proofs.YtnbopkflhjakdaaGreatDoor.Mv
