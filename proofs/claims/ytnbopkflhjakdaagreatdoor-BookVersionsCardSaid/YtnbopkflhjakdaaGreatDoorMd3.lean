/-
  The runs of known calls.
-/
import Derived.Test.YtnbopkflhjakdaaGreatDoorMd0
import Derived.Test.YtnbopkflhjakdaaGreatDoorMd1
import Derived.Test.YtnbopkflhjakdaaGreatDoorMd2
namespace Go.Proofs.YtnbopkflhjakdaaGreatDoor.Mv
open Go Go.RowKit CX
theorem k16_run : runH (xo (orcOr (orcR 6 k8) (orcOr (orcR 6 k13) (orcOr (orcR 6 k14) (orcOr (orcR 6 k15) noOrc))))) 100000 k16 = true := by kernel_rfl
theorem k16_ok : OrcOk Tryz.prog ⟨6, noSym⟩ (orcH k16) := orcH_ok (xo_ok (orcOr_ok k8_ok (orcOr_ok k13_ok (orcOr_ok k14_ok (orcOr_ok k15_ok (noOrc_ok _ _)))))) k16_run
theorem k17_run : runH (xo (orcOr (orcR 6 k0) (orcOr (orcR 6 k1) (orcOr (orcH k11) (orcOr (orcR 6 k3) (orcOr (orcH k12) (orcOr (orcR 6 k5) (orcOr (orcR 6 k7) (orcOr (orcH k16) noOrc))))))))) 100000 k17 = true := by kernel_rfl
theorem k17_xok : (xo (orcOr (orcR 6 k0) (orcOr (orcR 6 k1) (orcOr (orcH k11) (orcOr (orcR 6 k3) (orcOr (orcH k12) (orcOr (orcR 6 k5) (orcOr (orcR 6 k7) (orcOr (orcH k16) noOrc))))))))).Ok := xo_ok (orcOr_ok k0_ok (orcOr_ok k1_ok (orcOr_ok k11_ok (orcOr_ok k3_ok (orcOr_ok k12_ok (orcOr_ok k5_ok (orcOr_ok k7_ok (orcOr_ok k16_ok (noOrc_ok _ _)))))))))
theorem k18_run : runH (xo noOrc) 100000 k18 = true := by kernel_rfl
theorem k18_ok : OrcOk Tryz.prog ⟨6, noSym⟩ (orcH k18) := orcH_ok (xo_ok (noOrc_ok _ _)) k18_run
theorem k19_run : runH (xo noOrc) 100000 k19 = true := by kernel_rfl
theorem k19_ok : OrcOk Tryz.prog ⟨6, noSym⟩ (orcH k19) := orcH_ok (xo_ok (noOrc_ok _ _)) k19_run
theorem k20_run : runH (xo noOrc) 100000 k20 = true := by kernel_rfl
theorem k20_ok : OrcOk Tryz.prog ⟨6, noSym⟩ (orcH k20) := orcH_ok (xo_ok (noOrc_ok _ _)) k20_run
theorem k21_run : runH (xo noOrc) 100000 k21 = true := by kernel_rfl
theorem k21_okR : okR 6 k21 = true := by kernel_rfl
theorem k21_ok : OrcOk Tryz.prog ⟨6, noSym⟩ (orcR 6 k21) := orcR_ok (xo_ok (noOrc_ok _ _)) rfl k21_okR k21_run
theorem k22_run : runH (xo noOrc) 100000 k22 = true := by kernel_rfl
theorem k22_okR : okR 6 k22 = true := by kernel_rfl
theorem k22_ok : OrcOk Tryz.prog ⟨6, noSym⟩ (orcR 6 k22) := orcR_ok (xo_ok (noOrc_ok _ _)) rfl k22_okR k22_run
theorem k23_run : runH (xo noOrc) 100000 k23 = true := by kernel_rfl
theorem k23_ok : OrcOk Tryz.prog ⟨6, noSym⟩ (orcH k23) := orcH_ok (xo_ok (noOrc_ok _ _)) k23_run
end Go.Proofs.YtnbopkflhjakdaaGreatDoor.Mv
