/-
  The runs of known calls.
-/
import Derived.Test.YtnbopkflhjakdaaGreatDoorMd0
namespace Go.Proofs.YtnbopkflhjakdaaGreatDoor.Mv
open Go Go.RowKit CX
theorem k0_run : runH (xo noOrc) 100000 k0 = true := by kernel_rfl
theorem k0_okR : okR 6 k0 = true := by kernel_rfl
theorem k0_ok : OrcOk Tryz.prog ⟨6, noSym⟩ (orcR 6 k0) := orcR_ok (xo_ok (noOrc_ok _ _)) rfl k0_okR k0_run
theorem k1_run : runH (xo noOrc) 100000 k1 = true := by kernel_rfl
theorem k1_okR : okR 6 k1 = true := by kernel_rfl
theorem k1_ok : OrcOk Tryz.prog ⟨6, noSym⟩ (orcR 6 k1) := orcR_ok (xo_ok (noOrc_ok _ _)) rfl k1_okR k1_run
theorem k2_run : runH (xo noOrc) 100000 k2 = true := by kernel_rfl
theorem k2_ok : OrcOk Tryz.prog ⟨6, noSym⟩ (orcH k2) := orcH_ok (xo_ok (noOrc_ok _ _)) k2_run
theorem k3_run : runH (xo (orcOr (orcR 6 k1) noOrc)) 100000 k3 = true := by kernel_rfl
theorem k3_okR : okR 6 k3 = true := by kernel_rfl
theorem k3_ok : OrcOk Tryz.prog ⟨6, noSym⟩ (orcR 6 k3) := orcR_ok (xo_ok (orcOr_ok k1_ok (noOrc_ok _ _))) rfl k3_okR k3_run
theorem k4_run : runH (xo noOrc) 100000 k4 = true := by kernel_rfl
theorem k4_ok : OrcOk Tryz.prog ⟨6, noSym⟩ (orcH k4) := orcH_ok (xo_ok (noOrc_ok _ _)) k4_run
theorem k5_run : runH (xo (orcOr (orcR 6 k1) noOrc)) 100000 k5 = true := by kernel_rfl
theorem k5_okR : okR 6 k5 = true := by kernel_rfl
theorem k5_ok : OrcOk Tryz.prog ⟨6, noSym⟩ (orcR 6 k5) := orcR_ok (xo_ok (orcOr_ok k1_ok (noOrc_ok _ _))) rfl k5_okR k5_run
theorem k6_run : runH (xo noOrc) 100000 k6 = true := by kernel_rfl
theorem k6_okR : okR 6 k6 = true := by kernel_rfl
theorem k6_ok : OrcOk Tryz.prog ⟨6, noSym⟩ (orcR 6 k6) := orcR_ok (xo_ok (noOrc_ok _ _)) rfl k6_okR k6_run
theorem k7_run : runH (xo (orcOr (orcR 6 k6) (orcOr (orcR 6 k1) noOrc))) 100000 k7 = true := by kernel_rfl
theorem k7_okR : okR 6 k7 = true := by kernel_rfl
theorem k7_ok : OrcOk Tryz.prog ⟨6, noSym⟩ (orcR 6 k7) := orcR_ok (xo_ok (orcOr_ok k6_ok (orcOr_ok k1_ok (noOrc_ok _ _)))) rfl k7_okR k7_run
theorem k8_run : runH (xo noOrc) 100000 k8 = true := by kernel_rfl
theorem k8_okR : okR 6 k8 = true := by kernel_rfl
theorem k8_ok : OrcOk Tryz.prog ⟨6, noSym⟩ (orcR 6 k8) := orcR_ok (xo_ok (noOrc_ok _ _)) rfl k8_okR k8_run
theorem k9_run : runH (xo (orcOr (orcR 6 k8) noOrc)) 100000 k9 = true := by kernel_rfl
theorem k9_ok : OrcOk Tryz.prog ⟨6, noSym⟩ (orcH k9) := orcH_ok (xo_ok (orcOr_ok k8_ok (noOrc_ok _ _))) k9_run
theorem k10_run : runH (xo (orcOr (orcR 6 k0) (orcOr (orcR 6 k1) (orcOr (orcH k2) (orcOr (orcR 6 k3) (orcOr (orcH k4) (orcOr (orcR 6 k5) (orcOr (orcR 6 k7) (orcOr (orcH k9) noOrc))))))))) 100000 k10 = true := by kernel_rfl
theorem k10_xok : (xo (orcOr (orcR 6 k0) (orcOr (orcR 6 k1) (orcOr (orcH k2) (orcOr (orcR 6 k3) (orcOr (orcH k4) (orcOr (orcR 6 k5) (orcOr (orcR 6 k7) (orcOr (orcH k9) noOrc))))))))).Ok := xo_ok (orcOr_ok k0_ok (orcOr_ok k1_ok (orcOr_ok k2_ok (orcOr_ok k3_ok (orcOr_ok k4_ok (orcOr_ok k5_ok (orcOr_ok k7_ok (orcOr_ok k9_ok (noOrc_ok _ _)))))))))
theorem k11_run : runH (xo noOrc) 100000 k11 = true := by kernel_rfl
theorem k11_ok : OrcOk Tryz.prog ⟨6, noSym⟩ (orcH k11) := orcH_ok (xo_ok (noOrc_ok _ _)) k11_run
theorem k12_run : runH (xo noOrc) 100000 k12 = true := by kernel_rfl
theorem k12_ok : OrcOk Tryz.prog ⟨6, noSym⟩ (orcH k12) := orcH_ok (xo_ok (noOrc_ok _ _)) k12_run
end Go.Proofs.YtnbopkflhjakdaaGreatDoor.Mv
