/-
  The runs of known calls.
-/
import Derived.Test.YtfajabaikainmaaGreatDoorFf0
namespace Go.Proofs.YtfajabaikainmaaGreatDoor.Kf
open Go Go.RowKit CX
theorem k4_run (s : Nat → Value) : runH (xo s noOrc) 100000 k4 = true := by kernel_rfl
theorem k4_ok (s : Nat → Value) : OrcOk Tryz.prog ⟨6, s⟩ (orcH k4) := orcH_ok (xo_ok (noOrc_ok _ _)) (k4_run s)
theorem k5_run (s : Nat → Value) : runH (xo s noOrc) 100000 k5 = true := by kernel_rfl
theorem k5_ok (s : Nat → Value) : OrcOk Tryz.prog ⟨6, s⟩ (orcH k5) := orcH_ok (xo_ok (noOrc_ok _ _)) (k5_run s)
theorem k6_run (s : Nat → Value) : runH (xo s noOrc) 100000 k6 = true := by kernel_rfl
theorem k6_ok (s : Nat → Value) : OrcOk Tryz.prog ⟨6, s⟩ (orcH k6) := orcH_ok (xo_ok (noOrc_ok _ _)) (k6_run s)
theorem k7_run (s : Nat → Value) : runH (xo s noOrc) 100000 k7 = true := by kernel_rfl
theorem k7_ok (s : Nat → Value) : OrcOk Tryz.prog ⟨6, s⟩ (orcH k7) := orcH_ok (xo_ok (noOrc_ok _ _)) (k7_run s)
theorem k8_run (s : Nat → Value) : runH (xo s noOrc) 100000 k8 = true := by kernel_rfl
theorem k8_ok (s : Nat → Value) : OrcOk Tryz.prog ⟨6, s⟩ (orcH k8) := orcH_ok (xo_ok (noOrc_ok _ _)) (k8_run s)
theorem k9_run (s : Nat → Value) : runH (xo s noOrc) 100000 k9 = true := by kernel_rfl
theorem k9_ok (s : Nat → Value) : OrcOk Tryz.prog ⟨6, s⟩ (orcH k9) := orcH_ok (xo_ok (noOrc_ok _ _)) (k9_run s)
theorem k10_run (s : Nat → Value) : runH (xo s noOrc) 100000 k10 = true := by kernel_rfl
theorem k10_ok (s : Nat → Value) : OrcOk Tryz.prog ⟨6, s⟩ (orcH k10) := orcH_ok (xo_ok (noOrc_ok _ _)) (k10_run s)
theorem k11_run (s : Nat → Value) : runH (xo s noOrc) 100000 k11 = true := by kernel_rfl
theorem k11_ok (s : Nat → Value) : OrcOk Tryz.prog ⟨6, s⟩ (orcH k11) := orcH_ok (xo_ok (noOrc_ok _ _)) (k11_run s)
theorem k12_run (s : Nat → Value) : runH (xo s noOrc) 100000 k12 = true := by kernel_rfl
theorem k12_ok (s : Nat → Value) : OrcOk Tryz.prog ⟨6, s⟩ (orcH k12) := orcH_ok (xo_ok (noOrc_ok _ _)) (k12_run s)
theorem k13_run (s : Nat → Value) : runH (xo s noOrc) 100000 k13 = true := by kernel_rfl
theorem k13_ok (s : Nat → Value) : OrcOk Tryz.prog ⟨6, s⟩ (orcH k13) := orcH_ok (xo_ok (noOrc_ok _ _)) (k13_run s)
theorem k14_run (s : Nat → Value) : runH (xo s noOrc) 100000 k14 = true := by kernel_rfl
theorem k14_ok (s : Nat → Value) : OrcOk Tryz.prog ⟨6, s⟩ (orcH k14) := orcH_ok (xo_ok (noOrc_ok _ _)) (k14_run s)
theorem k15_run (s : Nat → Value) : runH (xo s noOrc) 100000 k15 = true := by kernel_rfl
theorem k15_ok (s : Nat → Value) : OrcOk Tryz.prog ⟨6, s⟩ (orcH k15) := orcH_ok (xo_ok (noOrc_ok _ _)) (k15_run s)
theorem k16_run (s : Nat → Value) : runH (xo s noOrc) 100000 k16 = true := by kernel_rfl
theorem k16_ok (s : Nat → Value) : OrcOk Tryz.prog ⟨6, s⟩ (orcH k16) := orcH_ok (xo_ok (noOrc_ok _ _)) (k16_run s)
theorem k17_run (s : Nat → Value) : runH (xo s noOrc) 100000 k17 = true := by kernel_rfl
theorem k17_ok (s : Nat → Value) : OrcOk Tryz.prog ⟨6, s⟩ (orcH k17) := orcH_ok (xo_ok (noOrc_ok _ _)) (k17_run s)
theorem k18_run (s : Nat → Value) : runH (xo s noOrc) 100000 k18 = true := by kernel_rfl
theorem k18_ok (s : Nat → Value) : OrcOk Tryz.prog ⟨6, s⟩ (orcH k18) := orcH_ok (xo_ok (noOrc_ok _ _)) (k18_run s)
theorem k19_run (s : Nat → Value) : runH (xo s noOrc) 100000 k19 = true := by kernel_rfl
theorem k19_ok (s : Nat → Value) : OrcOk Tryz.prog ⟨6, s⟩ (orcH k19) := orcH_ok (xo_ok (noOrc_ok _ _)) (k19_run s)
theorem k20_run (s : Nat → Value) : runH (xo s noOrc) 100000 k20 = true := by kernel_rfl
theorem k20_ok (s : Nat → Value) : OrcOk Tryz.prog ⟨6, s⟩ (orcH k20) := orcH_ok (xo_ok (noOrc_ok _ _)) (k20_run s)
theorem k21_run (s : Nat → Value) : runH (xo s noOrc) 100000 k21 = true := by kernel_rfl
theorem k21_ok (s : Nat → Value) : OrcOk Tryz.prog ⟨6, s⟩ (orcH k21) := orcH_ok (xo_ok (noOrc_ok _ _)) (k21_run s)
theorem k22_run (s : Nat → Value) : runH (xo s noOrc) 100000 k22 = true := by kernel_rfl
theorem k22_ok (s : Nat → Value) : OrcOk Tryz.prog ⟨6, s⟩ (orcH k22) := orcH_ok (xo_ok (noOrc_ok _ _)) (k22_run s)
theorem k23_run (s : Nat → Value) : runH (xo s noOrc) 100000 k23 = true := by kernel_rfl
theorem k23_ok (s : Nat → Value) : OrcOk Tryz.prog ⟨6, s⟩ (orcH k23) := orcH_ok (xo_ok (noOrc_ok _ _)) (k23_run s)
theorem k24_run (s : Nat → Value) : runH (xo s noOrc) 100000 k24 = true := by kernel_rfl
theorem k24_ok (s : Nat → Value) : OrcOk Tryz.prog ⟨6, s⟩ (orcH k24) := orcH_ok (xo_ok (noOrc_ok _ _)) (k24_run s)
theorem k25_run (s : Nat → Value) : runH (xo s noOrc) 100000 k25 = true := by kernel_rfl
theorem k25_ok (s : Nat → Value) : OrcOk Tryz.prog ⟨6, s⟩ (orcH k25) := orcH_ok (xo_ok (noOrc_ok _ _)) (k25_run s)
theorem k26_run (s : Nat → Value) : runH (xo s noOrc) 100000 k26 = true := by kernel_rfl
theorem k26_ok (s : Nat → Value) : OrcOk Tryz.prog ⟨6, s⟩ (orcH k26) := orcH_ok (xo_ok (noOrc_ok _ _)) (k26_run s)
theorem k27_run (s : Nat → Value) : runH (xo s noOrc) 100000 k27 = true := by kernel_rfl
theorem k27_ok (s : Nat → Value) : OrcOk Tryz.prog ⟨6, s⟩ (orcH k27) := orcH_ok (xo_ok (noOrc_ok _ _)) (k27_run s)
theorem k28_run (s : Nat → Value) : runH (xo s noOrc) 100000 k28 = true := by kernel_rfl
theorem k28_ok (s : Nat → Value) : OrcOk Tryz.prog ⟨6, s⟩ (orcH k28) := orcH_ok (xo_ok (noOrc_ok _ _)) (k28_run s)
theorem k29_run (s : Nat → Value) : runH (xo s noOrc) 100000 k29 = true := by kernel_rfl
theorem k29_ok (s : Nat → Value) : OrcOk Tryz.prog ⟨6, s⟩ (orcH k29) := orcH_ok (xo_ok (noOrc_ok _ _)) (k29_run s)
theorem k30_run (s : Nat → Value) : runH (xo s noOrc) 100000 k30 = true := by kernel_rfl
theorem k30_ok (s : Nat → Value) : OrcOk Tryz.prog ⟨6, s⟩ (orcH k30) := orcH_ok (xo_ok (noOrc_ok _ _)) (k30_run s)
theorem k31_run (s : Nat → Value) : runH (xo s noOrc) 100000 k31 = true := by kernel_rfl
theorem k31_ok (s : Nat → Value) : OrcOk Tryz.prog ⟨6, s⟩ (orcH k31) := orcH_ok (xo_ok (noOrc_ok _ _)) (k31_run s)
theorem k32_run (s : Nat → Value) : runH (xo s noOrc) 100000 k32 = true := by kernel_rfl
theorem k32_ok (s : Nat → Value) : OrcOk Tryz.prog ⟨6, s⟩ (orcH k32) := orcH_ok (xo_ok (noOrc_ok _ _)) (k32_run s)
theorem k33_run (s : Nat → Value) : runH (xo s noOrc) 100000 k33 = true := by kernel_rfl
theorem k33_ok (s : Nat → Value) : OrcOk Tryz.prog ⟨6, s⟩ (orcH k33) := orcH_ok (xo_ok (noOrc_ok _ _)) (k33_run s)
theorem k34_run (s : Nat → Value) : runH (xo s noOrc) 100000 k34 = true := by kernel_rfl
theorem k34_ok (s : Nat → Value) : OrcOk Tryz.prog ⟨6, s⟩ (orcH k34) := orcH_ok (xo_ok (noOrc_ok _ _)) (k34_run s)
theorem k35_run (s : Nat → Value) : runH (xo s noOrc) 100000 k35 = true := by kernel_rfl
theorem k35_ok (s : Nat → Value) : OrcOk Tryz.prog ⟨6, s⟩ (orcH k35) := orcH_ok (xo_ok (noOrc_ok _ _)) (k35_run s)
theorem k36_run (s : Nat → Value) : runH (xo s noOrc) 100000 k36 = true := by kernel_rfl
theorem k36_ok (s : Nat → Value) : OrcOk Tryz.prog ⟨6, s⟩ (orcH k36) := orcH_ok (xo_ok (noOrc_ok _ _)) (k36_run s)
theorem k37_run (s : Nat → Value) : runH (xo s noOrc) 100000 k37 = true := by kernel_rfl
theorem k37_ok (s : Nat → Value) : OrcOk Tryz.prog ⟨6, s⟩ (orcH k37) := orcH_ok (xo_ok (noOrc_ok _ _)) (k37_run s)
end Go.Proofs.YtfajabaikainmaaGreatDoor.Kf
