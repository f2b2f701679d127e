/-
  The runs of known calls.
-/
import Derived.Test.YtfajabaikainmaaGreatDoorFt0
namespace Go.Proofs.YtfajabaikainmaaGreatDoor.Kt
open Go Go.RowKit CX
theorem k24_run (s : Nat → Value) : runH (xo s noOrc) 100000 k24 = true := by kernel_rfl
theorem k24_ok (s : Nat → Value) : OrcOk Tryz.prog ⟨6, s⟩ (orcH k24) := orcH_ok (xo_ok (noOrc_ok _ _)) (k24_run s)
theorem k25_run (s : Nat → Value) : runH (xo s noOrc) 100000 k25 = true := by kernel_rfl
theorem k25_okR : okR 6 k25 = true := by kernel_rfl
theorem k25_ok (s : Nat → Value) : OrcOk Tryz.prog ⟨6, s⟩ (orcR 6 k25) := orcR_ok (xo_ok (noOrc_ok _ _)) rfl k25_okR (k25_run s)
theorem k26_run (s : Nat → Value) : runH (xo s noOrc) 100000 k26 = true := by kernel_rfl
theorem k26_ok (s : Nat → Value) : OrcOk Tryz.prog ⟨6, s⟩ (orcH k26) := orcH_ok (xo_ok (noOrc_ok _ _)) (k26_run s)
theorem k27_run (s : Nat → Value) : runH (xo s noOrc) 100000 k27 = true := by kernel_rfl
theorem k27_okR : okR 6 k27 = true := by kernel_rfl
theorem k27_ok (s : Nat → Value) : OrcOk Tryz.prog ⟨6, s⟩ (orcR 6 k27) := orcR_ok (xo_ok (noOrc_ok _ _)) rfl k27_okR (k27_run s)
theorem k28_run (s : Nat → Value) : runH (xo s noOrc) 100000 k28 = true := by kernel_rfl
theorem k28_ok (s : Nat → Value) : OrcOk Tryz.prog ⟨6, s⟩ (orcH k28) := orcH_ok (xo_ok (noOrc_ok _ _)) (k28_run s)
theorem k29_run (s : Nat → Value) : runH (xo s noOrc) 100000 k29 = true := by kernel_rfl
theorem k29_okR : okR 6 k29 = true := by kernel_rfl
theorem k29_ok (s : Nat → Value) : OrcOk Tryz.prog ⟨6, s⟩ (orcR 6 k29) := orcR_ok (xo_ok (noOrc_ok _ _)) rfl k29_okR (k29_run s)
theorem k30_run (s : Nat → Value) : runH (xo s noOrc) 100000 k30 = true := by kernel_rfl
theorem k30_ok (s : Nat → Value) : OrcOk Tryz.prog ⟨6, s⟩ (orcH k30) := orcH_ok (xo_ok (noOrc_ok _ _)) (k30_run s)
theorem k31_run (s : Nat → Value) : runH (xo s noOrc) 100000 k31 = true := by kernel_rfl
theorem k31_okR : okR 6 k31 = true := by kernel_rfl
theorem k31_ok (s : Nat → Value) : OrcOk Tryz.prog ⟨6, s⟩ (orcR 6 k31) := orcR_ok (xo_ok (noOrc_ok _ _)) rfl k31_okR (k31_run s)
theorem k32_run (s : Nat → Value) : runH (xo s noOrc) 100000 k32 = true := by kernel_rfl
theorem k32_ok (s : Nat → Value) : OrcOk Tryz.prog ⟨6, s⟩ (orcH k32) := orcH_ok (xo_ok (noOrc_ok _ _)) (k32_run s)
theorem k33_run (s : Nat → Value) : runH (xo s noOrc) 100000 k33 = true := by kernel_rfl
theorem k33_okR : okR 6 k33 = true := by kernel_rfl
theorem k33_ok (s : Nat → Value) : OrcOk Tryz.prog ⟨6, s⟩ (orcR 6 k33) := orcR_ok (xo_ok (noOrc_ok _ _)) rfl k33_okR (k33_run s)
theorem k34_run (s : Nat → Value) : runH (xo s noOrc) 100000 k34 = true := by kernel_rfl
theorem k34_ok (s : Nat → Value) : OrcOk Tryz.prog ⟨6, s⟩ (orcH k34) := orcH_ok (xo_ok (noOrc_ok _ _)) (k34_run s)
theorem k35_run (s : Nat → Value) : runH (xo s noOrc) 100000 k35 = true := by kernel_rfl
theorem k35_okR : okR 6 k35 = true := by kernel_rfl
theorem k35_ok (s : Nat → Value) : OrcOk Tryz.prog ⟨6, s⟩ (orcR 6 k35) := orcR_ok (xo_ok (noOrc_ok _ _)) rfl k35_okR (k35_run s)
theorem k36_run (s : Nat → Value) : runH (xo s noOrc) 100000 k36 = true := by kernel_rfl
theorem k36_ok (s : Nat → Value) : OrcOk Tryz.prog ⟨6, s⟩ (orcH k36) := orcH_ok (xo_ok (noOrc_ok _ _)) (k36_run s)
theorem k37_run (s : Nat → Value) : runH (xo s noOrc) 100000 k37 = true := by kernel_rfl
theorem k37_okR : okR 6 k37 = true := by kernel_rfl
theorem k37_ok (s : Nat → Value) : OrcOk Tryz.prog ⟨6, s⟩ (orcR 6 k37) := orcR_ok (xo_ok (noOrc_ok _ _)) rfl k37_okR (k37_run s)
theorem k38_run (s : Nat → Value) : runH (xo s noOrc) 100000 k38 = true := by kernel_rfl
theorem k38_ok (s : Nat → Value) : OrcOk Tryz.prog ⟨6, s⟩ (orcH k38) := orcH_ok (xo_ok (noOrc_ok _ _)) (k38_run s)
theorem k39_run (s : Nat → Value) : runH (xo s noOrc) 100000 k39 = true := by kernel_rfl
theorem k39_okR : okR 6 k39 = true := by kernel_rfl
theorem k39_ok (s : Nat → Value) : OrcOk Tryz.prog ⟨6, s⟩ (orcR 6 k39) := orcR_ok (xo_ok (noOrc_ok _ _)) rfl k39_okR (k39_run s)
theorem k40_run (s : Nat → Value) : runH (xo s noOrc) 100000 k40 = true := by kernel_rfl
theorem k40_ok (s : Nat → Value) : OrcOk Tryz.prog ⟨6, s⟩ (orcH k40) := orcH_ok (xo_ok (noOrc_ok _ _)) (k40_run s)
theorem k41_run (s : Nat → Value) : runH (xo s noOrc) 100000 k41 = true := by kernel_rfl
theorem k41_ok (s : Nat → Value) : OrcOk Tryz.prog ⟨6, s⟩ (orcH k41) := orcH_ok (xo_ok (noOrc_ok _ _)) (k41_run s)
theorem k42_run (s : Nat → Value) : runH (xo s noOrc) 100000 k42 = true := by kernel_rfl
theorem k42_ok (s : Nat → Value) : OrcOk Tryz.prog ⟨6, s⟩ (orcH k42) := orcH_ok (xo_ok (noOrc_ok _ _)) (k42_run s)
theorem k43_run (s : Nat → Value) : runH (xo s noOrc) 100000 k43 = true := by kernel_rfl
theorem k43_ok (s : Nat → Value) : OrcOk Tryz.prog ⟨6, s⟩ (orcH k43) := orcH_ok (xo_ok (noOrc_ok _ _)) (k43_run s)
theorem k44_run (s : Nat → Value) : runH (xo s noOrc) 100000 k44 = true := by kernel_rfl
theorem k44_ok (s : Nat → Value) : OrcOk Tryz.prog ⟨6, s⟩ (orcH k44) := orcH_ok (xo_ok (noOrc_ok _ _)) (k44_run s)
theorem k45_run (s : Nat → Value) : runH (xo s noOrc) 100000 k45 = true := by kernel_rfl
theorem k45_okR : okR 6 k45 = true := by kernel_rfl
theorem k45_ok (s : Nat → Value) : OrcOk Tryz.prog ⟨6, s⟩ (orcR 6 k45) := orcR_ok (xo_ok (noOrc_ok _ _)) rfl k45_okR (k45_run s)
theorem k46_run (s : Nat → Value) : runH (xo s noOrc) 100000 k46 = true := by kernel_rfl
theorem k46_ok (s : Nat → Value) : OrcOk Tryz.prog ⟨6, s⟩ (orcH k46) := orcH_ok (xo_ok (noOrc_ok _ _)) (k46_run s)
theorem k47_run (s : Nat → Value) : runH (xo s noOrc) 100000 k47 = true := by kernel_rfl
theorem k47_ok (s : Nat → Value) : OrcOk Tryz.prog ⟨6, s⟩ (orcH k47) := orcH_ok (xo_ok (noOrc_ok _ _)) (k47_run s)
end Go.Proofs.YtfajabaikainmaaGreatDoor.Kt
