/-
  The runs of known calls.
-/
import Derived.Test.YtdcjedkgpabjhaaGreatDoorTk0
import Derived.Test.YtdcjedkgpabjhaaGreatDoorTk0a
namespace Go.Proofs.YtdcjedkgpabjhaaGreatDoor.Kw
open Go Go.RowKit CX
theorem k0_run (s : Nat → Value) : runH (xo s noOrc) 100000 k0 = true := by kernel_rfl
theorem k0_ok (s : Nat → Value) : OrcOk Tryz.prog ⟨8, s⟩ (orcH k0) := orcH_ok (xo_ok (noOrc_ok _ _)) (k0_run s)
theorem k1_run (s : Nat → Value) : runH (xo s noOrc) 100000 k1 = true := by kernel_rfl
theorem k1_ok (s : Nat → Value) : OrcOk Tryz.prog ⟨8, s⟩ (orcH k1) := orcH_ok (xo_ok (noOrc_ok _ _)) (k1_run s)
theorem k2_run (s : Nat → Value) : runH (xo s (orcOr (orcH k1) noOrc)) 100000 k2 = true := by kernel_rfl
theorem k2_ok (s : Nat → Value) : OrcOk Tryz.prog ⟨8, s⟩ (orcH k2) := orcH_ok (xo_ok (orcOr_ok (k1_ok s) (noOrc_ok _ _))) (k2_run s)
theorem k3_run (s : Nat → Value) : runH (xo s noOrc) 100000 k3 = true := by kernel_rfl
theorem k3_ok (s : Nat → Value) : OrcOk Tryz.prog ⟨8, s⟩ (orcH k3) := orcH_ok (xo_ok (noOrc_ok _ _)) (k3_run s)
theorem k4_run (s : Nat → Value) : runH (xo s (orcOr (orcH k3) noOrc)) 100000 k4 = true := by kernel_rfl
theorem k4_ok (s : Nat → Value) : OrcOk Tryz.prog ⟨8, s⟩ (orcH k4) := orcH_ok (xo_ok (orcOr_ok (k3_ok s) (noOrc_ok _ _))) (k4_run s)
theorem k5_run (s : Nat → Value) : runH (xo s noOrc) 100000 k5 = true := by kernel_rfl
theorem k5_ok (s : Nat → Value) : OrcOk Tryz.prog ⟨8, s⟩ (orcH k5) := orcH_ok (xo_ok (noOrc_ok _ _)) (k5_run s)
theorem k6_run (s : Nat → Value) : runH (xo s noOrc) 100000 k6 = true := by kernel_rfl
theorem k6_ok (s : Nat → Value) : OrcOk Tryz.prog ⟨8, s⟩ (orcH k6) := orcH_ok (xo_ok (noOrc_ok _ _)) (k6_run s)
theorem k7_run (s : Nat → Value) : runH (xo s noOrc) 100000 k7 = true := by kernel_rfl
theorem k7_ok (s : Nat → Value) : OrcOk Tryz.prog ⟨8, s⟩ (orcH k7) := orcH_ok (xo_ok (noOrc_ok _ _)) (k7_run s)
theorem k8_run (s : Nat → Value) : runH (xo s (orcOr (orcH k7) noOrc)) 100000 k8 = true := by kernel_rfl
theorem k8_ok (s : Nat → Value) : OrcOk Tryz.prog ⟨8, s⟩ (orcH k8) := orcH_ok (xo_ok (orcOr_ok (k7_ok s) (noOrc_ok _ _))) (k8_run s)
theorem k9_run (s : Nat → Value) : runH (xo s noOrc) 100000 k9 = true := by kernel_rfl
theorem k9_ok (s : Nat → Value) : OrcOk Tryz.prog ⟨8, s⟩ (orcH k9) := orcH_ok (xo_ok (noOrc_ok _ _)) (k9_run s)
theorem k10_run (s : Nat → Value) : runH (xo s (orcOr (orcH k9) noOrc)) 100000 k10 = true := by kernel_rfl
theorem k10_ok (s : Nat → Value) : OrcOk Tryz.prog ⟨8, s⟩ (orcH k10) := orcH_ok (xo_ok (orcOr_ok (k9_ok s) (noOrc_ok _ _))) (k10_run s)
theorem k11_run (s : Nat → Value) : runH (xo s noOrc) 100000 k11 = true := by kernel_rfl
theorem k11_ok (s : Nat → Value) : OrcOk Tryz.prog ⟨8, s⟩ (orcH k11) := orcH_ok (xo_ok (noOrc_ok _ _)) (k11_run s)
theorem k12_run (s : Nat → Value) : runH (xo s noOrc) 100000 k12 = true := by kernel_rfl
theorem k12_ok (s : Nat → Value) : OrcOk Tryz.prog ⟨8, s⟩ (orcH k12) := orcH_ok (xo_ok (noOrc_ok _ _)) (k12_run s)
theorem k13_run (s : Nat → Value) : runH (xo s noOrc) 100000 k13 = true := by kernel_rfl
theorem k13_ok (s : Nat → Value) : OrcOk Tryz.prog ⟨8, s⟩ (orcH k13) := orcH_ok (xo_ok (noOrc_ok _ _)) (k13_run s)
theorem k14_run (s : Nat → Value) : runH (xo s noOrc) 100000 k14 = true := by kernel_rfl
theorem k14_ok (s : Nat → Value) : OrcOk Tryz.prog ⟨8, s⟩ (orcH k14) := orcH_ok (xo_ok (noOrc_ok _ _)) (k14_run s)
theorem k15_run (s : Nat → Value) : runH (xo s noOrc) 100000 k15 = true := by kernel_rfl
theorem k15_ok (s : Nat → Value) : OrcOk Tryz.prog ⟨8, s⟩ (orcH k15) := orcH_ok (xo_ok (noOrc_ok _ _)) (k15_run s)
end Go.Proofs.YtdcjedkgpabjhaaGreatDoor.Kw
