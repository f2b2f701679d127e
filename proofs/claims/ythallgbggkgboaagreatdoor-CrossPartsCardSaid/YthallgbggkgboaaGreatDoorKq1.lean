/-
  The runs of known calls.
-/
import Derived.Test.YthallgbggkgboaaGreatDoorKq0
namespace Go.Proofs.YthallgbggkgboaaGreatDoor.Kw
open Go Go.RowKit CX
theorem k0_run (s : Nat → Value) : runH (xo s noOrc) 100000 k0 = true := by kernel_rfl
theorem k0_ok (s : Nat → Value) : OrcOk Tryz.prog ⟨6, s⟩ (orcH k0) := orcH_ok (xo_ok (noOrc_ok _ _)) (k0_run s)
theorem k1_run (s : Nat → Value) : runH (xo s noOrc) 100000 k1 = true := by kernel_rfl
theorem k1_ok (s : Nat → Value) : OrcOk Tryz.prog ⟨6, s⟩ (orcH k1) := orcH_ok (xo_ok (noOrc_ok _ _)) (k1_run s)
theorem k2_run (s : Nat → Value) : runH (xo s noOrc) 100000 k2 = true := by kernel_rfl
theorem k2_okR : okR 6 k2 = true := by kernel_rfl
theorem k2_ok (s : Nat → Value) : OrcOk Tryz.prog ⟨6, s⟩ (orcR 6 k2) := orcR_ok (xo_ok (noOrc_ok _ _)) rfl k2_okR (k2_run s)
theorem k3_run (s : Nat → Value) : runH (xo s (orcOr (orcR 6 k2) noOrc)) 100000 k3 = true := by kernel_rfl
theorem k3_ok (s : Nat → Value) : OrcOk Tryz.prog ⟨6, s⟩ (orcH k3) := orcH_ok (xo_ok (orcOr_ok (k2_ok s) (noOrc_ok _ _))) (k3_run s)
theorem k4_run (s : Nat → Value) : runH (xo s (orcOr (orcR 6 k2) (orcOr (orcH k3) noOrc))) 100000 k4 = true := by kernel_rfl
theorem k4_ok (s : Nat → Value) : OrcOk Tryz.prog ⟨6, s⟩ (orcH k4) := orcH_ok (xo_ok (orcOr_ok (k2_ok s) (orcOr_ok (k3_ok s) (noOrc_ok _ _)))) (k4_run s)
theorem k5_run (s : Nat → Value) : runH (xo s (orcOr (orcR 6 k2) noOrc)) 100000 k5 = true := by kernel_rfl
theorem k5_okR : okR 6 k5 = true := by kernel_rfl
theorem k5_ok (s : Nat → Value) : OrcOk Tryz.prog ⟨6, s⟩ (orcR 6 k5) := orcR_ok (xo_ok (orcOr_ok (k2_ok s) (noOrc_ok _ _))) rfl k5_okR (k5_run s)
theorem k6_run (s : Nat → Value) : runH (xo s (orcOr (orcR 6 k2) noOrc)) 100000 k6 = true := by kernel_rfl
theorem k6_okR : okR 6 k6 = true := by kernel_rfl
theorem k6_ok (s : Nat → Value) : OrcOk Tryz.prog ⟨6, s⟩ (orcR 6 k6) := orcR_ok (xo_ok (orcOr_ok (k2_ok s) (noOrc_ok _ _))) rfl k6_okR (k6_run s)
theorem k7_run (s : Nat → Value) : runH (xo s noOrc) 100000 k7 = true := by kernel_rfl
theorem k7_okR : okR 6 k7 = true := by kernel_rfl
theorem k7_ok (s : Nat → Value) : OrcOk Tryz.prog ⟨6, s⟩ (orcR 6 k7) := orcR_ok (xo_ok (noOrc_ok _ _)) rfl k7_okR (k7_run s)
theorem k8_run (s : Nat → Value) : runH (xo s (orcOr (orcR 6 k7) noOrc)) 100000 k8 = true := by kernel_rfl
theorem k8_okR : okR 6 k8 = true := by kernel_rfl
theorem k8_ok (s : Nat → Value) : OrcOk Tryz.prog ⟨6, s⟩ (orcR 6 k8) := orcR_ok (xo_ok (orcOr_ok (k7_ok s) (noOrc_ok _ _))) rfl k8_okR (k8_run s)
theorem k9_run (s : Nat → Value) : runH (xo s noOrc) 100000 k9 = true := by kernel_rfl
theorem k9_ok (s : Nat → Value) : OrcOk Tryz.prog ⟨6, s⟩ (orcH k9) := orcH_ok (xo_ok (noOrc_ok _ _)) (k9_run s)
theorem k10_run (s : Nat → Value) : runH (xo s noOrc) 100000 k10 = true := by kernel_rfl
theorem k10_okR : okR 6 k10 = true := by kernel_rfl
theorem k10_ok (s : Nat → Value) : OrcOk Tryz.prog ⟨6, s⟩ (orcR 6 k10) := orcR_ok (xo_ok (noOrc_ok _ _)) rfl k10_okR (k10_run s)
theorem k11_run (s : Nat → Value) : runH (xo s (orcOr (orcR 6 k7) (orcOr (orcR 6 k8) (orcOr (orcH k9) (orcOr (orcR 6 k10) noOrc))))) 100000 k11 = true := by kernel_rfl
theorem k11_ok (s : Nat → Value) : OrcOk Tryz.prog ⟨6, s⟩ (orcH k11) := orcH_ok (xo_ok (orcOr_ok (k7_ok s) (orcOr_ok (k8_ok s) (orcOr_ok (k9_ok s) (orcOr_ok (k10_ok s) (noOrc_ok _ _)))))) (k11_run s)
theorem k12_run (s : Nat → Value) : runH (xo s (orcOr (orcR 6 k10) noOrc)) 100000 k12 = true := by kernel_rfl
theorem k12_okR : okR 6 k12 = true := by kernel_rfl
theorem k12_ok (s : Nat → Value) : OrcOk Tryz.prog ⟨6, s⟩ (orcR 6 k12) := orcR_ok (xo_ok (orcOr_ok (k10_ok s) (noOrc_ok _ _))) rfl k12_okR (k12_run s)
theorem k13_run (s : Nat → Value) : runH (xo s noOrc) 100000 k13 = true := by kernel_rfl
theorem k13_okR : okR 6 k13 = true := by kernel_rfl
theorem k13_ok (s : Nat → Value) : OrcOk Tryz.prog ⟨6, s⟩ (orcR 6 k13) := orcR_ok (xo_ok (noOrc_ok _ _)) rfl k13_okR (k13_run s)
theorem k14_run (s : Nat → Value) : runH (xo s (orcOr (orcR 6 k12) (orcOr (orcR 6 k13) (orcOr (orcR 6 k10) noOrc)))) 100000 k14 = true := by kernel_rfl
theorem k14_ok (s : Nat → Value) : OrcOk Tryz.prog ⟨6, s⟩ (orcH k14) := orcH_ok (xo_ok (orcOr_ok (k12_ok s) (orcOr_ok (k13_ok s) (orcOr_ok (k10_ok s) (noOrc_ok _ _))))) (k14_run s)
theorem k15_run (s : Nat → Value) : runH (xo s (orcOr (orcR 6 k13) noOrc)) 100000 k15 = true := by kernel_rfl
theorem k15_okR : okR 6 k15 = true := by kernel_rfl
theorem k15_ok (s : Nat → Value) : OrcOk Tryz.prog ⟨6, s⟩ (orcR 6 k15) := orcR_ok (xo_ok (orcOr_ok (k13_ok s) (noOrc_ok _ _))) rfl k15_okR (k15_run s)
theorem k16_run (s : Nat → Value) : runH (xo s (orcOr (orcH k14) (orcOr (orcR 6 k15) noOrc))) 100000 k16 = true := by kernel_rfl
theorem k16_ok (s : Nat → Value) : OrcOk Tryz.prog ⟨6, s⟩ (orcH k16) := orcH_ok (xo_ok (orcOr_ok (k14_ok s) (orcOr_ok (k15_ok s) (noOrc_ok _ _)))) (k16_run s)
end Go.Proofs.YthallgbggkgboaaGreatDoor.Kw
