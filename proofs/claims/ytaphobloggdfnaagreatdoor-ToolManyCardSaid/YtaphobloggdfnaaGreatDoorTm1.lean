/-
  The runs of known calls.
-/
import Derived.Test.YtaphobloggdfnaaGreatDoorTm0
namespace Go.Proofs.YtaphobloggdfnaaGreatDoor.Kw
open Go Go.RowKit CX
theorem k0_run (s : Nat → Value) : runH (xo s noOrc) 100000 k0 = true := by kernel_rfl
theorem k0_ok (s : Nat → Value) : OrcOk Tryz.prog ⟨8, s⟩ (orcH k0) := orcH_ok (xo_ok (noOrc_ok _ _)) (k0_run s)
theorem k1_run (s : Nat → Value) : runH (xo s noOrc) 100000 k1 = true := by kernel_rfl
theorem k1_ok (s : Nat → Value) : OrcOk Tryz.prog ⟨8, s⟩ (orcH k1) := orcH_ok (xo_ok (noOrc_ok _ _)) (k1_run s)
theorem k2_run (s : Nat → Value) : runH (xo s noOrc) 100000 k2 = true := by kernel_rfl
theorem k2_okR : okR 8 k2 = true := by kernel_rfl
theorem k2_ok (s : Nat → Value) : OrcOk Tryz.prog ⟨8, s⟩ (orcR 8 k2) := orcR_ok (xo_ok (noOrc_ok _ _)) rfl k2_okR (k2_run s)
theorem k3_run (s : Nat → Value) : runH (xo s noOrc) 100000 k3 = true := by kernel_rfl
theorem k3_ok (s : Nat → Value) : OrcOk Tryz.prog ⟨8, s⟩ (orcH k3) := orcH_ok (xo_ok (noOrc_ok _ _)) (k3_run s)
theorem k4_run (s : Nat → Value) : runH (xo s (orcOr (orcH k3) noOrc)) 100000 k4 = true := by kernel_rfl
theorem k4_okR : okR 8 k4 = true := by kernel_rfl
theorem k4_ok (s : Nat → Value) : OrcOk Tryz.prog ⟨8, s⟩ (orcR 8 k4) := orcR_ok (xo_ok (orcOr_ok (k3_ok s) (noOrc_ok _ _))) rfl k4_okR (k4_run s)
theorem k5_run (s : Nat → Value) : runH (xo s noOrc) 100000 k5 = true := by kernel_rfl
theorem k5_okR : okR 8 k5 = true := by kernel_rfl
theorem k5_ok (s : Nat → Value) : OrcOk Tryz.prog ⟨8, s⟩ (orcR 8 k5) := orcR_ok (xo_ok (noOrc_ok _ _)) rfl k5_okR (k5_run s)
theorem k6_run (s : Nat → Value) : runH (xo s noOrc) 100000 k6 = true := by kernel_rfl
theorem k6_ok (s : Nat → Value) : OrcOk Tryz.prog ⟨8, s⟩ (orcH k6) := orcH_ok (xo_ok (noOrc_ok _ _)) (k6_run s)
theorem k7_run (s : Nat → Value) : runH (xo s noOrc) 100000 k7 = true := by kernel_rfl
theorem k7_okR : okR 8 k7 = true := by kernel_rfl
theorem k7_ok (s : Nat → Value) : OrcOk Tryz.prog ⟨8, s⟩ (orcR 8 k7) := orcR_ok (xo_ok (noOrc_ok _ _)) rfl k7_okR (k7_run s)
theorem k8_run (s : Nat → Value) : runH (xo s noOrc) 100000 k8 = true := by kernel_rfl
theorem k8_okR : okR 8 k8 = true := by kernel_rfl
theorem k8_ok (s : Nat → Value) : OrcOk Tryz.prog ⟨8, s⟩ (orcR 8 k8) := orcR_ok (xo_ok (noOrc_ok _ _)) rfl k8_okR (k8_run s)
theorem k9_run (s : Nat → Value) : runH (xo s noOrc) 100000 k9 = true := by kernel_rfl
theorem k9_okR : okR 8 k9 = true := by kernel_rfl
theorem k9_ok (s : Nat → Value) : OrcOk Tryz.prog ⟨8, s⟩ (orcR 8 k9) := orcR_ok (xo_ok (noOrc_ok _ _)) rfl k9_okR (k9_run s)
theorem k10_run (s : Nat → Value) : runH (xo s noOrc) 100000 k10 = true := by kernel_rfl
theorem k10_okR : okR 8 k10 = true := by kernel_rfl
theorem k10_ok (s : Nat → Value) : OrcOk Tryz.prog ⟨8, s⟩ (orcR 8 k10) := orcR_ok (xo_ok (noOrc_ok _ _)) rfl k10_okR (k10_run s)
theorem k11_run (s : Nat → Value) : runH (xo s noOrc) 100000 k11 = true := by kernel_rfl
theorem k11_okR : okR 8 k11 = true := by kernel_rfl
theorem k11_ok (s : Nat → Value) : OrcOk Tryz.prog ⟨8, s⟩ (orcR 8 k11) := orcR_ok (xo_ok (noOrc_ok _ _)) rfl k11_okR (k11_run s)
theorem k12_run (s : Nat → Value) : runH (xo s noOrc) 100000 k12 = true := by kernel_rfl
theorem k12_okR : okR 8 k12 = true := by kernel_rfl
theorem k12_ok (s : Nat → Value) : OrcOk Tryz.prog ⟨8, s⟩ (orcR 8 k12) := orcR_ok (xo_ok (noOrc_ok _ _)) rfl k12_okR (k12_run s)
theorem k13_run (s : Nat → Value) : runH (xo s noOrc) 100000 k13 = true := by kernel_rfl
theorem k13_okR : okR 8 k13 = true := by kernel_rfl
theorem k13_ok (s : Nat → Value) : OrcOk Tryz.prog ⟨8, s⟩ (orcR 8 k13) := orcR_ok (xo_ok (noOrc_ok _ _)) rfl k13_okR (k13_run s)
theorem k14_run (s : Nat → Value) : runH (xo s noOrc) 100000 k14 = true := by kernel_rfl
theorem k14_okR : okR 8 k14 = true := by kernel_rfl
theorem k14_ok (s : Nat → Value) : OrcOk Tryz.prog ⟨8, s⟩ (orcR 8 k14) := orcR_ok (xo_ok (noOrc_ok _ _)) rfl k14_okR (k14_run s)
theorem k15_run (s : Nat → Value) : runH (xo s noOrc) 100000 k15 = true := by kernel_rfl
theorem k15_okR : okR 8 k15 = true := by kernel_rfl
theorem k15_ok (s : Nat → Value) : OrcOk Tryz.prog ⟨8, s⟩ (orcR 8 k15) := orcR_ok (xo_ok (noOrc_ok _ _)) rfl k15_okR (k15_run s)
theorem k16_run (s : Nat → Value) : runH (xo s noOrc) 100000 k16 = true := by kernel_rfl
theorem k16_okR : okR 8 k16 = true := by kernel_rfl
theorem k16_ok (s : Nat → Value) : OrcOk Tryz.prog ⟨8, s⟩ (orcR 8 k16) := orcR_ok (xo_ok (noOrc_ok _ _)) rfl k16_okR (k16_run s)
theorem k17_run (s : Nat → Value) : runH (xo s noOrc) 100000 k17 = true := by kernel_rfl
theorem k17_okR : okR 8 k17 = true := by kernel_rfl
theorem k17_ok (s : Nat → Value) : OrcOk Tryz.prog ⟨8, s⟩ (orcR 8 k17) := orcR_ok (xo_ok (noOrc_ok _ _)) rfl k17_okR (k17_run s)
theorem k18_run (s : Nat → Value) : runH (xo s noOrc) 100000 k18 = true := by kernel_rfl
theorem k18_okR : okR 8 k18 = true := by kernel_rfl
theorem k18_ok (s : Nat → Value) : OrcOk Tryz.prog ⟨8, s⟩ (orcR 8 k18) := orcR_ok (xo_ok (noOrc_ok _ _)) rfl k18_okR (k18_run s)
theorem k19_run (s : Nat → Value) : runH (xo s noOrc) 100000 k19 = true := by kernel_rfl
theorem k19_okR : okR 8 k19 = true := by kernel_rfl
theorem k19_ok (s : Nat → Value) : OrcOk Tryz.prog ⟨8, s⟩ (orcR 8 k19) := orcR_ok (xo_ok (noOrc_ok _ _)) rfl k19_okR (k19_run s)
theorem k20_run (s : Nat → Value) : runH (xo s noOrc) 100000 k20 = true := by kernel_rfl
theorem k20_okR : okR 8 k20 = true := by kernel_rfl
theorem k20_ok (s : Nat → Value) : OrcOk Tryz.prog ⟨8, s⟩ (orcR 8 k20) := orcR_ok (xo_ok (noOrc_ok _ _)) rfl k20_okR (k20_run s)
theorem k21_run (s : Nat → Value) : runH (xo s noOrc) 100000 k21 = true := by kernel_rfl
theorem k21_okR : okR 8 k21 = true := by kernel_rfl
theorem k21_ok (s : Nat → Value) : OrcOk Tryz.prog ⟨8, s⟩ (orcR 8 k21) := orcR_ok (xo_ok (noOrc_ok _ _)) rfl k21_okR (k21_run s)
theorem k22_run (s : Nat → Value) : runH (xo s noOrc) 100000 k22 = true := by kernel_rfl
theorem k22_okR : okR 8 k22 = true := by kernel_rfl
theorem k22_ok (s : Nat → Value) : OrcOk Tryz.prog ⟨8, s⟩ (orcR 8 k22) := orcR_ok (xo_ok (noOrc_ok _ _)) rfl k22_okR (k22_run s)
theorem k23_run (s : Nat → Value) : runH (xo s noOrc) 100000 k23 = true := by kernel_rfl
theorem k23_okR : okR 8 k23 = true := by kernel_rfl
theorem k23_ok (s : Nat → Value) : OrcOk Tryz.prog ⟨8, s⟩ (orcR 8 k23) := orcR_ok (xo_ok (noOrc_ok _ _)) rfl k23_okR (k23_run s)
theorem k24_run (s : Nat → Value) : runH (xo s noOrc) 100000 k24 = true := by kernel_rfl
theorem k24_okR : okR 8 k24 = true := by kernel_rfl
theorem k24_ok (s : Nat → Value) : OrcOk Tryz.prog ⟨8, s⟩ (orcR 8 k24) := orcR_ok (xo_ok (noOrc_ok _ _)) rfl k24_okR (k24_run s)
theorem k25_run (s : Nat → Value) : runH (xo s noOrc) 100000 k25 = true := by kernel_rfl
theorem k25_okR : okR 8 k25 = true := by kernel_rfl
theorem k25_ok (s : Nat → Value) : OrcOk Tryz.prog ⟨8, s⟩ (orcR 8 k25) := orcR_ok (xo_ok (noOrc_ok _ _)) rfl k25_okR (k25_run s)
theorem k26_run (s : Nat → Value) : runH (xo s noOrc) 100000 k26 = true := by kernel_rfl
theorem k26_okR : okR 8 k26 = true := by kernel_rfl
theorem k26_ok (s : Nat → Value) : OrcOk Tryz.prog ⟨8, s⟩ (orcR 8 k26) := orcR_ok (xo_ok (noOrc_ok _ _)) rfl k26_okR (k26_run s)
theorem k27_run (s : Nat → Value) : runH (xo s noOrc) 100000 k27 = true := by kernel_rfl
theorem k27_ok (s : Nat → Value) : OrcOk Tryz.prog ⟨8, s⟩ (orcH k27) := orcH_ok (xo_ok (noOrc_ok _ _)) (k27_run s)
theorem k28_run (s : Nat → Value) : runH (xo s noOrc) 100000 k28 = true := by kernel_rfl
theorem k28_ok (s : Nat → Value) : OrcOk Tryz.prog ⟨8, s⟩ (orcH k28) := orcH_ok (xo_ok (noOrc_ok _ _)) (k28_run s)
end Go.Proofs.YtaphobloggdfnaaGreatDoor.Kw
