/-
  The runs of known calls.
-/
import Derived.Test.YtnbopkflhjakdaaGreatDoorKb0
import Derived.Test.YtnbopkflhjakdaaGreatDoorKb1
namespace Go.Proofs.YtnbopkflhjakdaaGreatDoor.Kw
open Go Go.RowKit CX
theorem k3_run (s : Nat → Value) : runH (xo s noOrc) 100000 k3 = true := by kernel_rfl
theorem k3_okR : okR 6 k3 = true := by kernel_rfl
theorem k3_ok (s : Nat → Value) : OrcOk Tryz.prog ⟨6, s⟩ (orcR 6 k3) := orcR_ok (xo_ok (noOrc_ok _ _)) rfl k3_okR (k3_run s)
theorem k4_run (s : Nat → Value) : runH (xo s (orcOr (orcR 6 k3) noOrc)) 100000 k4 = true := by kernel_rfl
theorem k4_ok (s : Nat → Value) : OrcOk Tryz.prog ⟨6, s⟩ (orcH k4) := orcH_ok (xo_ok (orcOr_ok (k3_ok s) (noOrc_ok _ _))) (k4_run s)
theorem k5_run (s : Nat → Value) : runH (xo s noOrc) 100000 k5 = true := by kernel_rfl
theorem k5_ok (s : Nat → Value) : OrcOk Tryz.prog ⟨6, s⟩ (orcH k5) := orcH_ok (xo_ok (noOrc_ok _ _)) (k5_run s)
theorem k6_run (s : Nat → Value) : runH (xo s (orcOr (orcR 6 k0) noOrc)) 100000 k6 = true := by kernel_rfl
theorem k6_ok (s : Nat → Value) : OrcOk Tryz.prog ⟨6, s⟩ (orcH k6) := orcH_ok (xo_ok (orcOr_ok (k0_ok s) (noOrc_ok _ _))) (k6_run s)
theorem k7_run (s : Nat → Value) : runH (xo s noOrc) 100000 k7 = true := by kernel_rfl
theorem k7_okR : okR 6 k7 = true := by kernel_rfl
theorem k7_ok (s : Nat → Value) : OrcOk Tryz.prog ⟨6, s⟩ (orcR 6 k7) := orcR_ok (xo_ok (noOrc_ok _ _)) rfl k7_okR (k7_run s)
theorem k8_run (s : Nat → Value) : runH (xo s (orcOr (orcR 6 k7) noOrc)) 100000 k8 = true := by kernel_rfl
theorem k8_ok (s : Nat → Value) : OrcOk Tryz.prog ⟨6, s⟩ (orcH k8) := orcH_ok (xo_ok (orcOr_ok (k7_ok s) (noOrc_ok _ _))) (k8_run s)
theorem k9_run (s : Nat → Value) : runH (xo s noOrc) 100000 k9 = true := by kernel_rfl
theorem k9_ok (s : Nat → Value) : OrcOk Tryz.prog ⟨6, s⟩ (orcH k9) := orcH_ok (xo_ok (noOrc_ok _ _)) (k9_run s)
end Go.Proofs.YtnbopkflhjakdaaGreatDoor.Kw
