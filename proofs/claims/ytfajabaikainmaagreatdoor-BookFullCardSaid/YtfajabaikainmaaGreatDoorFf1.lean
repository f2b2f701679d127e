/-
  The runs of known calls.
-/
import Derived.Test.YtfajabaikainmaaGreatDoorFf0
namespace Go.Proofs.YtfajabaikainmaaGreatDoor.Kf
open Go Go.RowKit CX
theorem k0_run (s : Nat → Value) : runH (xo s noOrc) 100000 k0 = true := by kernel_rfl
theorem k0_ok (s : Nat → Value) : OrcOk Tryz.prog ⟨6, s⟩ (orcH k0) := orcH_ok (xo_ok (noOrc_ok _ _)) (k0_run s)
theorem k1_run (s : Nat → Value) : runH (xo s noOrc) 100000 k1 = true := by kernel_rfl
theorem k1_okR : okR 6 k1 = true := by kernel_rfl
theorem k1_ok (s : Nat → Value) : OrcOk Tryz.prog ⟨6, s⟩ (orcR 6 k1) := orcR_ok (xo_ok (noOrc_ok _ _)) rfl k1_okR (k1_run s)
theorem k2_run (s : Nat → Value) : runH (xo s noOrc) 100000 k2 = true := by kernel_rfl
theorem k2_okR : okR 6 k2 = true := by kernel_rfl
theorem k2_ok (s : Nat → Value) : OrcOk Tryz.prog ⟨6, s⟩ (orcR 6 k2) := orcR_ok (xo_ok (noOrc_ok _ _)) rfl k2_okR (k2_run s)
theorem k3_run (s : Nat → Value) : runH (xo s (orcOr (orcR 6 k2) noOrc)) 100000 k3 = true := by kernel_rfl
theorem k3_okR : okR 6 k3 = true := by kernel_rfl
theorem k3_ok (s : Nat → Value) : OrcOk Tryz.prog ⟨6, s⟩ (orcR 6 k3) := orcR_ok (xo_ok (orcOr_ok (k2_ok s) (noOrc_ok _ _))) rfl k3_okR (k3_run s)
end Go.Proofs.YtfajabaikainmaaGreatDoor.Kf
