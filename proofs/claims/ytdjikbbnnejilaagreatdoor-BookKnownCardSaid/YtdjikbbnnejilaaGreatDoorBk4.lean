/-
  The runs of known calls.
-/
import Derived.Test.YtdjikbbnnejilaaGreatDoorBk0
namespace Go.Proofs.YtdjikbbnnejilaaGreatDoor.Kw
open Go Go.RowKit CX
theorem k8_run (s : Nat → Value) : runH (xo s noOrc) 100000 k8 = true := by kernel_rfl
theorem k8_okR : okR 6 k8 = true := by kernel_rfl
theorem k8_ok (s : Nat → Value) : OrcOk Tryz.prog ⟨6, s⟩ (orcR 6 k8) := orcR_ok (xo_ok (noOrc_ok _ _)) rfl k8_okR (k8_run s)
theorem k9_run (s : Nat → Value) : runH (xo s noOrc) 100000 k9 = true := by kernel_rfl
theorem k9_ok (s : Nat → Value) : OrcOk Tryz.prog ⟨6, s⟩ (orcH k9) := orcH_ok (xo_ok (noOrc_ok _ _)) (k9_run s)
theorem k10_run (s : Nat → Value) : runH (xo s noOrc) 100000 k10 = true := by kernel_rfl
theorem k10_ok (s : Nat → Value) : OrcOk Tryz.prog ⟨6, s⟩ (orcH k10) := orcH_ok (xo_ok (noOrc_ok _ _)) (k10_run s)
end Go.Proofs.YtdjikbbnnejilaaGreatDoor.Kw
