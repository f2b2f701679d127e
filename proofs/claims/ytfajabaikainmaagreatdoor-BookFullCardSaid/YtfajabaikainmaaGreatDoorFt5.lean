/-
  The runs of known calls.
-/
import Derived.Test.YtfajabaikainmaaGreatDoorFt0
namespace Go.Proofs.YtfajabaikainmaaGreatDoor.Kt
open Go Go.RowKit CX
theorem k49_run (s : Nat → Value) : runH (xo s noOrc) 100000 k49 = true := by kernel_rfl
theorem k49_okR : okR 6 k49 = true := by kernel_rfl
theorem k49_ok (s : Nat → Value) : OrcOk Tryz.prog ⟨6, s⟩ (orcR 6 k49) := orcR_ok (xo_ok (noOrc_ok _ _)) rfl k49_okR (k49_run s)
theorem k50_run (s : Nat → Value) : runH (xo s noOrc) 100000 k50 = true := by kernel_rfl
theorem k50_okR : okR 6 k50 = true := by kernel_rfl
theorem k50_ok (s : Nat → Value) : OrcOk Tryz.prog ⟨6, s⟩ (orcR 6 k50) := orcR_ok (xo_ok (noOrc_ok _ _)) rfl k50_okR (k50_run s)
theorem k51_run (s : Nat → Value) : runH (xo s (orcOr (orcR 6 k50) noOrc)) 100000 k51 = true := by kernel_rfl
theorem k51_ok (s : Nat → Value) : OrcOk Tryz.prog ⟨6, s⟩ (orcH k51) := orcH_ok (xo_ok (orcOr_ok (k50_ok s) (noOrc_ok _ _))) (k51_run s)
theorem k52_run (s : Nat → Value) : runH (xo s noOrc) 100000 k52 = true := by kernel_rfl
theorem k52_ok (s : Nat → Value) : OrcOk Tryz.prog ⟨6, s⟩ (orcH k52) := orcH_ok (xo_ok (noOrc_ok _ _)) (k52_run s)
theorem k53_run (s : Nat → Value) : runH (xo s noOrc) 100000 k53 = true := by kernel_rfl
theorem k53_ok (s : Nat → Value) : OrcOk Tryz.prog ⟨6, s⟩ (orcH k53) := orcH_ok (xo_ok (noOrc_ok _ _)) (k53_run s)
theorem k54_run (s : Nat → Value) : runH (xo s noOrc) 100000 k54 = true := by kernel_rfl
theorem k54_okR : okR 6 k54 = true := by kernel_rfl
theorem k54_ok (s : Nat → Value) : OrcOk Tryz.prog ⟨6, s⟩ (orcR 6 k54) := orcR_ok (xo_ok (noOrc_ok _ _)) rfl k54_okR (k54_run s)
end Go.Proofs.YtfajabaikainmaaGreatDoor.Kt
