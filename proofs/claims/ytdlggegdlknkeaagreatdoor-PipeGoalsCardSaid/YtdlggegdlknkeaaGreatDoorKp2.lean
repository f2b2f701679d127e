/-
  The runs of known calls.
-/
import Derived.Test.YtdlggegdlknkeaaGreatDoorKp0
namespace Go.Proofs.YtdlggegdlknkeaaGreatDoor.Kw
open Go Go.RowKit CX
theorem k3_run (s : Nat → Value) : runH (xo s noOrc) 100000 k3 = true := by kernel_rfl
theorem k3_okR : okR 6 k3 = true := by kernel_rfl
theorem k3_ok (s : Nat → Value) : OrcOk Tryz.prog ⟨6, s⟩ (orcR 6 k3) := orcR_ok (xo_ok (noOrc_ok _ _)) rfl k3_okR (k3_run s)
theorem k4_run (s : Nat → Value) : runH (xo s (orcOr (orcR 6 k3) noOrc)) 100000 k4 = true := by kernel_rfl
theorem k4_ok (s : Nat → Value) : OrcOk Tryz.prog ⟨6, s⟩ (orcH k4) := orcH_ok (xo_ok (orcOr_ok (k3_ok s) (noOrc_ok _ _))) (k4_run s)
end Go.Proofs.YtdlggegdlknkeaaGreatDoor.Kw
