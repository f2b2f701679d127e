/-
  The runs of known calls.
-/
import Derived.Test.YtfajabaikainmaaGreatDoorFt0
namespace Go.Proofs.YtfajabaikainmaaGreatDoor.Kt
open Go Go.RowKit CX
theorem k0_run (s : Nat → Value) : runH (xo s noOrc) 100000 k0 = true := by kernel_rfl
theorem k0_ok (s : Nat → Value) : OrcOk Tryz.prog ⟨6, s⟩ (orcH k0) := orcH_ok (xo_ok (noOrc_ok _ _)) (k0_run s)
end Go.Proofs.YtfajabaikainmaaGreatDoor.Kt
