/-
  The runs of known calls.
-/
import Derived.Test.YtfajabaikainmaaGreatDoorFf0
namespace Go.Proofs.YtfajabaikainmaaGreatDoor.Kf
open Go Go.RowKit CX
theorem k46_run (s : Nat → Value) : runH (xo s noOrc) 100000 k46 = true := by kernel_rfl
theorem k46_ok (s : Nat → Value) : OrcOk Tryz.prog ⟨6, s⟩ (orcH k46) := orcH_ok (xo_ok (noOrc_ok _ _)) (k46_run s)
end Go.Proofs.YtfajabaikainmaaGreatDoor.Kf
