/-
  The runs of known calls.
-/
import Derived.Test.YtfajabaikainmaaGreatDoorFt0
namespace Go.Proofs.YtfajabaikainmaaGreatDoor.Kt
open Go Go.RowKit CX
theorem k48_run (s : Nat → Value) : runH (xo s noOrc) 100000 k48 = true := by kernel_rfl
theorem k48_ok (s : Nat → Value) : OrcOk Tryz.prog ⟨6, s⟩ (orcH k48) := orcH_ok (xo_ok (noOrc_ok _ _)) (k48_run s)
end Go.Proofs.YtfajabaikainmaaGreatDoor.Kt
