/-
  The runs of known calls.
-/
import Derived.Test.YtelehhfnomdneaaGreatDoorKt0
namespace Go.Proofs.YtelehhfnomdneaaGreatDoor.Kw
open Go Go.RowKit CX
theorem k0_run (s : Nat → Value) : runH (xo s noOrc) 100000 k0 = true := by kernel_rfl
theorem k0_ok (s : Nat → Value) : OrcOk Tryz.prog ⟨8, s⟩ (orcH k0) := orcH_ok (xo_ok (noOrc_ok _ _)) (k0_run s)
end Go.Proofs.YtelehhfnomdneaaGreatDoor.Kw
