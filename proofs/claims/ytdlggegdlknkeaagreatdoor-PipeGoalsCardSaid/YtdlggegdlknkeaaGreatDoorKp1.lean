/-
  The runs of known calls.
-/
import Derived.Test.YtdlggegdlknkeaaGreatDoorKp0
namespace Go.Proofs.YtdlggegdlknkeaaGreatDoor.Kw
open Go Go.RowKit CX
theorem k0_run (s : Nat → Value) : runH (xo s noOrc) 100000 k0 = true := by kernel_rfl
theorem k0_ok (s : Nat → Value) : OrcOk Tryz.prog ⟨6, s⟩ (orcH k0) := orcH_ok (xo_ok (noOrc_ok _ _)) (k0_run s)
theorem k1_run (s : Nat → Value) : runH (xo s noOrc) 100000 k1 = true := by kernel_rfl
theorem k1_ok (s : Nat → Value) : OrcOk Tryz.prog ⟨6, s⟩ (orcH k1) := orcH_ok (xo_ok (noOrc_ok _ _)) (k1_run s)
theorem k2_run (s : Nat → Value) : runH (xo s noOrc) 100000 k2 = true := by kernel_rfl
theorem k2_ok (s : Nat → Value) : OrcOk Tryz.prog ⟨6, s⟩ (orcH k2) := orcH_ok (xo_ok (noOrc_ok _ _)) (k2_run s)
end Go.Proofs.YtdlggegdlknkeaaGreatDoor.Kw
