/-
  The runs of known calls.
-/
import Derived.Test.YtnbopkflhjakdaaGreatDoorKb0
namespace Go.Proofs.YtnbopkflhjakdaaGreatDoor.Kw
open Go Go.RowKit CX
theorem k0_run (s : Nat → Value) : runH (xo s noOrc) 100000 k0 = true := by kernel_rfl
theorem k0_okR : okR 6 k0 = true := by kernel_rfl
theorem k0_ok (s : Nat → Value) : OrcOk Tryz.prog ⟨6, s⟩ (orcR 6 k0) := orcR_ok (xo_ok (noOrc_ok _ _)) rfl k0_okR (k0_run s)
theorem k1_run (s : Nat → Value) : runH (xo s noOrc) 100000 k1 = true := by kernel_rfl
theorem k1_ok (s : Nat → Value) : OrcOk Tryz.prog ⟨6, s⟩ (orcH k1) := orcH_ok (xo_ok (noOrc_ok _ _)) (k1_run s)
end Go.Proofs.YtnbopkflhjakdaaGreatDoor.Kw
