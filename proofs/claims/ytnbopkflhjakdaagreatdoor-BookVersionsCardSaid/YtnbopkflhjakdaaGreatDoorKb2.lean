/-
  The runs of known calls.
-/
import Derived.Test.YtnbopkflhjakdaaGreatDoorKb0
import Derived.Test.YtnbopkflhjakdaaGreatDoorKb1
namespace Go.Proofs.YtnbopkflhjakdaaGreatDoor.Kw
open Go Go.RowKit CX
theorem k2_run (s : Nat → Value) : runH (xo s (orcOr (orcR 6 k0) (orcOr (orcH k1) noOrc))) 100000 k2 = true := by kernel_rfl
theorem k2_ok (s : Nat → Value) : OrcOk Tryz.prog ⟨6, s⟩ (orcH k2) := orcH_ok (xo_ok (orcOr_ok (k0_ok s) (orcOr_ok (k1_ok s) (noOrc_ok _ _)))) (k2_run s)
end Go.Proofs.YtnbopkflhjakdaaGreatDoor.Kw
