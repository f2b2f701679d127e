/-
  The runs of known calls.
-/
import Derived.Test.YtnpbbffegbjdfaaGreatDoorVn0
import Derived.Test.YtnpbbffegbjdfaaGreatDoorVn1
namespace Go.Proofs.YtnpbbffegbjdfaaGreatDoor.Kw
open Go Go.RowKit CX
theorem k4_run (s : Nat → Value) : runH (xo s (orcOr (orcH k3) noOrc)) 100000 k4 = true := by kernel_rfl
theorem k4_ok (s : Nat → Value) : OrcOk Tryz.prog ⟨6, s⟩ (orcH k4) := orcH_ok (xo_ok (orcOr_ok (k3_ok s) (noOrc_ok _ _))) (k4_run s)
end Go.Proofs.YtnpbbffegbjdfaaGreatDoor.Kw
