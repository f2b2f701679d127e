/-
  The runs of known calls.
-/
import Derived.Test.YtdjikbbnnejilaaGreatDoorBk0
import Derived.Test.YtdjikbbnnejilaaGreatDoorBk1
namespace Go.Proofs.YtdjikbbnnejilaaGreatDoor.Kw
open Go Go.RowKit CX
theorem k3_run (s : Nat → Value) : runH (xo s (orcOr (orcH k2) noOrc)) 100000 k3 = true := by kernel_rfl
theorem k3_ok (s : Nat → Value) : OrcOk Tryz.prog ⟨6, s⟩ (orcH k3) := orcH_ok (xo_ok (orcOr_ok (k2_ok s) (noOrc_ok _ _))) (k3_run s)
end Go.Proofs.YtdjikbbnnejilaaGreatDoor.Kw
