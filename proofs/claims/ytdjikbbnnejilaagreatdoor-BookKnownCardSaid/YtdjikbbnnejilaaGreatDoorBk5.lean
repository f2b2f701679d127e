/-
  The runs of known calls.
-/
import Derived.Test.YtdjikbbnnejilaaGreatDoorBk0
namespace Go.Proofs.YtdjikbbnnejilaaGreatDoor.Kw
open Go Go.RowKit CX
theorem k11_run (s : Nat → Value) : runH (xo s noOrc) 100000 k11 = true := by kernel_rfl
theorem k11_ok (s : Nat → Value) : OrcOk Tryz.prog ⟨6, s⟩ (orcH k11) := orcH_ok (xo_ok (noOrc_ok _ _)) (k11_run s)
end Go.Proofs.YtdjikbbnnejilaaGreatDoor.Kw
