/-
  The runs of known calls.
-/
import Derived.Test.YtdjikbbnnejilaaGreatDoorBk0
namespace Go.Proofs.YtdjikbbnnejilaaGreatDoor.Kw
open Go Go.RowKit CX
theorem k12_run (s : Nat → Value) : runH (xo s noOrc) 100000 k12 = true := by kernel_rfl
theorem k12_ok (s : Nat → Value) : OrcOk Tryz.prog ⟨6, s⟩ (orcH k12) := orcH_ok (xo_ok (noOrc_ok _ _)) (k12_run s)
end Go.Proofs.YtdjikbbnnejilaaGreatDoor.Kw
