/-
  The runs of known calls.
-/
import Derived.Test.YtdjikbbnnejilaaGreatDoorBk0
import Derived.Test.YtdjikbbnnejilaaGreatDoorBk4
import Derived.Test.YtdjikbbnnejilaaGreatDoorBk5
import Derived.Test.YtdjikbbnnejilaaGreatDoorBk6
namespace Go.Proofs.YtdjikbbnnejilaaGreatDoor.Kw
open Go Go.RowKit CX
theorem k13_run (s : Nat → Value) : runH (xo s (orcOr (orcH k9) (orcOr (orcH k10) (orcOr (orcH k11) (orcOr (orcH k12) noOrc))))) 100000 k13 = true := by kernel_rfl
theorem k13_ok (s : Nat → Value) : OrcOk Tryz.prog ⟨6, s⟩ (orcH k13) := orcH_ok (xo_ok (orcOr_ok (k9_ok s) (orcOr_ok (k10_ok s) (orcOr_ok (k11_ok s) (orcOr_ok (k12_ok s) (noOrc_ok _ _)))))) (k13_run s)
end Go.Proofs.YtdjikbbnnejilaaGreatDoor.Kw
