/-
  The runs of known calls.
-/
import Derived.Test.YtfkfaecdgmdeeaaGreatDoorSk0
import Derived.Test.YtfkfaecdgmdeeaaGreatDoorSk2
namespace Go.Proofs.YtfkfaecdgmdeeaaGreatDoor.Kw
open Go Go.RowKit CX
theorem k6_run : runH (xo (orcOr (orcH k5) noOrc)) 100000 k6 = true := by kernel_rfl
theorem k6_ok : OrcOk Tryz.prog ⟨6, noSym⟩ (orcH k6) := orcH_ok (xo_ok (orcOr_ok k5_ok (noOrc_ok _ _))) k6_run
theorem k7_run : runH (xo noOrc) 100000 k7 = true := by kernel_rfl
theorem k7_ok : OrcOk Tryz.prog ⟨6, noSym⟩ (orcH k7) := orcH_ok (xo_ok (noOrc_ok _ _)) k7_run
end Go.Proofs.YtfkfaecdgmdeeaaGreatDoor.Kw
