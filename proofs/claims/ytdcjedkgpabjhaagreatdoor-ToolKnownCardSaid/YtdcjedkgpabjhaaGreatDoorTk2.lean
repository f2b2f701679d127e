/-
  The runs of known calls.
-/
import Derived.Test.YtdcjedkgpabjhaaGreatDoorTk0
import Derived.Test.YtdcjedkgpabjhaaGreatDoorTk0a
namespace Go.Proofs.YtdcjedkgpabjhaaGreatDoor.Kw
open Go Go.RowKit CX
theorem k16_run (s : Nat → Value) : runH (xo s noOrc) 100000 k16 = true := by kernel_rfl
theorem k16_ok (s : Nat → Value) : OrcOk Tryz.prog ⟨8, s⟩ (orcH k16) := orcH_ok (xo_ok (noOrc_ok _ _)) (k16_run s)
end Go.Proofs.YtdcjedkgpabjhaaGreatDoor.Kw
