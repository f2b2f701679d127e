/-
  The runs of known calls.
-/
import Derived.Test.YtdcjedkgpabjhaaGreatDoorTk0
import Derived.Test.YtdcjedkgpabjhaaGreatDoorTk0a
namespace Go.Proofs.YtdcjedkgpabjhaaGreatDoor.Kw
open Go Go.RowKit CX
theorem k20_run (s : Nat → Value) : runH (xo s noOrc) 100000 k20 = true := by kernel_rfl
theorem k20_ok (s : Nat → Value) : OrcOk Tryz.prog ⟨8, s⟩ (orcH k20) := orcH_ok (xo_ok (noOrc_ok _ _)) (k20_run s)
end Go.Proofs.YtdcjedkgpabjhaaGreatDoor.Kw
