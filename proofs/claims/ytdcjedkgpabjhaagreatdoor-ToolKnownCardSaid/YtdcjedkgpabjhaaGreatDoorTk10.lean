/-
  The runs of known calls.
-/
import Derived.Test.YtdcjedkgpabjhaaGreatDoorTk0
import Derived.Test.YtdcjedkgpabjhaaGreatDoorTk0a
namespace Go.Proofs.YtdcjedkgpabjhaaGreatDoor.Kw
open Go Go.RowKit CX
theorem k68_run (s : Nat → Value) : runH (xo s noOrc) 100000 k68 = true := by kernel_rfl
theorem k68_ok (s : Nat → Value) : OrcOk Tryz.prog ⟨8, s⟩ (orcH k68) := orcH_ok (xo_ok (noOrc_ok _ _)) (k68_run s)
theorem k69_run (s : Nat → Value) : runH (xo s noOrc) 100000 k69 = true := by kernel_rfl
theorem k69_ok (s : Nat → Value) : OrcOk Tryz.prog ⟨8, s⟩ (orcH k69) := orcH_ok (xo_ok (noOrc_ok _ _)) (k69_run s)
theorem k70_run (s : Nat → Value) : runH (xo s noOrc) 100000 k70 = true := by kernel_rfl
theorem k70_ok (s : Nat → Value) : OrcOk Tryz.prog ⟨8, s⟩ (orcH k70) := orcH_ok (xo_ok (noOrc_ok _ _)) (k70_run s)
theorem k71_run (s : Nat → Value) : runH (xo s noOrc) 100000 k71 = true := by kernel_rfl
theorem k71_ok (s : Nat → Value) : OrcOk Tryz.prog ⟨8, s⟩ (orcH k71) := orcH_ok (xo_ok (noOrc_ok _ _)) (k71_run s)
theorem k72_run (s : Nat → Value) : runH (xo s noOrc) 100000 k72 = true := by kernel_rfl
theorem k72_ok (s : Nat → Value) : OrcOk Tryz.prog ⟨8, s⟩ (orcH k72) := orcH_ok (xo_ok (noOrc_ok _ _)) (k72_run s)
theorem k73_run (s : Nat → Value) : runH (xo s noOrc) 100000 k73 = true := by kernel_rfl
theorem k73_ok (s : Nat → Value) : OrcOk Tryz.prog ⟨8, s⟩ (orcH k73) := orcH_ok (xo_ok (noOrc_ok _ _)) (k73_run s)
end Go.Proofs.YtdcjedkgpabjhaaGreatDoor.Kw
