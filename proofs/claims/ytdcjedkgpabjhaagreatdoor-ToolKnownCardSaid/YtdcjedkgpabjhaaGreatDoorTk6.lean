/-
  The runs of known calls.
-/
import Derived.Test.YtdcjedkgpabjhaaGreatDoorTk0
import Derived.Test.YtdcjedkgpabjhaaGreatDoorTk0a
import Derived.Test.YtdcjedkgpabjhaaGreatDoorTk3
namespace Go.Proofs.YtdcjedkgpabjhaaGreatDoor.Kw
open Go Go.RowKit CX
theorem k33_run (s : Nat → Value) : runH (xo s (orcOr (orcR 8 k17) noOrc)) 100000 k33 = true := by kernel_rfl
theorem k33_ok (s : Nat → Value) : OrcOk Tryz.prog ⟨8, s⟩ (orcH k33) := orcH_ok (xo_ok (orcOr_ok (k17_ok s) (noOrc_ok _ _))) (k33_run s)
theorem k34_run (s : Nat → Value) : runH (xo s (orcOr (orcH k33) noOrc)) 100000 k34 = true := by kernel_rfl
theorem k34_ok (s : Nat → Value) : OrcOk Tryz.prog ⟨8, s⟩ (orcH k34) := orcH_ok (xo_ok (orcOr_ok (k33_ok s) (noOrc_ok _ _))) (k34_run s)
theorem k35_run (s : Nat → Value) : runH (xo s noOrc) 100000 k35 = true := by kernel_rfl
theorem k35_okR : okR 8 k35 = true := by kernel_rfl
theorem k35_ok (s : Nat → Value) : OrcOk Tryz.prog ⟨8, s⟩ (orcR 8 k35) := orcR_ok (xo_ok (noOrc_ok _ _)) rfl k35_okR (k35_run s)
theorem k36_run (s : Nat → Value) : runH (xo s (orcOr (orcR 8 k35) noOrc)) 100000 k36 = true := by kernel_rfl
theorem k36_okR : okR 8 k36 = true := by kernel_rfl
theorem k36_ok (s : Nat → Value) : OrcOk Tryz.prog ⟨8, s⟩ (orcR 8 k36) := orcR_ok (xo_ok (orcOr_ok (k35_ok s) (noOrc_ok _ _))) rfl k36_okR (k36_run s)
end Go.Proofs.YtdcjedkgpabjhaaGreatDoor.Kw
