/-
  The runs of known calls.
-/
import Derived.Test.YtdcjedkgpabjhaaGreatDoorTk0
import Derived.Test.YtdcjedkgpabjhaaGreatDoorTk0a
namespace Go.Proofs.YtdcjedkgpabjhaaGreatDoor.Kw
open Go Go.RowKit CX
theorem k17_run (s : Nat → Value) : runH (xo s noOrc) 100000 k17 = true := by kernel_rfl
theorem k17_okR : okR 8 k17 = true := by kernel_rfl
theorem k17_ok (s : Nat → Value) : OrcOk Tryz.prog ⟨8, s⟩ (orcR 8 k17) := orcR_ok (xo_ok (noOrc_ok _ _)) rfl k17_okR (k17_run s)
theorem k18_run (s : Nat → Value) : runH (xo s (orcOr (orcR 8 k17) noOrc)) 100000 k18 = true := by kernel_rfl
theorem k18_okR : okR 8 k18 = true := by kernel_rfl
theorem k18_ok (s : Nat → Value) : OrcOk Tryz.prog ⟨8, s⟩ (orcR 8 k18) := orcR_ok (xo_ok (orcOr_ok (k17_ok s) (noOrc_ok _ _))) rfl k18_okR (k18_run s)
theorem k19_run (s : Nat → Value) : runH (xo s (orcOr (orcR 8 k18) noOrc)) 100000 k19 = true := by kernel_rfl
theorem k19_okR : okR 8 k19 = true := by kernel_rfl
theorem k19_ok (s : Nat → Value) : OrcOk Tryz.prog ⟨8, s⟩ (orcR 8 k19) := orcR_ok (xo_ok (orcOr_ok (k18_ok s) (noOrc_ok _ _))) rfl k19_okR (k19_run s)
end Go.Proofs.YtdcjedkgpabjhaaGreatDoor.Kw
