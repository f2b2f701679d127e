/-
  The runs of known calls.
-/
import Derived.Test.YtdcjedkgpabjhaaGreatDoorTk0
import Derived.Test.YtdcjedkgpabjhaaGreatDoorTk0a
import Derived.Test.YtdcjedkgpabjhaaGreatDoorTk3
import Derived.Test.YtdcjedkgpabjhaaGreatDoorTk6
namespace Go.Proofs.YtdcjedkgpabjhaaGreatDoor.Kw
open Go Go.RowKit CX
theorem k37_run (s : Nat → Value) : runH (xo s (orcOr (orcR 8 k36) noOrc)) 100000 k37 = true := by kernel_rfl
theorem k37_okR : okR 8 k37 = true := by kernel_rfl
theorem k37_ok (s : Nat → Value) : OrcOk Tryz.prog ⟨8, s⟩ (orcR 8 k37) := orcR_ok (xo_ok (orcOr_ok (k36_ok s) (noOrc_ok _ _))) rfl k37_okR (k37_run s)
theorem k38_run (s : Nat → Value) : runH (xo s (orcOr (orcR 8 k37) (orcOr (orcR 8 k35) (orcOr (orcR 8 k36) noOrc)))) 100000 k38 = true := by kernel_rfl
theorem k38_ok (s : Nat → Value) : OrcOk Tryz.prog ⟨8, s⟩ (orcH k38) := orcH_ok (xo_ok (orcOr_ok (k37_ok s) (orcOr_ok (k35_ok s) (orcOr_ok (k36_ok s) (noOrc_ok _ _))))) (k38_run s)
theorem k39_run (s : Nat → Value) : runH (xo s (orcOr (orcR 8 k18) (orcOr (orcH k38) noOrc))) 100000 k39 = true := by kernel_rfl
theorem k39_ok (s : Nat → Value) : OrcOk Tryz.prog ⟨8, s⟩ (orcH k39) := orcH_ok (xo_ok (orcOr_ok (k18_ok s) (orcOr_ok (k38_ok s) (noOrc_ok _ _)))) (k39_run s)
theorem k40_run (s : Nat → Value) : runH (xo s noOrc) 100000 k40 = true := by kernel_rfl
theorem k40_okR : okR 8 k40 = true := by kernel_rfl
theorem k40_ok (s : Nat → Value) : OrcOk Tryz.prog ⟨8, s⟩ (orcR 8 k40) := orcR_ok (xo_ok (noOrc_ok _ _)) rfl k40_okR (k40_run s)
theorem k41_run (s : Nat → Value) : runH (xo s (orcOr (orcR 8 k37) noOrc)) 100000 k41 = true := by kernel_rfl
theorem k41_ok (s : Nat → Value) : OrcOk Tryz.prog ⟨8, s⟩ (orcH k41) := orcH_ok (xo_ok (orcOr_ok (k37_ok s) (noOrc_ok _ _))) (k41_run s)
theorem k42_run (s : Nat → Value) : runH (xo s (orcOr (orcR 8 k37) (orcOr (orcR 8 k40) (orcOr (orcH k41) noOrc)))) 100000 k42 = true := by kernel_rfl
theorem k42_ok (s : Nat → Value) : OrcOk Tryz.prog ⟨8, s⟩ (orcH k42) := orcH_ok (xo_ok (orcOr_ok (k37_ok s) (orcOr_ok (k40_ok s) (orcOr_ok (k41_ok s) (noOrc_ok _ _))))) (k42_run s)
theorem k43_run (s : Nat → Value) : runH (xo s (orcOr (orcR 8 k37) (orcOr (orcR 8 k40) noOrc))) 100000 k43 = true := by kernel_rfl
theorem k43_ok (s : Nat → Value) : OrcOk Tryz.prog ⟨8, s⟩ (orcH k43) := orcH_ok (xo_ok (orcOr_ok (k37_ok s) (orcOr_ok (k40_ok s) (noOrc_ok _ _)))) (k43_run s)
theorem k44_run (s : Nat → Value) : runH (xo s noOrc) 100000 k44 = true := by kernel_rfl
theorem k44_ok (s : Nat → Value) : OrcOk Tryz.prog ⟨8, s⟩ (orcH k44) := orcH_ok (xo_ok (noOrc_ok _ _)) (k44_run s)
theorem k45_run (s : Nat → Value) : runH (xo s noOrc) 100000 k45 = true := by kernel_rfl
theorem k45_ok (s : Nat → Value) : OrcOk Tryz.prog ⟨8, s⟩ (orcH k45) := orcH_ok (xo_ok (noOrc_ok _ _)) (k45_run s)
theorem k46_run (s : Nat → Value) : runH (xo s noOrc) 100000 k46 = true := by kernel_rfl
theorem k46_ok (s : Nat → Value) : OrcOk Tryz.prog ⟨8, s⟩ (orcH k46) := orcH_ok (xo_ok (noOrc_ok _ _)) (k46_run s)
end Go.Proofs.YtdcjedkgpabjhaaGreatDoor.Kw
