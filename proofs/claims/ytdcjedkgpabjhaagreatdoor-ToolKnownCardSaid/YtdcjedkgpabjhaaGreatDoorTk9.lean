/-
  The runs of known calls.
-/
import Derived.Test.YtdcjedkgpabjhaaGreatDoorTk0
import Derived.Test.YtdcjedkgpabjhaaGreatDoorTk0a
import Derived.Test.YtdcjedkgpabjhaaGreatDoorTk3
import Derived.Test.YtdcjedkgpabjhaaGreatDoorTk6
import Derived.Test.YtdcjedkgpabjhaaGreatDoorTk7
namespace Go.Proofs.YtdcjedkgpabjhaaGreatDoor.Kw
open Go Go.RowKit CX
theorem k57_run (s : Nat → Value) : runH (xo s (orcOr (orcR 8 k36) noOrc)) 100000 k57 = true := by kernel_rfl
theorem k57_okR : okR 8 k57 = true := by kernel_rfl
theorem k57_ok (s : Nat → Value) : OrcOk Tryz.prog ⟨8, s⟩ (orcR 8 k57) := orcR_ok (xo_ok (orcOr_ok (k36_ok s) (noOrc_ok _ _))) rfl k57_okR (k57_run s)
theorem k58_run (s : Nat → Value) : runH (xo s (orcOr (orcR 8 k57) noOrc)) 100000 k58 = true := by kernel_rfl
theorem k58_ok (s : Nat → Value) : OrcOk Tryz.prog ⟨8, s⟩ (orcH k58) := orcH_ok (xo_ok (orcOr_ok (k57_ok s) (noOrc_ok _ _))) (k58_run s)
theorem k59_run (s : Nat → Value) : runH (xo s (orcOr (orcH k58) noOrc)) 100000 k59 = true := by kernel_rfl
theorem k59_ok (s : Nat → Value) : OrcOk Tryz.prog ⟨8, s⟩ (orcH k59) := orcH_ok (xo_ok (orcOr_ok (k58_ok s) (noOrc_ok _ _))) (k59_run s)
theorem k60_run (s : Nat → Value) : runH (xo s noOrc) 100000 k60 = true := by kernel_rfl
theorem k60_ok (s : Nat → Value) : OrcOk Tryz.prog ⟨8, s⟩ (orcH k60) := orcH_ok (xo_ok (noOrc_ok _ _)) (k60_run s)
theorem k61_run (s : Nat → Value) : runH (xo s noOrc) 100000 k61 = true := by kernel_rfl
theorem k61_ok (s : Nat → Value) : OrcOk Tryz.prog ⟨8, s⟩ (orcH k61) := orcH_ok (xo_ok (noOrc_ok _ _)) (k61_run s)
theorem k62_run (s : Nat → Value) : runH (xo s (orcOr (orcR 8 k37) (orcOr (orcR 8 k35) (orcOr (orcR 8 k36) noOrc)))) 100000 k62 = true := by kernel_rfl
theorem k62_ok (s : Nat → Value) : OrcOk Tryz.prog ⟨8, s⟩ (orcH k62) := orcH_ok (xo_ok (orcOr_ok (k37_ok s) (orcOr_ok (k35_ok s) (orcOr_ok (k36_ok s) (noOrc_ok _ _))))) (k62_run s)
theorem k63_run (s : Nat → Value) : runH (xo s (orcOr (orcR 8 k18) (orcOr (orcH k62) noOrc))) 100000 k63 = true := by kernel_rfl
theorem k63_ok (s : Nat → Value) : OrcOk Tryz.prog ⟨8, s⟩ (orcH k63) := orcH_ok (xo_ok (orcOr_ok (k18_ok s) (orcOr_ok (k62_ok s) (noOrc_ok _ _)))) (k63_run s)
theorem k64_run (s : Nat → Value) : runH (xo s (orcOr (orcR 8 k57) noOrc)) 100000 k64 = true := by kernel_rfl
theorem k64_ok (s : Nat → Value) : OrcOk Tryz.prog ⟨8, s⟩ (orcH k64) := orcH_ok (xo_ok (orcOr_ok (k57_ok s) (noOrc_ok _ _))) (k64_run s)
theorem k65_run (s : Nat → Value) : runH (xo s (orcOr (orcH k64) noOrc)) 100000 k65 = true := by kernel_rfl
theorem k65_ok (s : Nat → Value) : OrcOk Tryz.prog ⟨8, s⟩ (orcH k65) := orcH_ok (xo_ok (orcOr_ok (k64_ok s) (noOrc_ok _ _))) (k65_run s)
theorem k66_run (s : Nat → Value) : runH (xo s noOrc) 100000 k66 = true := by kernel_rfl
theorem k66_ok (s : Nat → Value) : OrcOk Tryz.prog ⟨8, s⟩ (orcH k66) := orcH_ok (xo_ok (noOrc_ok _ _)) (k66_run s)
theorem k67_run (s : Nat → Value) : runH (xo s noOrc) 100000 k67 = true := by kernel_rfl
theorem k67_ok (s : Nat → Value) : OrcOk Tryz.prog ⟨8, s⟩ (orcH k67) := orcH_ok (xo_ok (noOrc_ok _ _)) (k67_run s)
end Go.Proofs.YtdcjedkgpabjhaaGreatDoor.Kw
