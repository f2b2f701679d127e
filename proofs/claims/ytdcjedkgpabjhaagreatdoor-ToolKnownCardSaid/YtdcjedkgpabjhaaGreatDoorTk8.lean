/-
  The runs of known calls.
-/
import Derived.Test.YtdcjedkgpabjhaaGreatDoorTk0
import Derived.Test.YtdcjedkgpabjhaaGreatDoorTk0a
import Derived.Test.YtdcjedkgpabjhaaGreatDoorTk6
namespace Go.Proofs.YtdcjedkgpabjhaaGreatDoor.Kw
open Go Go.RowKit CX
theorem k47_run (s : Nat → Value) : runH (xo s noOrc) 100000 k47 = true := by kernel_rfl
theorem k47_ok (s : Nat → Value) : OrcOk Tryz.prog ⟨8, s⟩ (orcH k47) := orcH_ok (xo_ok (noOrc_ok _ _)) (k47_run s)
theorem k48_run (s : Nat → Value) : runH (xo s (orcOr (orcH k47) noOrc)) 100000 k48 = true := by kernel_rfl
theorem k48_ok (s : Nat → Value) : OrcOk Tryz.prog ⟨8, s⟩ (orcH k48) := orcH_ok (xo_ok (orcOr_ok (k47_ok s) (noOrc_ok _ _))) (k48_run s)
theorem k49_run (s : Nat → Value) : runH (xo s (orcOr (orcR 8 k35) noOrc)) 100000 k49 = true := by kernel_rfl
theorem k49_ok (s : Nat → Value) : OrcOk Tryz.prog ⟨8, s⟩ (orcH k49) := orcH_ok (xo_ok (orcOr_ok (k35_ok s) (noOrc_ok _ _))) (k49_run s)
theorem k50_run (s : Nat → Value) : runH (xo s (orcOr (orcH k49) noOrc)) 100000 k50 = true := by kernel_rfl
theorem k50_ok (s : Nat → Value) : OrcOk Tryz.prog ⟨8, s⟩ (orcH k50) := orcH_ok (xo_ok (orcOr_ok (k49_ok s) (noOrc_ok _ _))) (k50_run s)
theorem k51_run (s : Nat → Value) : runH (xo s (orcOr (orcH k50) (orcOr (orcR 8 k35) noOrc))) 100000 k51 = true := by kernel_rfl
theorem k51_ok (s : Nat → Value) : OrcOk Tryz.prog ⟨8, s⟩ (orcH k51) := orcH_ok (xo_ok (orcOr_ok (k50_ok s) (orcOr_ok (k35_ok s) (noOrc_ok _ _)))) (k51_run s)
theorem k52_run (s : Nat → Value) : runH (xo s noOrc) 100000 k52 = true := by kernel_rfl
theorem k52_ok (s : Nat → Value) : OrcOk Tryz.prog ⟨8, s⟩ (orcH k52) := orcH_ok (xo_ok (noOrc_ok _ _)) (k52_run s)
theorem k53_run (s : Nat → Value) : runH (xo s noOrc) 100000 k53 = true := by kernel_rfl
theorem k53_ok (s : Nat → Value) : OrcOk Tryz.prog ⟨8, s⟩ (orcH k53) := orcH_ok (xo_ok (noOrc_ok _ _)) (k53_run s)
theorem k54_run (s : Nat → Value) : runH (xo s (orcOr (orcH k53) noOrc)) 100000 k54 = true := by kernel_rfl
theorem k54_ok (s : Nat → Value) : OrcOk Tryz.prog ⟨8, s⟩ (orcH k54) := orcH_ok (xo_ok (orcOr_ok (k53_ok s) (noOrc_ok _ _))) (k54_run s)
theorem k55_run (s : Nat → Value) : runH (xo s noOrc) 100000 k55 = true := by kernel_rfl
theorem k55_ok (s : Nat → Value) : OrcOk Tryz.prog ⟨8, s⟩ (orcH k55) := orcH_ok (xo_ok (noOrc_ok _ _)) (k55_run s)
theorem k56_run (s : Nat → Value) : runH (xo s (orcOr (orcH k55) noOrc)) 100000 k56 = true := by kernel_rfl
theorem k56_ok (s : Nat → Value) : OrcOk Tryz.prog ⟨8, s⟩ (orcH k56) := orcH_ok (xo_ok (orcOr_ok (k55_ok s) (noOrc_ok _ _))) (k56_run s)
end Go.Proofs.YtdcjedkgpabjhaaGreatDoor.Kw
