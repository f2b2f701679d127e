/-
  The runs of known calls.
-/
import Derived.Test.YtdcjedkgpabjhaaGreatDoorTk0
import Derived.Test.YtdcjedkgpabjhaaGreatDoorTk0a
import Derived.Test.YtdcjedkgpabjhaaGreatDoorTk3
import Derived.Test.YtdcjedkgpabjhaaGreatDoorTk4
namespace Go.Proofs.YtdcjedkgpabjhaaGreatDoor.Kw
open Go Go.RowKit CX
theorem k21_run (s : Nat → Value) : runH (xo s (orcOr (orcH k20) (orcOr (orcR 8 k19) noOrc))) 100000 k21 = true := by kernel_rfl
theorem k21_ok (s : Nat → Value) : OrcOk Tryz.prog ⟨8, s⟩ (orcH k21) := orcH_ok (xo_ok (orcOr_ok (k20_ok s) (orcOr_ok (k19_ok s) (noOrc_ok _ _)))) (k21_run s)
theorem k22_run (s : Nat → Value) : runH (xo s noOrc) 100000 k22 = true := by kernel_rfl
theorem k22_ok (s : Nat → Value) : OrcOk Tryz.prog ⟨8, s⟩ (orcH k22) := orcH_ok (xo_ok (noOrc_ok _ _)) (k22_run s)
theorem k23_run (s : Nat → Value) : runH (xo s noOrc) 100000 k23 = true := by kernel_rfl
theorem k23_ok (s : Nat → Value) : OrcOk Tryz.prog ⟨8, s⟩ (orcH k23) := orcH_ok (xo_ok (noOrc_ok _ _)) (k23_run s)
theorem k24_run (s : Nat → Value) : runH (xo s (orcOr (orcR 8 k17) noOrc)) 100000 k24 = true := by kernel_rfl
theorem k24_ok (s : Nat → Value) : OrcOk Tryz.prog ⟨8, s⟩ (orcH k24) := orcH_ok (xo_ok (orcOr_ok (k17_ok s) (noOrc_ok _ _))) (k24_run s)
theorem k25_run (s : Nat → Value) : runH (xo s (orcOr (orcH k23) (orcOr (orcH k24) (orcOr (orcR 8 k17) noOrc)))) 100000 k25 = true := by kernel_rfl
theorem k25_ok (s : Nat → Value) : OrcOk Tryz.prog ⟨8, s⟩ (orcH k25) := orcH_ok (xo_ok (orcOr_ok (k23_ok s) (orcOr_ok (k24_ok s) (orcOr_ok (k17_ok s) (noOrc_ok _ _))))) (k25_run s)
theorem k26_run (s : Nat → Value) : runH (xo s noOrc) 100000 k26 = true := by kernel_rfl
theorem k26_ok (s : Nat → Value) : OrcOk Tryz.prog ⟨8, s⟩ (orcH k26) := orcH_ok (xo_ok (noOrc_ok _ _)) (k26_run s)
theorem k27_run (s : Nat → Value) : runH (xo s (orcOr (orcH k26) noOrc)) 100000 k27 = true := by kernel_rfl
theorem k27_ok (s : Nat → Value) : OrcOk Tryz.prog ⟨8, s⟩ (orcH k27) := orcH_ok (xo_ok (orcOr_ok (k26_ok s) (noOrc_ok _ _))) (k27_run s)
theorem k28_run (s : Nat → Value) : runH (xo s noOrc) 100000 k28 = true := by kernel_rfl
theorem k28_ok (s : Nat → Value) : OrcOk Tryz.prog ⟨8, s⟩ (orcH k28) := orcH_ok (xo_ok (noOrc_ok _ _)) (k28_run s)
theorem k29_run (s : Nat → Value) : runH (xo s (orcOr (orcH k28) noOrc)) 100000 k29 = true := by kernel_rfl
theorem k29_ok (s : Nat → Value) : OrcOk Tryz.prog ⟨8, s⟩ (orcH k29) := orcH_ok (xo_ok (orcOr_ok (k28_ok s) (noOrc_ok _ _))) (k29_run s)
theorem k30_run (s : Nat → Value) : runH (xo s noOrc) 100000 k30 = true := by kernel_rfl
theorem k30_ok (s : Nat → Value) : OrcOk Tryz.prog ⟨8, s⟩ (orcH k30) := orcH_ok (xo_ok (noOrc_ok _ _)) (k30_run s)
theorem k31_run (s : Nat → Value) : runH (xo s (orcOr (orcH k30) noOrc)) 100000 k31 = true := by kernel_rfl
theorem k31_ok (s : Nat → Value) : OrcOk Tryz.prog ⟨8, s⟩ (orcH k31) := orcH_ok (xo_ok (orcOr_ok (k30_ok s) (noOrc_ok _ _))) (k31_run s)
theorem k32_run (s : Nat → Value) : runH (xo s noOrc) 100000 k32 = true := by kernel_rfl
theorem k32_ok (s : Nat → Value) : OrcOk Tryz.prog ⟨8, s⟩ (orcH k32) := orcH_ok (xo_ok (noOrc_ok _ _)) (k32_run s)
end Go.Proofs.YtdcjedkgpabjhaaGreatDoor.Kw
