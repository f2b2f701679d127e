/-
  The runs of known calls.
-/
import Derived.Test.YtfajabaikainmaaGreatDoorFt0
import Derived.Test.YtfajabaikainmaaGreatDoorFt4
import Derived.Test.YtfajabaikainmaaGreatDoorFt5
namespace Go.Proofs.YtfajabaikainmaaGreatDoor.Kt
open Go Go.RowKit CX
theorem k55_run (s : Nat → Value) : runH (xo s (orcOr (orcR 6 k54) noOrc)) 100000 k55 = true := by kernel_rfl
theorem k55_ok (s : Nat → Value) : OrcOk Tryz.prog ⟨6, s⟩ (orcH k55) := orcH_ok (xo_ok (orcOr_ok (k54_ok s) (noOrc_ok _ _))) (k55_run s)
theorem k56_run (s : Nat → Value) : runH (xo s noOrc) 100000 k56 = true := by kernel_rfl
theorem k56_ok (s : Nat → Value) : OrcOk Tryz.prog ⟨6, s⟩ (orcH k56) := orcH_ok (xo_ok (noOrc_ok _ _)) (k56_run s)
theorem k57_run (s : Nat → Value) : runH (xo s (orcOr (orcH k48) (orcOr (orcR 6 k49) (orcOr (orcR 6 k50) (orcOr (orcH k51) (orcOr (orcH k52) (orcOr (orcH k53) (orcOr (orcR 6 k54) (orcOr (orcH k55) (orcOr (orcH k56) noOrc)))))))))) 100000 k57 = true := by kernel_rfl
theorem k57_ok (s : Nat → Value) : OrcOk Tryz.prog ⟨6, s⟩ (orcH k57) := orcH_ok (xo_ok (orcOr_ok (k48_ok s) (orcOr_ok (k49_ok s) (orcOr_ok (k50_ok s) (orcOr_ok (k51_ok s) (orcOr_ok (k52_ok s) (orcOr_ok (k53_ok s) (orcOr_ok (k54_ok s) (orcOr_ok (k55_ok s) (orcOr_ok (k56_ok s) (noOrc_ok _ _))))))))))) (k57_run s)
theorem k58_run (s : Nat → Value) : runH (xo s noOrc) 100000 k58 = true := by kernel_rfl
theorem k58_ok (s : Nat → Value) : OrcOk Tryz.prog ⟨6, s⟩ (orcH k58) := orcH_ok (xo_ok (noOrc_ok _ _)) (k58_run s)
theorem k59_run (s : Nat → Value) : runH (xo s noOrc) 100000 k59 = true := by kernel_rfl
theorem k59_ok (s : Nat → Value) : OrcOk Tryz.prog ⟨6, s⟩ (orcH k59) := orcH_ok (xo_ok (noOrc_ok _ _)) (k59_run s)
theorem k60_run (s : Nat → Value) : runH (xo s noOrc) 100000 k60 = true := by kernel_rfl
theorem k60_ok (s : Nat → Value) : OrcOk Tryz.prog ⟨6, s⟩ (orcH k60) := orcH_ok (xo_ok (noOrc_ok _ _)) (k60_run s)
theorem k61_run (s : Nat → Value) : runH (xo s noOrc) 100000 k61 = true := by kernel_rfl
theorem k61_ok (s : Nat → Value) : OrcOk Tryz.prog ⟨6, s⟩ (orcH k61) := orcH_ok (xo_ok (noOrc_ok _ _)) (k61_run s)
theorem k62_run (s : Nat → Value) : runH (xo s noOrc) 100000 k62 = true := by kernel_rfl
theorem k62_ok (s : Nat → Value) : OrcOk Tryz.prog ⟨6, s⟩ (orcH k62) := orcH_ok (xo_ok (noOrc_ok _ _)) (k62_run s)
theorem k63_run (s : Nat → Value) : runH (xo s noOrc) 100000 k63 = true := by kernel_rfl
theorem k63_ok (s : Nat → Value) : OrcOk Tryz.prog ⟨6, s⟩ (orcH k63) := orcH_ok (xo_ok (noOrc_ok _ _)) (k63_run s)
theorem k64_run (s : Nat → Value) : runH (xo s noOrc) 100000 k64 = true := by kernel_rfl
theorem k64_ok (s : Nat → Value) : OrcOk Tryz.prog ⟨6, s⟩ (orcH k64) := orcH_ok (xo_ok (noOrc_ok _ _)) (k64_run s)
theorem k65_run (s : Nat → Value) : runH (xo s noOrc) 100000 k65 = true := by kernel_rfl
theorem k65_ok (s : Nat → Value) : OrcOk Tryz.prog ⟨6, s⟩ (orcH k65) := orcH_ok (xo_ok (noOrc_ok _ _)) (k65_run s)
theorem k66_run (s : Nat → Value) : runH (xo s noOrc) 100000 k66 = true := by kernel_rfl
theorem k66_ok (s : Nat → Value) : OrcOk Tryz.prog ⟨6, s⟩ (orcH k66) := orcH_ok (xo_ok (noOrc_ok _ _)) (k66_run s)
theorem k67_run (s : Nat → Value) : runH (xo s noOrc) 100000 k67 = true := by kernel_rfl
theorem k67_ok (s : Nat → Value) : OrcOk Tryz.prog ⟨6, s⟩ (orcH k67) := orcH_ok (xo_ok (noOrc_ok _ _)) (k67_run s)
theorem k68_run (s : Nat → Value) : runH (xo s noOrc) 100000 k68 = true := by kernel_rfl
theorem k68_ok (s : Nat → Value) : OrcOk Tryz.prog ⟨6, s⟩ (orcH k68) := orcH_ok (xo_ok (noOrc_ok _ _)) (k68_run s)
theorem k69_run (s : Nat → Value) : runH (xo s noOrc) 100000 k69 = true := by kernel_rfl
theorem k69_ok (s : Nat → Value) : OrcOk Tryz.prog ⟨6, s⟩ (orcH k69) := orcH_ok (xo_ok (noOrc_ok _ _)) (k69_run s)
theorem k70_run (s : Nat → Value) : runH (xo s noOrc) 100000 k70 = true := by kernel_rfl
theorem k70_ok (s : Nat → Value) : OrcOk Tryz.prog ⟨6, s⟩ (orcH k70) := orcH_ok (xo_ok (noOrc_ok _ _)) (k70_run s)
theorem k71_run (s : Nat → Value) : runH (xo s noOrc) 100000 k71 = true := by kernel_rfl
theorem k71_ok (s : Nat → Value) : OrcOk Tryz.prog ⟨6, s⟩ (orcH k71) := orcH_ok (xo_ok (noOrc_ok _ _)) (k71_run s)
theorem k72_run (s : Nat → Value) : runH (xo s noOrc) 100000 k72 = true := by kernel_rfl
theorem k72_ok (s : Nat → Value) : OrcOk Tryz.prog ⟨6, s⟩ (orcH k72) := orcH_ok (xo_ok (noOrc_ok _ _)) (k72_run s)
theorem k73_run (s : Nat → Value) : runH (xo s noOrc) 100000 k73 = true := by kernel_rfl
theorem k73_ok (s : Nat → Value) : OrcOk Tryz.prog ⟨6, s⟩ (orcH k73) := orcH_ok (xo_ok (noOrc_ok _ _)) (k73_run s)
theorem k74_run (s : Nat → Value) : runH (xo s noOrc) 100000 k74 = true := by kernel_rfl
theorem k74_ok (s : Nat → Value) : OrcOk Tryz.prog ⟨6, s⟩ (orcH k74) := orcH_ok (xo_ok (noOrc_ok _ _)) (k74_run s)
end Go.Proofs.YtfajabaikainmaaGreatDoor.Kt
