/-
  The runs of known calls.
-/
import Derived.Test.YthallgbggkgboaaGreatDoorKq0
import Derived.Test.YthallgbggkgboaaGreatDoorKq1
namespace Go.Proofs.YthallgbggkgboaaGreatDoor.Kw
open Go Go.RowKit CX
theorem k17_run (s : Nat → Value) : runH (xo s noOrc) 100000 k17 = true := by kernel_rfl
theorem k17_ok (s : Nat → Value) : OrcOk Tryz.prog ⟨6, s⟩ (orcH k17) := orcH_ok (xo_ok (noOrc_ok _ _)) (k17_run s)
theorem k18_run (s : Nat → Value) : runH (xo s (orcOr (orcR 6 k13) (orcOr (orcR 6 k15) (orcOr (orcH k17) (orcOr (orcR 6 k10) noOrc))))) 100000 k18 = true := by kernel_rfl
theorem k18_ok (s : Nat → Value) : OrcOk Tryz.prog ⟨6, s⟩ (orcH k18) := orcH_ok (xo_ok (orcOr_ok (k13_ok s) (orcOr_ok (k15_ok s) (orcOr_ok (k17_ok s) (orcOr_ok (k10_ok s) (noOrc_ok _ _)))))) (k18_run s)
theorem k19_run (s : Nat → Value) : runH (xo s (orcOr (orcR 6 k12) (orcOr (orcR 6 k7) (orcOr (orcR 6 k10) noOrc)))) 100000 k19 = true := by kernel_rfl
theorem k19_ok (s : Nat → Value) : OrcOk Tryz.prog ⟨6, s⟩ (orcH k19) := orcH_ok (xo_ok (orcOr_ok (k12_ok s) (orcOr_ok (k7_ok s) (orcOr_ok (k10_ok s) (noOrc_ok _ _))))) (k19_run s)
theorem k20_run (s : Nat → Value) : runH (xo s (orcOr (orcH k19) (orcOr (orcR 6 k8) noOrc))) 100000 k20 = true := by kernel_rfl
theorem k20_ok (s : Nat → Value) : OrcOk Tryz.prog ⟨6, s⟩ (orcH k20) := orcH_ok (xo_ok (orcOr_ok (k19_ok s) (orcOr_ok (k8_ok s) (noOrc_ok _ _)))) (k20_run s)
theorem k21_run (s : Nat → Value) : runH (xo s noOrc) 100000 k21 = true := by kernel_rfl
theorem k21_ok (s : Nat → Value) : OrcOk Tryz.prog ⟨6, s⟩ (orcH k21) := orcH_ok (xo_ok (noOrc_ok _ _)) (k21_run s)
end Go.Proofs.YthallgbggkgboaaGreatDoor.Kw
