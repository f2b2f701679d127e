/-
  The runs of known calls.
-/
import Derived.Test.YtnpbbffegbjdfaaGreatDoorVn0
import Derived.Test.YtnpbbffegbjdfaaGreatDoorVn2
namespace Go.Proofs.YtnpbbffegbjdfaaGreatDoor.Kw
open Go Go.RowKit CX
theorem k5_run (s : Nat → Value) : runH (xo s (orcOr (orcH k4) noOrc)) 100000 k5 = true := by kernel_rfl
theorem k5_ok (s : Nat → Value) : OrcOk Tryz.prog ⟨6, s⟩ (orcH k5) := orcH_ok (xo_ok (orcOr_ok (k4_ok s) (noOrc_ok _ _))) (k5_run s)
theorem k6_run (s : Nat → Value) : runH (xo s noOrc) 100000 k6 = true := by kernel_rfl
theorem k6_okR : okR 6 k6 = true := by kernel_rfl
theorem k6_ok (s : Nat → Value) : OrcOk Tryz.prog ⟨6, s⟩ (orcR 6 k6) := orcR_ok (xo_ok (noOrc_ok _ _)) rfl k6_okR (k6_run s)
theorem k7_run (s : Nat → Value) : runH (xo s (orcOr (orcR 6 k6) noOrc)) 100000 k7 = true := by kernel_rfl
theorem k7_okR : okR 6 k7 = true := by kernel_rfl
theorem k7_ok (s : Nat → Value) : OrcOk Tryz.prog ⟨6, s⟩ (orcR 6 k7) := orcR_ok (xo_ok (orcOr_ok (k6_ok s) (noOrc_ok _ _))) rfl k7_okR (k7_run s)
theorem k8_run (s : Nat → Value) : runH (xo s (orcOr (orcR 6 k7) noOrc)) 100000 k8 = true := by kernel_rfl
theorem k8_ok (s : Nat → Value) : OrcOk Tryz.prog ⟨6, s⟩ (orcH k8) := orcH_ok (xo_ok (orcOr_ok (k7_ok s) (noOrc_ok _ _))) (k8_run s)
end Go.Proofs.YtnpbbffegbjdfaaGreatDoor.Kw
