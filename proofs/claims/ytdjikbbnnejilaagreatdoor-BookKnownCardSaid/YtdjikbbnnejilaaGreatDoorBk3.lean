/-
  The runs of known calls.
-/
import Derived.Test.YtdjikbbnnejilaaGreatDoorBk0
import Derived.Test.YtdjikbbnnejilaaGreatDoorBk2
namespace Go.Proofs.YtdjikbbnnejilaaGreatDoor.Kw
open Go Go.RowKit CX
theorem k4_run (s : Nat → Value) : runH (xo s (orcOr (orcH k3) noOrc)) 100000 k4 = true := by kernel_rfl
theorem k4_okR : okR 6 k4 = true := by kernel_rfl
theorem k4_ok (s : Nat → Value) : OrcOk Tryz.prog ⟨6, s⟩ (orcR 6 k4) := orcR_ok (xo_ok (orcOr_ok (k3_ok s) (noOrc_ok _ _))) rfl k4_okR (k4_run s)
theorem k5_run (s : Nat → Value) : runH (xo s noOrc) 100000 k5 = true := by kernel_rfl
theorem k5_okR : okR 6 k5 = true := by kernel_rfl
theorem k5_ok (s : Nat → Value) : OrcOk Tryz.prog ⟨6, s⟩ (orcR 6 k5) := orcR_ok (xo_ok (noOrc_ok _ _)) rfl k5_okR (k5_run s)
theorem k6_run (s : Nat → Value) : runH (xo s noOrc) 100000 k6 = true := by kernel_rfl
theorem k6_ok (s : Nat → Value) : OrcOk Tryz.prog ⟨6, s⟩ (orcH k6) := orcH_ok (xo_ok (noOrc_ok _ _)) (k6_run s)
theorem k7_run (s : Nat → Value) : runH (xo s (orcOr (orcH k6) noOrc)) 100000 k7 = true := by kernel_rfl
theorem k7_okR : okR 6 k7 = true := by kernel_rfl
theorem k7_ok (s : Nat → Value) : OrcOk Tryz.prog ⟨6, s⟩ (orcR 6 k7) := orcR_ok (xo_ok (orcOr_ok (k6_ok s) (noOrc_ok _ _))) rfl k7_okR (k7_run s)
end Go.Proofs.YtdjikbbnnejilaaGreatDoor.Kw
