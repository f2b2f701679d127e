/-
  The runs of known calls.
-/
import Derived.Test.YtnpbbffegbjdfaaGreatDoorVn0
import Derived.Test.YtnpbbffegbjdfaaGreatDoorVn4
namespace Go.Proofs.YtnpbbffegbjdfaaGreatDoor.Kw
open Go Go.RowKit CX
theorem k13_run (s : Nat → Value) : runH (xo s (orcOr (orcR 6 k12) noOrc)) 100000 k13 = true := by kernel_rfl
theorem k13_okR : okR 6 k13 = true := by kernel_rfl
theorem k13_ok (s : Nat → Value) : OrcOk Tryz.prog ⟨6, s⟩ (orcR 6 k13) := orcR_ok (xo_ok (orcOr_ok (k12_ok s) (noOrc_ok _ _))) rfl k13_okR (k13_run s)
theorem k14_run (s : Nat → Value) : runH (xo s (orcOr (orcR 6 k13) noOrc)) 100000 k14 = true := by kernel_rfl
theorem k14_ok (s : Nat → Value) : OrcOk Tryz.prog ⟨6, s⟩ (orcH k14) := orcH_ok (xo_ok (orcOr_ok (k13_ok s) (noOrc_ok _ _))) (k14_run s)
theorem k15_run (s : Nat → Value) : runH (xo s noOrc) 100000 k15 = true := by kernel_rfl
theorem k15_ok (s : Nat → Value) : OrcOk Tryz.prog ⟨6, s⟩ (orcH k15) := orcH_ok (xo_ok (noOrc_ok _ _)) (k15_run s)
theorem k16_run (s : Nat → Value) : runH (xo s (orcOr (orcR 6 k13) noOrc)) 100000 k16 = true := by kernel_rfl
theorem k16_ok (s : Nat → Value) : OrcOk Tryz.prog ⟨6, s⟩ (orcH k16) := orcH_ok (xo_ok (orcOr_ok (k13_ok s) (noOrc_ok _ _))) (k16_run s)
end Go.Proofs.YtnpbbffegbjdfaaGreatDoor.Kw
