/-
  The runs of known calls.
-/
import Derived.Test.YtdjikbbnnejilaaGreatDoorBk0
import Derived.Test.YtdjikbbnnejilaaGreatDoorBk7
namespace Go.Proofs.YtdjikbbnnejilaaGreatDoor.Kw
open Go Go.RowKit CX
theorem k14_run (s : Nat → Value) : runH (xo s (orcOr (orcH k13) noOrc)) 100000 k14 = true := by kernel_rfl
theorem k14_ok (s : Nat → Value) : OrcOk Tryz.prog ⟨6, s⟩ (orcH k14) := orcH_ok (xo_ok (orcOr_ok (k13_ok s) (noOrc_ok _ _))) (k14_run s)
theorem k15_run (s : Nat → Value) : runH (xo s (orcOr (orcH k14) noOrc)) 100000 k15 = true := by kernel_rfl
theorem k15_okR : okR 6 k15 = true := by kernel_rfl
theorem k15_ok (s : Nat → Value) : OrcOk Tryz.prog ⟨6, s⟩ (orcR 6 k15) := orcR_ok (xo_ok (orcOr_ok (k14_ok s) (noOrc_ok _ _))) rfl k15_okR (k15_run s)
theorem k16_run (s : Nat → Value) : runH (xo s noOrc) 100000 k16 = true := by kernel_rfl
theorem k16_ok (s : Nat → Value) : OrcOk Tryz.prog ⟨6, s⟩ (orcH k16) := orcH_ok (xo_ok (noOrc_ok _ _)) (k16_run s)
theorem k17_run (s : Nat → Value) : runH (xo s noOrc) 100000 k17 = true := by kernel_rfl
theorem k17_ok (s : Nat → Value) : OrcOk Tryz.prog ⟨6, s⟩ (orcH k17) := orcH_ok (xo_ok (noOrc_ok _ _)) (k17_run s)
theorem k18_run (s : Nat → Value) : runH (xo s noOrc) 100000 k18 = true := by kernel_rfl
theorem k18_ok (s : Nat → Value) : OrcOk Tryz.prog ⟨6, s⟩ (orcH k18) := orcH_ok (xo_ok (noOrc_ok _ _)) (k18_run s)
end Go.Proofs.YtdjikbbnnejilaaGreatDoor.Kw
