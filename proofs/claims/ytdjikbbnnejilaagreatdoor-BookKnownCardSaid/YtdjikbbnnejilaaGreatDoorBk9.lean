/-
  The runs of known calls.
-/
import Derived.Test.YtdjikbbnnejilaaGreatDoorBk0
namespace Go.Proofs.YtdjikbbnnejilaaGreatDoor.Kw
open Go Go.RowKit CX
theorem k19_run (s : Nat → Value) : runH (xo s noOrc) 100000 k19 = true := by kernel_rfl
theorem k19_ok (s : Nat → Value) : OrcOk Tryz.prog ⟨6, s⟩ (orcH k19) := orcH_ok (xo_ok (noOrc_ok _ _)) (k19_run s)
theorem k20_run (s : Nat → Value) : runH (xo s (orcOr (orcH k19) noOrc)) 100000 k20 = true := by kernel_rfl
theorem k20_okR : okR 6 k20 = true := by kernel_rfl
theorem k20_ok (s : Nat → Value) : OrcOk Tryz.prog ⟨6, s⟩ (orcR 6 k20) := orcR_ok (xo_ok (orcOr_ok (k19_ok s) (noOrc_ok _ _))) rfl k20_okR (k20_run s)
theorem k21_run (s : Nat → Value) : runH (xo s (orcOr (orcR 6 k20) noOrc)) 100000 k21 = true := by kernel_rfl
theorem k21_ok (s : Nat → Value) : OrcOk Tryz.prog ⟨6, s⟩ (orcH k21) := orcH_ok (xo_ok (orcOr_ok (k20_ok s) (noOrc_ok _ _))) (k21_run s)
theorem k22_run (s : Nat → Value) : runH (xo s noOrc) 100000 k22 = true := by kernel_rfl
theorem k22_ok (s : Nat → Value) : OrcOk Tryz.prog ⟨6, s⟩ (orcH k22) := orcH_ok (xo_ok (noOrc_ok _ _)) (k22_run s)
theorem k23_run (s : Nat → Value) : runH (xo s noOrc) 100000 k23 = true := by kernel_rfl
theorem k23_ok (s : Nat → Value) : OrcOk Tryz.prog ⟨6, s⟩ (orcH k23) := orcH_ok (xo_ok (noOrc_ok _ _)) (k23_run s)
end Go.Proofs.YtdjikbbnnejilaaGreatDoor.Kw
