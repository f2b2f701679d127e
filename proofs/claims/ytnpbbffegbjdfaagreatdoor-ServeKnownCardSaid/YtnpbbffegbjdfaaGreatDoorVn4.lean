/-
  The runs of known calls.
-/
import Derived.Test.YtnpbbffegbjdfaaGreatDoorVn0
namespace Go.Proofs.YtnpbbffegbjdfaaGreatDoor.Kw
open Go Go.RowKit CX
theorem k9_run (s : Nat → Value) : runH (xo s noOrc) 100000 k9 = true := by kernel_rfl
theorem k9_ok (s : Nat → Value) : OrcOk Tryz.prog ⟨6, s⟩ (orcH k9) := orcH_ok (xo_ok (noOrc_ok _ _)) (k9_run s)
theorem k10_run (s : Nat → Value) : runH (xo s (orcOr (orcH k9) noOrc)) 100000 k10 = true := by kernel_rfl
theorem k10_ok (s : Nat → Value) : OrcOk Tryz.prog ⟨6, s⟩ (orcH k10) := orcH_ok (xo_ok (orcOr_ok (k9_ok s) (noOrc_ok _ _))) (k10_run s)
theorem k11_run (s : Nat → Value) : runH (xo s noOrc) 100000 k11 = true := by kernel_rfl
theorem k11_ok (s : Nat → Value) : OrcOk Tryz.prog ⟨6, s⟩ (orcH k11) := orcH_ok (xo_ok (noOrc_ok _ _)) (k11_run s)
theorem k12_run (s : Nat → Value) : runH (xo s noOrc) 100000 k12 = true := by kernel_rfl
theorem k12_okR : okR 6 k12 = true := by kernel_rfl
theorem k12_ok (s : Nat → Value) : OrcOk Tryz.prog ⟨6, s⟩ (orcR 6 k12) := orcR_ok (xo_ok (noOrc_ok _ _)) rfl k12_okR (k12_run s)
end Go.Proofs.YtnpbbffegbjdfaaGreatDoor.Kw
