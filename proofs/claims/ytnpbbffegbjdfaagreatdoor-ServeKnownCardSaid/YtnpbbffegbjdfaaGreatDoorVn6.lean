/-
  The runs of known calls.
-/
import Derived.Test.YtnpbbffegbjdfaaGreatDoorVn0
namespace Go.Proofs.YtnpbbffegbjdfaaGreatDoor.Kw
open Go Go.RowKit CX
theorem k17_run (s : Nat → Value) : runH (xo s noOrc) 100000 k17 = true := by kernel_rfl
theorem k17_ok (s : Nat → Value) : OrcOk Tryz.prog ⟨6, s⟩ (orcH k17) := orcH_ok (xo_ok (noOrc_ok _ _)) (k17_run s)
theorem k18_run (s : Nat → Value) : runH (xo s noOrc) 100000 k18 = true := by kernel_rfl
theorem k18_ok (s : Nat → Value) : OrcOk Tryz.prog ⟨6, s⟩ (orcH k18) := orcH_ok (xo_ok (noOrc_ok _ _)) (k18_run s)
theorem k19_run (s : Nat → Value) : runH (xo s noOrc) 100000 k19 = true := by kernel_rfl
theorem k19_ok (s : Nat → Value) : OrcOk Tryz.prog ⟨6, s⟩ (orcH k19) := orcH_ok (xo_ok (noOrc_ok _ _)) (k19_run s)
end Go.Proofs.YtnpbbffegbjdfaaGreatDoor.Kw
