/-
  The runs of known calls.
-/
import Derived.Test.YtfajabaikainmaaGreatDoorFf0
namespace Go.Proofs.YtfajabaikainmaaGreatDoor.Kf
open Go Go.RowKit CX
theorem k38_run (s : Nat → Value) : runH (xo s noOrc) 100000 k38 = true := by kernel_rfl
theorem k38_ok (s : Nat → Value) : OrcOk Tryz.prog ⟨6, s⟩ (orcH k38) := orcH_ok (xo_ok (noOrc_ok _ _)) (k38_run s)
theorem k39_run (s : Nat → Value) : runH (xo s noOrc) 100000 k39 = true := by kernel_rfl
theorem k39_ok (s : Nat → Value) : OrcOk Tryz.prog ⟨6, s⟩ (orcH k39) := orcH_ok (xo_ok (noOrc_ok _ _)) (k39_run s)
theorem k40_run (s : Nat → Value) : runH (xo s noOrc) 100000 k40 = true := by kernel_rfl
theorem k40_ok (s : Nat → Value) : OrcOk Tryz.prog ⟨6, s⟩ (orcH k40) := orcH_ok (xo_ok (noOrc_ok _ _)) (k40_run s)
theorem k41_run (s : Nat → Value) : runH (xo s noOrc) 100000 k41 = true := by kernel_rfl
theorem k41_ok (s : Nat → Value) : OrcOk Tryz.prog ⟨6, s⟩ (orcH k41) := orcH_ok (xo_ok (noOrc_ok _ _)) (k41_run s)
theorem k42_run (s : Nat → Value) : runH (xo s noOrc) 100000 k42 = true := by kernel_rfl
theorem k42_ok (s : Nat → Value) : OrcOk Tryz.prog ⟨6, s⟩ (orcH k42) := orcH_ok (xo_ok (noOrc_ok _ _)) (k42_run s)
theorem k43_run (s : Nat → Value) : runH (xo s noOrc) 100000 k43 = true := by kernel_rfl
theorem k43_ok (s : Nat → Value) : OrcOk Tryz.prog ⟨6, s⟩ (orcH k43) := orcH_ok (xo_ok (noOrc_ok _ _)) (k43_run s)
theorem k44_run (s : Nat → Value) : runH (xo s noOrc) 100000 k44 = true := by kernel_rfl
theorem k44_ok (s : Nat → Value) : OrcOk Tryz.prog ⟨6, s⟩ (orcH k44) := orcH_ok (xo_ok (noOrc_ok _ _)) (k44_run s)
theorem k45_run (s : Nat → Value) : runH (xo s noOrc) 100000 k45 = true := by kernel_rfl
theorem k45_ok (s : Nat → Value) : OrcOk Tryz.prog ⟨6, s⟩ (orcH k45) := orcH_ok (xo_ok (noOrc_ok _ _)) (k45_run s)
end Go.Proofs.YtfajabaikainmaaGreatDoor.Kf
