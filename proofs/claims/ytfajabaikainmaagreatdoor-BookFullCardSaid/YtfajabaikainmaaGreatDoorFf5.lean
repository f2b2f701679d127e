/-
  The runs of known calls.
-/
import Derived.Test.YtfajabaikainmaaGreatDoorFf0
import Derived.Test.YtfajabaikainmaaGreatDoorFf1
import Derived.Test.YtfajabaikainmaaGreatDoorFf4
namespace Go.Proofs.YtfajabaikainmaaGreatDoor.Kf
open Go Go.RowKit CX
theorem k47_run (s : Nat → Value) : runH (xo s noOrc) 100000 k47 = true := by kernel_rfl
theorem k47_okR : okR 6 k47 = true := by kernel_rfl
theorem k47_ok (s : Nat → Value) : OrcOk Tryz.prog ⟨6, s⟩ (orcR 6 k47) := orcR_ok (xo_ok (noOrc_ok _ _)) rfl k47_okR (k47_run s)
theorem k48_run (s : Nat → Value) : runH (xo s (orcOr (orcR 6 k47) noOrc)) 100000 k48 = true := by kernel_rfl
theorem k48_ok (s : Nat → Value) : OrcOk Tryz.prog ⟨6, s⟩ (orcH k48) := orcH_ok (xo_ok (orcOr_ok (k47_ok s) (noOrc_ok _ _))) (k48_run s)
theorem k49_run (s : Nat → Value) : runH (xo s noOrc) 100000 k49 = true := by kernel_rfl
theorem k49_ok (s : Nat → Value) : OrcOk Tryz.prog ⟨6, s⟩ (orcH k49) := orcH_ok (xo_ok (noOrc_ok _ _)) (k49_run s)
theorem k50_run (s : Nat → Value) : runH (xo s noOrc) 100000 k50 = true := by kernel_rfl
theorem k50_ok (s : Nat → Value) : OrcOk Tryz.prog ⟨6, s⟩ (orcH k50) := orcH_ok (xo_ok (noOrc_ok _ _)) (k50_run s)
theorem k51_run (s : Nat → Value) : runH (xo s noOrc) 100000 k51 = true := by kernel_rfl
theorem k51_okR : okR 6 k51 = true := by kernel_rfl
theorem k51_ok (s : Nat → Value) : OrcOk Tryz.prog ⟨6, s⟩ (orcR 6 k51) := orcR_ok (xo_ok (noOrc_ok _ _)) rfl k51_okR (k51_run s)
theorem k52_run (s : Nat → Value) : runH (xo s (orcOr (orcR 6 k51) noOrc)) 100000 k52 = true := by kernel_rfl
theorem k52_ok (s : Nat → Value) : OrcOk Tryz.prog ⟨6, s⟩ (orcH k52) := orcH_ok (xo_ok (orcOr_ok (k51_ok s) (noOrc_ok _ _))) (k52_run s)
theorem k53_run (s : Nat → Value) : runH (xo s noOrc) 100000 k53 = true := by kernel_rfl
theorem k53_ok (s : Nat → Value) : OrcOk Tryz.prog ⟨6, s⟩ (orcH k53) := orcH_ok (xo_ok (noOrc_ok _ _)) (k53_run s)
theorem k54_run (s : Nat → Value) : runH (xo s (orcOr (orcH k46) (orcOr (orcR 6 k1) (orcOr (orcR 6 k47) (orcOr (orcH k48) (orcOr (orcH k49) (orcOr (orcH k50) (orcOr (orcR 6 k51) (orcOr (orcH k52) (orcOr (orcH k53) noOrc)))))))))) 100000 k54 = true := by kernel_rfl
theorem k54_ok (s : Nat → Value) : OrcOk Tryz.prog ⟨6, s⟩ (orcH k54) := orcH_ok (xo_ok (orcOr_ok (k46_ok s) (orcOr_ok (k1_ok s) (orcOr_ok (k47_ok s) (orcOr_ok (k48_ok s) (orcOr_ok (k49_ok s) (orcOr_ok (k50_ok s) (orcOr_ok (k51_ok s) (orcOr_ok (k52_ok s) (orcOr_ok (k53_ok s) (noOrc_ok _ _))))))))))) (k54_run s)
theorem k55_run (s : Nat → Value) : runH (xo s noOrc) 100000 k55 = true := by kernel_rfl
theorem k55_ok (s : Nat → Value) : OrcOk Tryz.prog ⟨6, s⟩ (orcH k55) := orcH_ok (xo_ok (noOrc_ok _ _)) (k55_run s)
theorem k56_run (s : Nat → Value) : runH (xo s noOrc) 100000 k56 = true := by kernel_rfl
theorem k56_ok (s : Nat → Value) : OrcOk Tryz.prog ⟨6, s⟩ (orcH k56) := orcH_ok (xo_ok (noOrc_ok _ _)) (k56_run s)
theorem k57_run (s : Nat → Value) : runH (xo s noOrc) 100000 k57 = true := by kernel_rfl
theorem k57_ok (s : Nat → Value) : OrcOk Tryz.prog ⟨6, s⟩ (orcH k57) := orcH_ok (xo_ok (noOrc_ok _ _)) (k57_run s)
theorem k58_run (s : Nat → Value) : runH (xo s noOrc) 100000 k58 = true := by kernel_rfl
theorem k58_ok (s : Nat → Value) : OrcOk Tryz.prog ⟨6, s⟩ (orcH k58) := orcH_ok (xo_ok (noOrc_ok _ _)) (k58_run s)
theorem k59_run (s : Nat → Value) : runH (xo s noOrc) 100000 k59 = true := by kernel_rfl
theorem k59_ok (s : Nat → Value) : OrcOk Tryz.prog ⟨6, s⟩ (orcH k59) := orcH_ok (xo_ok (noOrc_ok _ _)) (k59_run s)
end Go.Proofs.YtfajabaikainmaaGreatDoor.Kf
