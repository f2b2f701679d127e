/-
  The runs of known calls.
-/
import Derived.Test.YthfmallebojjpaaGreatDoorKb0
import Derived.Test.YthfmallebojjpaaGreatDoorKb3
namespace Go.Proofs.YthfmallebojjpaaGreatDoor.Kw
open Go Go.RowKit CX
theorem k8_run (s : Nat → Value) : runH (xo s (orcOr (orcR 6 k7) noOrc)) 100000 k8 = true := by kernel_rfl
theorem k8_ok (s : Nat → Value) : OrcOk Tryz.prog ⟨6, s⟩ (orcH k8) := orcH_ok (xo_ok (orcOr_ok (k7_ok s) (noOrc_ok _ _))) (k8_run s)
theorem k9_run (s : Nat → Value) : runH (xo s noOrc) 100000 k9 = true := by kernel_rfl
theorem k9_ok (s : Nat → Value) : OrcOk Tryz.prog ⟨6, s⟩ (orcH k9) := orcH_ok (xo_ok (noOrc_ok _ _)) (k9_run s)
end Go.Proofs.YthfmallebojjpaaGreatDoor.Kw
