/-
  The runs of known calls.
-/
import Derived.Test.YtdnohegcgpblpaaGreatDoorCm0
import Derived.Test.YtdnohegcgpblpaaGreatDoorCm1
import Derived.Test.YtdnohegcgpblpaaGreatDoorCm2
namespace Go.Proofs.YtdnohegcgpblpaaGreatDoor.Kw
open Go Go.RowKit CX
theorem k3_run (s : Nat → Value) : runH (xo s (orcOr (orcH k1) (orcOr (orcH k2) noOrc))) 100000 k3 = true := by kernel_rfl
theorem k3_ok (s : Nat → Value) : OrcOk Tryz.prog ⟨6, s⟩ (orcH k3) := orcH_ok (xo_ok (orcOr_ok (k1_ok s) (orcOr_ok (k2_ok s) (noOrc_ok _ _)))) (k3_run s)
theorem k4_run (s : Nat → Value) : runH (xo s (orcOr (orcR 6 k0) (orcOr (orcH k3) noOrc))) 100000 k4 = true := by kernel_rfl
theorem k4_okR : okR 6 k4 = true := by kernel_rfl
theorem k4_ok (s : Nat → Value) : OrcOk Tryz.prog ⟨6, s⟩ (orcR 6 k4) := orcR_ok (xo_ok (orcOr_ok (k0_ok s) (orcOr_ok (k3_ok s) (noOrc_ok _ _)))) rfl k4_okR (k4_run s)
end Go.Proofs.YtdnohegcgpblpaaGreatDoor.Kw
