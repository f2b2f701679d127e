/-
  The runs of known calls.
-/
import Derived.Test.YtdnohegcgpblpaaGreatDoorCm0
import Derived.Test.YtdnohegcgpblpaaGreatDoorCm4
namespace Go.Proofs.YtdnohegcgpblpaaGreatDoor.Kw
open Go Go.RowKit CX
theorem k7_run (s : Nat → Value) : runH (xo s (orcOr (orcH k5) (orcOr (orcH k6) noOrc))) 100000 k7 = true := by kernel_rfl
theorem k7_okR : okR 6 k7 = true := by kernel_rfl
theorem k7_ok (s : Nat → Value) : OrcOk Tryz.prog ⟨6, s⟩ (orcR 6 k7) := orcR_ok (xo_ok (orcOr_ok (k5_ok s) (orcOr_ok (k6_ok s) (noOrc_ok _ _)))) rfl k7_okR (k7_run s)
end Go.Proofs.YtdnohegcgpblpaaGreatDoor.Kw
