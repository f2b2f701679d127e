/-
  The runs of known calls.
-/
import Derived.Test.YtdnohegcgpblpaaGreatDoorCm0
namespace Go.Proofs.YtdnohegcgpblpaaGreatDoor.Kw
open Go Go.RowKit CX
theorem k5_run (s : Nat → Value) : runH (xo s noOrc) 100000 k5 = true := by kernel_rfl
theorem k5_ok (s : Nat → Value) : OrcOk Tryz.prog ⟨6, s⟩ (orcH k5) := orcH_ok (xo_ok (noOrc_ok _ _)) (k5_run s)
theorem k6_run (s : Nat → Value) : runH (xo s noOrc) 100000 k6 = true := by kernel_rfl
theorem k6_ok (s : Nat → Value) : OrcOk Tryz.prog ⟨6, s⟩ (orcH k6) := orcH_ok (xo_ok (noOrc_ok _ _)) (k6_run s)
end Go.Proofs.YtdnohegcgpblpaaGreatDoor.Kw
