/-
  The runs of known calls.
-/
import Derived.Test.YtdnohegcgpblpaaGreatDoorCm0
namespace Go.Proofs.YtdnohegcgpblpaaGreatDoor.Kw
open Go Go.RowKit CX
theorem k2_run (s : Nat → Value) : runH (xo s noOrc) 100000 k2 = true := by kernel_rfl
theorem k2_ok (s : Nat → Value) : OrcOk Tryz.prog ⟨6, s⟩ (orcH k2) := orcH_ok (xo_ok (noOrc_ok _ _)) (k2_run s)
end Go.Proofs.YtdnohegcgpblpaaGreatDoor.Kw
