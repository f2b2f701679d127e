/-
  The law by cases: runs.
-/
import Derived.Test.YtdnohegcgpblpaaGreatDoorCmb
namespace Go.Proofs.YtdnohegcgpblpaaGreatDoor.Kw
open Go Go.RowKit CX
theorem run_19 (s : Nat → Value) : runs s 19 = true := by kernel_rfl
end Go.Proofs.YtdnohegcgpblpaaGreatDoor.Kw
