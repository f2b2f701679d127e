/-
  The law by cases: runs.
-/
import Derived.Test.YtdnohegcgpblpaaGreatDoorCmb
namespace Go.Proofs.YtdnohegcgpblpaaGreatDoor.Kw
open Go Go.RowKit CX
theorem run_13 (s : Nat → Value) : runs s 13 = true := by kernel_rfl
theorem run_14 (s : Nat → Value) : runs s 14 = true := by kernel_rfl
end Go.Proofs.YtdnohegcgpblpaaGreatDoor.Kw
