/-
  The law by cases: runs.
-/
import Derived.Test.YtdnohegcgpblpaaGreatDoorCmb
namespace Go.Proofs.YtdnohegcgpblpaaGreatDoor.Kw
open Go Go.RowKit CX
theorem run_17 (s : Nat → Value) : runs s 17 = true := by kernel_rfl
theorem run_18 (s : Nat → Value) : runs s 18 = true := by kernel_rfl
end Go.Proofs.YtdnohegcgpblpaaGreatDoor.Kw
