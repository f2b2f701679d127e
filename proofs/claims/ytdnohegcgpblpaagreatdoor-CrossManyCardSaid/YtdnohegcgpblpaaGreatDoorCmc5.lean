/-
  The law by cases: runs.
-/
import Derived.Test.YtdnohegcgpblpaaGreatDoorCmb
namespace Go.Proofs.YtdnohegcgpblpaaGreatDoor.Kw
open Go Go.RowKit CX
theorem run_15 (s : Nat → Value) : runs s 15 = true := by kernel_rfl
theorem run_16 (s : Nat → Value) : runs s 16 = true := by kernel_rfl
end Go.Proofs.YtdnohegcgpblpaaGreatDoor.Kw
