/-
  The law by cases: runs.
-/
import Derived.Test.YtdnohegcgpblpaaGreatDoorCmb
namespace Go.Proofs.YtdnohegcgpblpaaGreatDoor.Kw
open Go Go.RowKit CX
theorem run_20 (s : Nat → Value) : runs s 20 = true := by kernel_rfl
theorem run_21 (s : Nat → Value) : runs s 21 = true := by kernel_rfl
theorem run_22 (s : Nat → Value) : runs s 22 = true := by kernel_rfl
theorem run_23 (s : Nat → Value) : runs s 23 = true := by kernel_rfl
end Go.Proofs.YtdnohegcgpblpaaGreatDoor.Kw
