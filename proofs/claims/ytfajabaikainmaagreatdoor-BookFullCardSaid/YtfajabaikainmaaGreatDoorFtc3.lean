/-
  The law by cases: runs.
-/
import Derived.Test.YtfajabaikainmaaGreatDoorFtb
namespace Go.Proofs.YtfajabaikainmaaGreatDoor.Kt
open Go Go.RowKit CX
theorem run_10 (s : Nat → Value) : runs s 10 = true := by kernel_rfl
theorem run_11 (s : Nat → Value) : runs s 11 = true := by kernel_rfl
theorem run_12 (s : Nat → Value) : runs s 12 = true := by kernel_rfl
theorem run_13 (s : Nat → Value) : runs s 13 = true := by kernel_rfl
theorem run_14 (s : Nat → Value) : runs s 14 = true := by kernel_rfl
end Go.Proofs.YtfajabaikainmaaGreatDoor.Kt
