/-
  The law by cases: runs.
-/
import Derived.Test.YtfajabaikainmaaGreatDoorFtb
namespace Go.Proofs.YtfajabaikainmaaGreatDoor.Kt
open Go Go.RowKit CX
theorem run_5 (s : Nat → Value) : runs s 5 = true := by kernel_rfl
theorem run_6 (s : Nat → Value) : runs s 6 = true := by kernel_rfl
theorem run_7 (s : Nat → Value) : runs s 7 = true := by kernel_rfl
theorem run_8 (s : Nat → Value) : runs s 8 = true := by kernel_rfl
theorem run_9 (s : Nat → Value) : runs s 9 = true := by kernel_rfl
end Go.Proofs.YtfajabaikainmaaGreatDoor.Kt
