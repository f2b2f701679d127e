/-
  The law by cases: runs.
-/
import Derived.Test.YtfajabaikainmaaGreatDoorFfb
namespace Go.Proofs.YtfajabaikainmaaGreatDoor.Kf
open Go Go.RowKit CX
theorem run_7 (s : Nat → Value) : runs s 7 = true := by kernel_rfl
theorem run_8 (s : Nat → Value) : runs s 8 = true := by kernel_rfl
theorem run_9 (s : Nat → Value) : runs s 9 = true := by kernel_rfl
theorem run_10 (s : Nat → Value) : runs s 10 = true := by kernel_rfl
theorem run_11 (s : Nat → Value) : runs s 11 = true := by kernel_rfl
theorem run_12 (s : Nat → Value) : runs s 12 = true := by kernel_rfl
theorem run_13 (s : Nat → Value) : runs s 13 = true := by kernel_rfl
end Go.Proofs.YtfajabaikainmaaGreatDoor.Kf
