/-
  The law by cases: runs.
-/
import Derived.Test.YtfajabaikainmaaGreatDoorFfb
namespace Go.Proofs.YtfajabaikainmaaGreatDoor.Kf
open Go Go.RowKit CX
theorem run_0 (s : Nat → Value) : runs s 0 = true := by kernel_rfl
theorem run_1 (s : Nat → Value) : runs s 1 = true := by kernel_rfl
theorem run_2 (s : Nat → Value) : runs s 2 = true := by kernel_rfl
theorem run_3 (s : Nat → Value) : runs s 3 = true := by kernel_rfl
theorem run_4 (s : Nat → Value) : runs s 4 = true := by kernel_rfl
theorem run_5 (s : Nat → Value) : runs s 5 = true := by kernel_rfl
theorem run_6 (s : Nat → Value) : runs s 6 = true := by kernel_rfl
end Go.Proofs.YtfajabaikainmaaGreatDoor.Kf
