/-
  The law by cases: runs.
-/
import Derived.Test.YtfajabaikainmaaGreatDoorFfb
namespace Go.Proofs.YtfajabaikainmaaGreatDoor.Kf
open Go Go.RowKit CX
theorem run_28 (s : Nat → Value) : runs s 28 = true := by kernel_rfl
theorem run_29 (s : Nat → Value) : runs s 29 = true := by kernel_rfl
theorem run_30 (s : Nat → Value) : runs s 30 = true := by kernel_rfl
theorem run_31 (s : Nat → Value) : runs s 31 = true := by kernel_rfl
theorem run_32 (s : Nat → Value) : runs s 32 = true := by kernel_rfl
theorem run_33 (s : Nat → Value) : runs s 33 = true := by kernel_rfl
theorem run_34 (s : Nat → Value) : runs s 34 = true := by kernel_rfl
end Go.Proofs.YtfajabaikainmaaGreatDoor.Kf
