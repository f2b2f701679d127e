/-
  The law by cases: runs.
-/
import Derived.Test.YtfajabaikainmaaGreatDoorFfb
namespace Go.Proofs.YtfajabaikainmaaGreatDoor.Kf
open Go Go.RowKit CX
theorem run_14 (s : Nat → Value) : runs s 14 = true := by kernel_rfl
theorem run_15 (s : Nat → Value) : runs s 15 = true := by kernel_rfl
theorem run_16 (s : Nat → Value) : runs s 16 = true := by kernel_rfl
theorem run_17 (s : Nat → Value) : runs s 17 = true := by kernel_rfl
theorem run_18 (s : Nat → Value) : runs s 18 = true := by kernel_rfl
theorem run_19 (s : Nat → Value) : runs s 19 = true := by kernel_rfl
theorem run_20 (s : Nat → Value) : runs s 20 = true := by kernel_rfl
end Go.Proofs.YtfajabaikainmaaGreatDoor.Kf
