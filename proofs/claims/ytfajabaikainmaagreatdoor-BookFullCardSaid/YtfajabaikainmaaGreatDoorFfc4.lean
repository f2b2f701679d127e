/-
  The law by cases: runs.
-/
import Derived.Test.YtfajabaikainmaaGreatDoorFfb
namespace Go.Proofs.YtfajabaikainmaaGreatDoor.Kf
open Go Go.RowKit CX
theorem run_21 (s : Nat → Value) : runs s 21 = true := by kernel_rfl
theorem run_22 (s : Nat → Value) : runs s 22 = true := by kernel_rfl
theorem run_23 (s : Nat → Value) : runs s 23 = true := by kernel_rfl
theorem run_24 (s : Nat → Value) : runs s 24 = true := by kernel_rfl
theorem run_25 (s : Nat → Value) : runs s 25 = true := by kernel_rfl
theorem run_26 (s : Nat → Value) : runs s 26 = true := by kernel_rfl
theorem run_27 (s : Nat → Value) : runs s 27 = true := by kernel_rfl
end Go.Proofs.YtfajabaikainmaaGreatDoor.Kf
