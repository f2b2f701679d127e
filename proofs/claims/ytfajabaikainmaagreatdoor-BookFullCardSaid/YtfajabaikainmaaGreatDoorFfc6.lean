/-
  The law by cases: runs.
-/
import Derived.Test.YtfajabaikainmaaGreatDoorFfb
namespace Go.Proofs.YtfajabaikainmaaGreatDoor.Kf
open Go Go.RowKit CX
theorem run_35 (s : Nat → Value) : runs s 35 = true := by kernel_rfl
theorem run_36 (s : Nat → Value) : runs s 36 = true := by kernel_rfl
theorem run_37 (s : Nat → Value) : runs s 37 = true := by kernel_rfl
theorem run_38 (s : Nat → Value) : runs s 38 = true := by kernel_rfl
end Go.Proofs.YtfajabaikainmaaGreatDoor.Kf
