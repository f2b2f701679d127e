/-
  The law by cases: runs.
-/
import Derived.Test.YtaphobloggdfnaaGreatDoorTmb
namespace Go.Proofs.YtaphobloggdfnaaGreatDoor.Kw
open Go Go.RowKit CX
theorem run_13_1 (s : Nat → Value) : runs s 13 1 = true := by kernel_rfl
theorem run_14_0 (s : Nat → Value) : runs s 14 0 = true := by kernel_rfl
theorem run_14_1 (s : Nat → Value) : runs s 14 1 = true := by kernel_rfl
theorem run_15_0 (s : Nat → Value) : runs s 15 0 = true := by kernel_rfl
theorem run_15_1 (s : Nat → Value) : runs s 15 1 = true := by kernel_rfl
theorem run_16_0 (s : Nat → Value) : runs s 16 0 = true := by kernel_rfl
theorem run_16_1 (s : Nat → Value) : runs s 16 1 = true := by kernel_rfl
theorem run_17_0 (s : Nat → Value) : runs s 17 0 = true := by kernel_rfl
theorem run_17_1 (s : Nat → Value) : runs s 17 1 = true := by kernel_rfl
end Go.Proofs.YtaphobloggdfnaaGreatDoor.Kw
