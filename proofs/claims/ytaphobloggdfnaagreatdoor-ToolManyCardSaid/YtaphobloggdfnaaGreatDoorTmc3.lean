/-
  The law by cases: runs.
-/
import Derived.Test.YtaphobloggdfnaaGreatDoorTmb
namespace Go.Proofs.YtaphobloggdfnaaGreatDoor.Kw
open Go Go.RowKit CX
theorem run_9_0 (s : Nat → Value) : runs s 9 0 = true := by kernel_rfl
theorem run_9_1 (s : Nat → Value) : runs s 9 1 = true := by kernel_rfl
theorem run_10_0 (s : Nat → Value) : runs s 10 0 = true := by kernel_rfl
theorem run_10_1 (s : Nat → Value) : runs s 10 1 = true := by kernel_rfl
theorem run_11_0 (s : Nat → Value) : runs s 11 0 = true := by kernel_rfl
theorem run_11_1 (s : Nat → Value) : runs s 11 1 = true := by kernel_rfl
theorem run_12_0 (s : Nat → Value) : runs s 12 0 = true := by kernel_rfl
theorem run_12_1 (s : Nat → Value) : runs s 12 1 = true := by kernel_rfl
theorem run_13_0 (s : Nat → Value) : runs s 13 0 = true := by kernel_rfl
end Go.Proofs.YtaphobloggdfnaaGreatDoor.Kw
