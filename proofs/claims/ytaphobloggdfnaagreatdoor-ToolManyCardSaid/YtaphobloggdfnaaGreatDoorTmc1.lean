/-
  The law by cases: runs.
-/
import Derived.Test.YtaphobloggdfnaaGreatDoorTmb
namespace Go.Proofs.YtaphobloggdfnaaGreatDoor.Kw
open Go Go.RowKit CX
theorem run_0_0 (s : Nat → Value) : runs s 0 0 = true := by kernel_rfl
theorem run_0_1 (s : Nat → Value) : runs s 0 1 = true := by kernel_rfl
theorem run_1_0 (s : Nat → Value) : runs s 1 0 = true := by kernel_rfl
theorem run_1_1 (s : Nat → Value) : runs s 1 1 = true := by kernel_rfl
theorem run_2_0 (s : Nat → Value) : runs s 2 0 = true := by kernel_rfl
theorem run_2_1 (s : Nat → Value) : runs s 2 1 = true := by kernel_rfl
theorem run_3_0 (s : Nat → Value) : runs s 3 0 = true := by kernel_rfl
theorem run_3_1 (s : Nat → Value) : runs s 3 1 = true := by kernel_rfl
theorem run_4_0 (s : Nat → Value) : runs s 4 0 = true := by kernel_rfl
end Go.Proofs.YtaphobloggdfnaaGreatDoor.Kw
