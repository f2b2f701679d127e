/-
  The law by cases: runs.
-/
import Derived.Test.YtaphobloggdfnaaGreatDoorTmb
namespace Go.Proofs.YtaphobloggdfnaaGreatDoor.Kw
open Go Go.RowKit CX
theorem run_4_1 (s : Nat → Value) : runs s 4 1 = true := by kernel_rfl
theorem run_5_0 (s : Nat → Value) : runs s 5 0 = true := by kernel_rfl
theorem run_5_1 (s : Nat → Value) : runs s 5 1 = true := by kernel_rfl
theorem run_6_0 (s : Nat → Value) : runs s 6 0 = true := by kernel_rfl
theorem run_6_1 (s : Nat → Value) : runs s 6 1 = true := by kernel_rfl
theorem run_7_0 (s : Nat → Value) : runs s 7 0 = true := by kernel_rfl
theorem run_7_1 (s : Nat → Value) : runs s 7 1 = true := by kernel_rfl
theorem run_8_0 (s : Nat → Value) : runs s 8 0 = true := by kernel_rfl
theorem run_8_1 (s : Nat → Value) : runs s 8 1 = true := by kernel_rfl
end Go.Proofs.YtaphobloggdfnaaGreatDoor.Kw
