/-
  The law by cases: runs.
-/
import Derived.Test.YtaphobloggdfnaaGreatDoorTmb
namespace Go.Proofs.YtaphobloggdfnaaGreatDoor.Kw
open Go Go.RowKit CX
theorem run_18_0 (s : Nat → Value) : runs s 18 0 = true := by kernel_rfl
theorem run_18_1 (s : Nat → Value) : runs s 18 1 = true := by kernel_rfl
theorem run_19_0 (s : Nat → Value) : runs s 19 0 = true := by kernel_rfl
theorem run_19_1 (s : Nat → Value) : runs s 19 1 = true := by kernel_rfl
end Go.Proofs.YtaphobloggdfnaaGreatDoor.Kw
