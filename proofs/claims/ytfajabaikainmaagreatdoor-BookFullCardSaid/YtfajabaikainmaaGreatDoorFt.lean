/-
  The law, by its cases.
-/
import Derived.Test.YtfajabaikainmaaGreatDoorFtc1
import Derived.Test.YtfajabaikainmaaGreatDoorFtc2
import Derived.Test.YtfajabaikainmaaGreatDoorFtc3
import Derived.Test.YtfajabaikainmaaGreatDoorFtc4
namespace Go.Proofs.YtfajabaikainmaaGreatDoor.Kt
open Go Go.RowKit CX
theorem by_run {a0 m0 : Int} (h0 : a0 % 19 = m0) (hr : runs (sN a0) m0 = true) (w : World) : Calls Tryz.prog 3 #[.int .i64 a0, .bool true] w fun e w' => e = .returned (.bool true) ∧ Below w.heap.size w w' :=
  gives1_sym (xo_ok (orcs_ok (s := sN a0) rfl h0)) (sN_one a0) hr rfl rfl w
theorem walk (a0 : Int) (w : World) : Calls Tryz.prog 3 #[.int .i64 a0, .bool true] w fun e w' => e = .returned (.bool true) ∧ Below w.heap.size w w' := by
  have l0 := Int.emod_nonneg a0 (show (19 : Int) ≠ 0 by omega)
  have u0 := Int.emod_lt_of_pos a0 (show (0 : Int) < 19 by omega)
  have d0 : a0 % 19 = 0 ∨ a0 % 19 = 1 ∨ a0 % 19 = 2 ∨ a0 % 19 = 3 ∨ a0 % 19 = 4 ∨ a0 % 19 = 5 ∨ a0 % 19 = 6 ∨ a0 % 19 = 7 ∨ a0 % 19 = 8 ∨ a0 % 19 = 9 ∨ a0 % 19 = 10 ∨ a0 % 19 = 11 ∨ a0 % 19 = 12 ∨ a0 % 19 = 13 ∨ a0 % 19 = 14 ∨ a0 % 19 = 15 ∨ a0 % 19 = 16 ∨ a0 % 19 = 17 ∨ a0 % 19 = 18 := by omega
  rcases d0 with h0 | h0 | h0 | h0 | h0 | h0 | h0 | h0 | h0 | h0 | h0 | h0 | h0 | h0 | h0 | h0 | h0 | h0 | h0
  · exact by_run h0 (run_0 _) w
  · exact by_run h0 (run_1 _) w
  · exact by_run h0 (run_2 _) w
  · exact by_run h0 (run_3 _) w
  · exact by_run h0 (run_4 _) w
  · exact by_run h0 (run_5 _) w
  · exact by_run h0 (run_6 _) w
  · exact by_run h0 (run_7 _) w
  · exact by_run h0 (run_8 _) w
  · exact by_run h0 (run_9 _) w
  · exact by_run h0 (run_10 _) w
  · exact by_run h0 (run_11 _) w
  · exact by_run h0 (run_12 _) w
  · exact by_run h0 (run_13 _) w
  · exact by_run h0 (run_14 _) w
  · exact by_run h0 (run_15 _) w
  · exact by_run h0 (run_16 _) w
  · exact by_run h0 (run_17 _) w
  · exact by_run h0 (run_18 _) w
end Go.Proofs.YtfajabaikainmaaGreatDoor.Kt
