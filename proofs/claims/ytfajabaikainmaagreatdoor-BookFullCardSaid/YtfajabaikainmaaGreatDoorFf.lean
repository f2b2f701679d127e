/-
  The law, by its cases.
-/
import Derived.Test.YtfajabaikainmaaGreatDoorFfc1
import Derived.Test.YtfajabaikainmaaGreatDoorFfc2
import Derived.Test.YtfajabaikainmaaGreatDoorFfc3
import Derived.Test.YtfajabaikainmaaGreatDoorFfc4
import Derived.Test.YtfajabaikainmaaGreatDoorFfc5
import Derived.Test.YtfajabaikainmaaGreatDoorFfc6
namespace Go.Proofs.YtfajabaikainmaaGreatDoor.Kf
open Go Go.RowKit CX
theorem by_run {a0 m0 : Int} (h0 : a0 % 39 = m0) (hr : runs (sN a0) m0 = true) (w : World) : Calls Tryz.prog 3 #[.int .i64 a0, .bool false] w fun e w' => e = .returned (.bool true) ∧ Below w.heap.size w w' :=
  gives1_sym (xo_ok (orcs_ok (s := sN a0) rfl h0)) (sN_one a0) hr rfl rfl w
theorem walk (a0 : Int) (w : World) : Calls Tryz.prog 3 #[.int .i64 a0, .bool false] w fun e w' => e = .returned (.bool true) ∧ Below w.heap.size w w' := by
  have l0 := Int.emod_nonneg a0 (show (39 : Int) ≠ 0 by omega)
  have u0 := Int.emod_lt_of_pos a0 (show (0 : Int) < 39 by omega)
  have d0 : a0 % 39 = 0 ∨ a0 % 39 = 1 ∨ a0 % 39 = 2 ∨ a0 % 39 = 3 ∨ a0 % 39 = 4 ∨ a0 % 39 = 5 ∨ a0 % 39 = 6 ∨ a0 % 39 = 7 ∨ a0 % 39 = 8 ∨ a0 % 39 = 9 ∨ a0 % 39 = 10 ∨ a0 % 39 = 11 ∨ a0 % 39 = 12 ∨ a0 % 39 = 13 ∨ a0 % 39 = 14 ∨ a0 % 39 = 15 ∨ a0 % 39 = 16 ∨ a0 % 39 = 17 ∨ a0 % 39 = 18 ∨ a0 % 39 = 19 ∨ a0 % 39 = 20 ∨ a0 % 39 = 21 ∨ a0 % 39 = 22 ∨ a0 % 39 = 23 ∨ a0 % 39 = 24 ∨ a0 % 39 = 25 ∨ a0 % 39 = 26 ∨ a0 % 39 = 27 ∨ a0 % 39 = 28 ∨ a0 % 39 = 29 ∨ a0 % 39 = 30 ∨ a0 % 39 = 31 ∨ a0 % 39 = 32 ∨ a0 % 39 = 33 ∨ a0 % 39 = 34 ∨ a0 % 39 = 35 ∨ a0 % 39 = 36 ∨ a0 % 39 = 37 ∨ a0 % 39 = 38 := by omega
  rcases d0 with h0 | h0 | h0 | h0 | h0 | h0 | h0 | h0 | h0 | h0 | h0 | h0 | h0 | h0 | h0 | h0 | h0 | h0 | h0 | h0 | h0 | h0 | h0 | h0 | h0 | h0 | h0 | h0 | h0 | h0 | h0 | h0 | h0 | h0 | h0 | h0 | h0 | h0 | h0
  · exact by_run h0 (run_0 _) w
  · exact by_run h0 (run_1 _) w
  · exact by_run h0 (run_2 _) w
  · exact by_run h0 (run_3 _) w
  · exact by_run h0 (run_4 _) w
  · exact by_run h0 (run_5 _) w
  · exact by_run h0 (run_6 _) w
  · exact by_run h0 (run_7 _) w
  · exact by_run h0 (run_8 _) w
  · exact by_run h0 (run_9 _) w
  · exact by_run h0 (run_10 _) w
  · exact by_run h0 (run_11 _) w
  · exact by_run h0 (run_12 _) w
  · exact by_run h0 (run_13 _) w
  · exact by_run h0 (run_14 _) w
  · exact by_run h0 (run_15 _) w
  · exact by_run h0 (run_16 _) w
  · exact by_run h0 (run_17 _) w
  · exact by_run h0 (run_18 _) w
  · exact by_run h0 (run_19 _) w
  · exact by_run h0 (run_20 _) w
  · exact by_run h0 (run_21 _) w
  · exact by_run h0 (run_22 _) w
  · exact by_run h0 (run_23 _) w
  · exact by_run h0 (run_24 _) w
  · exact by_run h0 (run_25 _) w
  · exact by_run h0 (run_26 _) w
  · exact by_run h0 (run_27 _) w
  · exact by_run h0 (run_28 _) w
  · exact by_run h0 (run_29 _) w
  · exact by_run h0 (run_30 _) w
  · exact by_run h0 (run_31 _) w
  · exact by_run h0 (run_32 _) w
  · exact by_run h0 (run_33 _) w
  · exact by_run h0 (run_34 _) w
  · exact by_run h0 (run_35 _) w
  · exact by_run h0 (run_36 _) w
  · exact by_run h0 (run_37 _) w
  · exact by_run h0 (run_38 _) w
end Go.Proofs.YtfajabaikainmaaGreatDoor.Kf
