/-
  The law, by its cases.
-/
import Derived.Test.YtaphobloggdfnaaGreatDoorTmc1
import Derived.Test.YtaphobloggdfnaaGreatDoorTmc2
import Derived.Test.YtaphobloggdfnaaGreatDoorTmc3
import Derived.Test.YtaphobloggdfnaaGreatDoorTmc4
import Derived.Test.YtaphobloggdfnaaGreatDoorTmc5
namespace Go.Proofs.YtaphobloggdfnaaGreatDoor.toolMany
open Go Go.RowKit
theorem by_run {a0 a1 : Int} {m0 m1 : Int} (h0 : a0 % 20 = m0) (h1 : a1 % 2 = m1) (hr : Kw.runs (Kw.sN a0 a1) m0 m1 = true) (w : World) : Calls Tryz.prog 3 #[.int .i64 a0, .int .i64 a1] w fun e w' => e = .returned (.bool true) ∧ Below w.heap.size w w' :=
  CX.gives1_sym (Kw.xo_ok (Kw.orcs_ok h0 h1)) (Kw.sN_one a0 a1) hr rfl rfl w
theorem walk (a0 a1 : Int) (w : World) (_w0 : (Lit.int .i64 a0).wf = true) (_w1 : (Lit.int .i64 a1).wf = true) : Calls Tryz.prog 3 #[.int .i64 a0, .int .i64 a1] w fun e w' => e = .returned (.bool true) ∧ Below w.heap.size w w' := by
  have l0 := Int.emod_nonneg a0 (show (20 : Int) ≠ 0 by omega)
  have u0 := Int.emod_lt_of_pos a0 (show (0 : Int) < 20 by omega)
  have l1 := Int.emod_nonneg a1 (show (2 : Int) ≠ 0 by omega)
  have u1 := Int.emod_lt_of_pos a1 (show (0 : Int) < 2 by omega)
  have d0 : a0 % 20 = 0 ∨ a0 % 20 = 1 ∨ a0 % 20 = 2 ∨ a0 % 20 = 3 ∨ a0 % 20 = 4 ∨ a0 % 20 = 5 ∨ a0 % 20 = 6 ∨ a0 % 20 = 7 ∨ a0 % 20 = 8 ∨ a0 % 20 = 9 ∨ a0 % 20 = 10 ∨ a0 % 20 = 11 ∨ a0 % 20 = 12 ∨ a0 % 20 = 13 ∨ a0 % 20 = 14 ∨ a0 % 20 = 15 ∨ a0 % 20 = 16 ∨ a0 % 20 = 17 ∨ a0 % 20 = 18 ∨ a0 % 20 = 19 := by omega
  rcases d0 with h0 | h0 | h0 | h0 | h0 | h0 | h0 | h0 | h0 | h0 | h0 | h0 | h0 | h0 | h0 | h0 | h0 | h0 | h0 | h0
  ·
    have d1 : a1 % 2 = 0 ∨ a1 % 2 = 1 := by omega
    rcases d1 with h1 | h1
    · exact by_run h0 h1 (Kw.run_0_0 _) w
    · exact by_run h0 h1 (Kw.run_0_1 _) w
  ·
    have d1 : a1 % 2 = 0 ∨ a1 % 2 = 1 := by omega
    rcases d1 with h1 | h1
    · exact by_run h0 h1 (Kw.run_1_0 _) w
    · exact by_run h0 h1 (Kw.run_1_1 _) w
  ·
    have d1 : a1 % 2 = 0 ∨ a1 % 2 = 1 := by omega
    rcases d1 with h1 | h1
    · exact by_run h0 h1 (Kw.run_2_0 _) w
    · exact by_run h0 h1 (Kw.run_2_1 _) w
  ·
    have d1 : a1 % 2 = 0 ∨ a1 % 2 = 1 := by omega
    rcases d1 with h1 | h1
    · exact by_run h0 h1 (Kw.run_3_0 _) w
    · exact by_run h0 h1 (Kw.run_3_1 _) w
  ·
    have d1 : a1 % 2 = 0 ∨ a1 % 2 = 1 := by omega
    rcases d1 with h1 | h1
    · exact by_run h0 h1 (Kw.run_4_0 _) w
    · exact by_run h0 h1 (Kw.run_4_1 _) w
  ·
    have d1 : a1 % 2 = 0 ∨ a1 % 2 = 1 := by omega
    rcases d1 with h1 | h1
    · exact by_run h0 h1 (Kw.run_5_0 _) w
    · exact by_run h0 h1 (Kw.run_5_1 _) w
  ·
    have d1 : a1 % 2 = 0 ∨ a1 % 2 = 1 := by omega
    rcases d1 with h1 | h1
    · exact by_run h0 h1 (Kw.run_6_0 _) w
    · exact by_run h0 h1 (Kw.run_6_1 _) w
  ·
    have d1 : a1 % 2 = 0 ∨ a1 % 2 = 1 := by omega
    rcases d1 with h1 | h1
    · exact by_run h0 h1 (Kw.run_7_0 _) w
    · exact by_run h0 h1 (Kw.run_7_1 _) w
  ·
    have d1 : a1 % 2 = 0 ∨ a1 % 2 = 1 := by omega
    rcases d1 with h1 | h1
    · exact by_run h0 h1 (Kw.run_8_0 _) w
    · exact by_run h0 h1 (Kw.run_8_1 _) w
  ·
    have d1 : a1 % 2 = 0 ∨ a1 % 2 = 1 := by omega
    rcases d1 with h1 | h1
    · exact by_run h0 h1 (Kw.run_9_0 _) w
    · exact by_run h0 h1 (Kw.run_9_1 _) w
  ·
    have d1 : a1 % 2 = 0 ∨ a1 % 2 = 1 := by omega
    rcases d1 with h1 | h1
    · exact by_run h0 h1 (Kw.run_10_0 _) w
    · exact by_run h0 h1 (Kw.run_10_1 _) w
  ·
    have d1 : a1 % 2 = 0 ∨ a1 % 2 = 1 := by omega
    rcases d1 with h1 | h1
    · exact by_run h0 h1 (Kw.run_11_0 _) w
    · exact by_run h0 h1 (Kw.run_11_1 _) w
  ·
    have d1 : a1 % 2 = 0 ∨ a1 % 2 = 1 := by omega
    rcases d1 with h1 | h1
    · exact by_run h0 h1 (Kw.run_12_0 _) w
    · exact by_run h0 h1 (Kw.run_12_1 _) w
  ·
    have d1 : a1 % 2 = 0 ∨ a1 % 2 = 1 := by omega
    rcases d1 with h1 | h1
    · exact by_run h0 h1 (Kw.run_13_0 _) w
    · exact by_run h0 h1 (Kw.run_13_1 _) w
  ·
    have d1 : a1 % 2 = 0 ∨ a1 % 2 = 1 := by omega
    rcases d1 with h1 | h1
    · exact by_run h0 h1 (Kw.run_14_0 _) w
    · exact by_run h0 h1 (Kw.run_14_1 _) w
  ·
    have d1 : a1 % 2 = 0 ∨ a1 % 2 = 1 := by omega
    rcases d1 with h1 | h1
    · exact by_run h0 h1 (Kw.run_15_0 _) w
    · exact by_run h0 h1 (Kw.run_15_1 _) w
  ·
    have d1 : a1 % 2 = 0 ∨ a1 % 2 = 1 := by omega
    rcases d1 with h1 | h1
    · exact by_run h0 h1 (Kw.run_16_0 _) w
    · exact by_run h0 h1 (Kw.run_16_1 _) w
  ·
    have d1 : a1 % 2 = 0 ∨ a1 % 2 = 1 := by omega
    rcases d1 with h1 | h1
    · exact by_run h0 h1 (Kw.run_17_0 _) w
    · exact by_run h0 h1 (Kw.run_17_1 _) w
  ·
    have d1 : a1 % 2 = 0 ∨ a1 % 2 = 1 := by omega
    rcases d1 with h1 | h1
    · exact by_run h0 h1 (Kw.run_18_0 _) w
    · exact by_run h0 h1 (Kw.run_18_1 _) w
  ·
    have d1 : a1 % 2 = 0 ∨ a1 % 2 = 1 := by omega
    rcases d1 with h1 | h1
    · exact by_run h0 h1 (Kw.run_19_0 _) w
    · exact by_run h0 h1 (Kw.run_19_1 _) w
end Go.Proofs.YtaphobloggdfnaaGreatDoor.toolMany
