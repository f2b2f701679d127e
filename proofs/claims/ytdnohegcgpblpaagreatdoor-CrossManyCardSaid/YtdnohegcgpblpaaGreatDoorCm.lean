/-
  The law, by its cases.
-/
import Derived.Test.YtdnohegcgpblpaaGreatDoorCmc1
import Derived.Test.YtdnohegcgpblpaaGreatDoorCmc2
import Derived.Test.YtdnohegcgpblpaaGreatDoorCmc3
import Derived.Test.YtdnohegcgpblpaaGreatDoorCmc4
import Derived.Test.YtdnohegcgpblpaaGreatDoorCmc5
import Derived.Test.YtdnohegcgpblpaaGreatDoorCmc6
import Derived.Test.YtdnohegcgpblpaaGreatDoorCmc7
import Derived.Test.YtdnohegcgpblpaaGreatDoorCmc8
namespace Go.Proofs.YtdnohegcgpblpaaGreatDoor.crossMany
open Go Go.RowKit
theorem by_run {a0 : Int} {m0 : Int} (h0 : a0 % 24 = m0) (hr : Kw.runs (Kw.sN a0) m0 = true) (w : World) : Calls Tryz.prog 3 #[.int .i64 a0] w fun e w' => e = .returned (.bool true) ∧ Below w.heap.size w w' :=
  CX.gives1_sym (Kw.xo_ok (Kw.orcs_ok h0)) (Kw.sN_one a0) hr rfl rfl w
theorem walk (a0 : Int) (w : World) (_w0 : (Lit.int .i64 a0).wf = true) : Calls Tryz.prog 3 #[.int .i64 a0] w fun e w' => e = .returned (.bool true) ∧ Below w.heap.size w w' := by
  have l0 := Int.emod_nonneg a0 (show (24 : Int) ≠ 0 by omega)
  have u0 := Int.emod_lt_of_pos a0 (show (0 : Int) < 24 by omega)
  have d0 : a0 % 24 = 0 ∨ a0 % 24 = 1 ∨ a0 % 24 = 2 ∨ a0 % 24 = 3 ∨ a0 % 24 = 4 ∨ a0 % 24 = 5 ∨ a0 % 24 = 6 ∨ a0 % 24 = 7 ∨ a0 % 24 = 8 ∨ a0 % 24 = 9 ∨ a0 % 24 = 10 ∨ a0 % 24 = 11 ∨ a0 % 24 = 12 ∨ a0 % 24 = 13 ∨ a0 % 24 = 14 ∨ a0 % 24 = 15 ∨ a0 % 24 = 16 ∨ a0 % 24 = 17 ∨ a0 % 24 = 18 ∨ a0 % 24 = 19 ∨ a0 % 24 = 20 ∨ a0 % 24 = 21 ∨ a0 % 24 = 22 ∨ a0 % 24 = 23 := by omega
  rcases d0 with h0 | h0 | h0 | h0 | h0 | h0 | h0 | h0 | h0 | h0 | h0 | h0 | h0 | h0 | h0 | h0 | h0 | h0 | h0 | h0 | h0 | h0 | h0 | h0
  · exact by_run h0 (Kw.run_0 _) w
  · exact by_run h0 (Kw.run_1 _) w
  · exact by_run h0 (Kw.run_2 _) w
  · exact by_run h0 (Kw.run_3 _) w
  · exact by_run h0 (Kw.run_4 _) w
  · exact by_run h0 (Kw.run_5 _) w
  · exact by_run h0 (Kw.run_6 _) w
  · exact by_run h0 (Kw.run_7 _) w
  · exact by_run h0 (Kw.run_8 _) w
  · exact by_run h0 (Kw.run_9 _) w
  · exact by_run h0 (Kw.run_10 _) w
  · exact by_run h0 (Kw.run_11 _) w
  · exact by_run h0 (Kw.run_12 _) w
  · exact by_run h0 (Kw.run_13 _) w
  · exact by_run h0 (Kw.run_14 _) w
  · exact by_run h0 (Kw.run_15 _) w
  · exact by_run h0 (Kw.run_16 _) w
  · exact by_run h0 (Kw.run_17 _) w
  · exact by_run h0 (Kw.run_18 _) w
  · exact by_run h0 (Kw.run_19 _) w
  · exact by_run h0 (Kw.run_20 _) w
  · exact by_run h0 (Kw.run_21 _) w
  · exact by_run h0 (Kw.run_22 _) w
  · exact by_run h0 (Kw.run_23 _) w
end Go.Proofs.YtdnohegcgpblpaaGreatDoor.crossMany
