/-
  Models of the shelf: what the book's proof asks of them.
-/
import Derived.Test.YtnbopkflhjakdaaGreatDoorNh
import Derived.Test.YtnbopkflhjakdaaGreatDoorMd1
import Derived.Test.YtnbopkflhjakdaaGreatDoorMd2
import Derived.Test.YtnbopkflhjakdaaGreatDoorMd3
import Derived.Test.YtnbopkflhjakdaaGreatDoorMd4
import Derived.Test.YtnbopkflhjakdaaGreatDoorMd5
import Derived.Test.YtnbopkflhjakdaaGreatDoorMd6
import Derived.Test.YtnbopkflhjakdaaGreatDoorMd7
import Derived.Test.YtnbopkflhjakdaaGreatDoorMd8
import Derived.Test.YtnbopkflhjakdaaGreatDoorMd9
import Derived.Test.YtnbopkflhjakdaaGreatDoorMe1
import Derived.Test.YtnbopkflhjakdaaGreatDoorMe2
import Derived.Test.YtnbopkflhjakdaaGreatDoorMe3
import Derived.Test.YtnbopkflhjakdaaGreatDoorMe4
import Derived.Test.YtnbopkflhjakdaaGreatDoorMe5
namespace Go.Proofs.YtnbopkflhjakdaaGreatDoor.Mv
open Go Go.RowKit CX Md
theorem x0_ok : (xo noOrc).Ok := xo_ok (noOrc_ok _ _)
theorem mdl0 : Oc.Mdl 0 ms0 :=
  mdl_of (c := k10) (d := c0) (l := l0) (r := r0) (b := 2890) (cc := 116) (b2 := 3012) (lr := rv0) k10_xok x0_ok noSym_one rfl rfl rfl k10_run c0_run l0_run r0_run rfl rfl rfl (by decide) ⟨_, rfl, rfl⟩ (rows_of (by kernel_rfl)) rfl rfl rfl rfl rfl rfl rfl rfl rfl rfl (List.mem_cons_self) (names_of (by kernel_rfl)) (by decide) (by decide) rfl rfl rfl rfl (by kernel_rfl) rfl rfl (isB_of (by decide)) (by decide) (by decide)
theorem mdl1 : Oc.Mdl 1 ms1 :=
  mdl_of (c := k17) (d := c1) (l := l1) (r := r1) (b := 10418) (cc := 180) (b2 := 10747) (lr := rv1) k17_xok x0_ok noSym_one rfl rfl rfl k17_run c1_run l1_run r1_run rfl rfl rfl (by decide) ⟨_, rfl, rfl⟩ (rows_of (by kernel_rfl)) rfl rfl rfl rfl rfl rfl rfl rfl rfl rfl (List.mem_cons_self) (names_of (by kernel_rfl)) (by decide) (by decide) rfl rfl rfl rfl (by kernel_rfl) rfl rfl (isB_of (by decide)) (by decide) (by decide)
theorem mdl2 : Oc.Mdl 2 ms2 :=
  mdl_of (c := k25) (d := c2) (l := l2) (r := r2) (b := 20586) (cc := 242) (b2 := 20966) (lr := rv2) k25_xok x0_ok noSym_one rfl rfl rfl k25_run c2_run l2_run r2_run rfl rfl rfl (by decide) ⟨_, rfl, rfl⟩ (rows_of (by kernel_rfl)) rfl rfl rfl rfl rfl rfl rfl rfl rfl rfl (List.mem_cons_self) (names_of (by kernel_rfl)) (by decide) (by decide) rfl rfl rfl rfl (by kernel_rfl) rfl rfl (isB_of (by decide)) (by decide) (by decide)
theorem mdl3 : Oc.Mdl 3 ms3 :=
  mdl_of (c := k30) (d := c3) (l := l3) (r := r3) (b := 24810) (cc := 162) (b2 := 24956) (lr := rv3) k30_xok x0_ok noSym_one rfl rfl rfl k30_run c3_run l3_run r3_run rfl rfl rfl (by decide) ⟨_, rfl, rfl⟩ (rows_of (by kernel_rfl)) rfl rfl rfl rfl rfl rfl rfl rfl rfl rfl (List.mem_cons_self) (names_of (by kernel_rfl)) (by decide) (by decide) rfl rfl rfl rfl (by kernel_rfl) rfl rfl (isB_of (by decide)) (by decide) (by decide)
theorem mdl4 : Oc.Mdl 4 ms4 :=
  mdl_of (c := k33) (d := c4) (l := l4) (r := r4) (b := 27649) (cc := 162) (b2 := 27795) (lr := rv4) k33_xok x0_ok noSym_one rfl rfl rfl k33_run c4_run l4_run r4_run rfl rfl rfl (by decide) ⟨_, rfl, rfl⟩ (rows_of (by kernel_rfl)) rfl rfl rfl rfl rfl rfl rfl rfl rfl rfl (List.mem_cons_self) (names_of (by kernel_rfl)) (by decide) (by decide) rfl rfl rfl rfl (by kernel_rfl) rfl rfl (isB_of (by decide)) (by decide) (by decide)
theorem mdl5 : Oc.Mdl 5 ms5 :=
  mdl_of (c := k43) (d := c5) (l := l5) (r := r5) (b := 40314) (cc := 100) (b2 := 40425) (lr := rv5) k43_xok x0_ok noSym_one rfl rfl rfl k43_run c5_run l5_run r5_run rfl rfl rfl (by decide) ⟨_, rfl, rfl⟩ (rows_of (by kernel_rfl)) rfl rfl rfl rfl rfl rfl rfl rfl rfl rfl (List.mem_cons_self) (names_of (by kernel_rfl)) (by decide) (by decide) rfl rfl rfl rfl (by kernel_rfl) rfl rfl (isB_of (by decide)) (by decide) (by decide)
theorem mdl6 : Oc.Mdl 6 ms6 :=
  mdl_of (c := k49) (d := c6) (l := l6) (r := r6) (b := 45167) (cc := 94) (b2 := 45265) (lr := rv6) k49_xok x0_ok noSym_one rfl rfl rfl k49_run c6_run l6_run r6_run rfl rfl rfl (by decide) ⟨_, rfl, rfl⟩ (rows_of (by kernel_rfl)) rfl rfl rfl rfl rfl rfl rfl rfl rfl rfl (List.mem_cons_self) (names_of (by kernel_rfl)) (by decide) (by decide) rfl rfl rfl rfl (by kernel_rfl) rfl rfl (isB_of (by decide)) (by decide) (by decide)
theorem mdls : ∀ n : Int, 0 ≤ n → n < 7 → ∃ ms, Oc.Mdl n ms := by
  intro n h0 h1
  rcases (show n = 0 ∨ n = 1 ∨ n = 2 ∨ n = 3 ∨ n = 4 ∨ n = 5 ∨ n = 6 by omega) with rfl | rfl | rfl | rfl | rfl | rfl | rfl
  · exact ⟨_, mdl0⟩
  · exact ⟨_, mdl1⟩
  · exact ⟨_, mdl2⟩
  · exact ⟨_, mdl3⟩
  · exact ⟨_, mdl4⟩
  · exact ⟨_, mdl5⟩
  · exact ⟨_, mdl6⟩
end Go.Proofs.YtnbopkflhjakdaaGreatDoor.Mv
