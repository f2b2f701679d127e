/-
  Pick: its contract.
-/
import Derived.Test.YtelehhfnomdneaaGreatDoorProg
import Derived.WalkKit
import Derived.WalkSpells
import Derived.WalkLawsBesides
import Derived.Lib.Hide
import Derived.Below
import Derived.IntWalk
namespace Go.Proofs.YtelehhfnomdneaaGreatDoor
open Go.RowKit
theorem ret_int {k : IntKind} {a b : Int} (h : a = b) : Ending.returned (.int k a) = .returned (.int k b) := by rw [h]
theorem tmod_fix (n m : Int) (h0 : 0 < m) : (if n.tmod m < 0 then n.tmod m + m else n.tmod m) = n % m := by
  have h1 := Int.emod_nonneg n (by omega : m ≠ 0)
  have h2 := Int.emod_lt_of_pos n h0
  by_cases hn : 0 ≤ n
  · rw [Int.tmod_eq_emod_of_nonneg hn, if_neg (by omega)]
  · have e := Int.tmod_eq_emod (a := n) (b := m)
    by_cases hd : m ∣ n
    · rw [if_pos (.inr hd)] at e
      rw [e, if_neg (by omega)]; omega
    · rw [if_neg (by rintro (h | h) <;> contradiction)] at e
      have : (m.natAbs : Int) = m := by omega
      rw [e, if_pos (by omega)]; omega

set_option maxHeartbeats 400000 in
theorem pick_any (n m : Int) (w : World) (h0 : 0 < m) (h1 : m ≤ 4294967296) :
    Calls Tryz.prog 5 #[.int .i64 n, .int .i64 m] w fun e w' => e = .returned (.int .i64 (n % m)) ∧ w = w' := by
  have hm0 : (m == 0) = false := by simp; omega
  have hf := Lib.hid (tmod_fix n m h0)
  have hb : -m < n.tmod m ∧ n.tmod m < m := by
    have := Int.tmod_lt_of_pos n h0
    have h3 := Int.lt_tmod_of_pos n h0
    omega
  obtain ⟨hb1, hb2⟩ := hb
  go_enter Tryz.func5, Tryz.ntmps5
  go_wp2
  · go_ret
    refine ⟨ret_int ?_, rfl⟩
    rw [← hf.out, if_pos (by assumption)]
    done
  · go_ret
    refine ⟨ret_int ?_, rfl⟩
    rw [← hf.out, if_neg (by omega)]
end Go.Proofs.YtelehhfnomdneaaGreatDoor
