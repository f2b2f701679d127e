/-
  BatchAlike: the law, whole.
-/
import Derived.Test.YtjohbgkdhppglaaDoorAl
namespace Go.Proofs.YtjohbgkdhppglaaDoor
open Go.RowKit

theorem qnum_lt (i : Int) (d : Nat) (h1 : -20 ≤ i) (h2 : i ≤ 20) : CX.qnum i d < 4294967296 := by
  unfold CX.qnum
  exact Nat.lt_of_le_of_lt (Nat.div_le_self _ _) (by omega)
theorem qden_lt (i : Int) (d : Nat) (h : d ≤ 4) : CX.qden i d < 4294967296 := by
  unfold CX.qden
  have : Nat.div d (Nat.gcd i.natAbs d) < 4294967296 := Nat.lt_of_le_of_lt (Nat.div_le_self _ _) (by omega)
  cases Nat.beq (Nat.div d (Nat.gcd i.natAbs d)) 1 with
  | true => show 0 < 4294967296; omega
  | false => exact this
theorem walk (a b x y : Int) (s : Bool) (w : World) :
    Calls Tryd.prog 3 #[.int .i64 a, .int .i64 b, .int .i64 x, .int .i64 y, .bool s] w fun e w' => e = .returned (.bool true) ∧ Below w.heap.size w w' := by
  have HQy := fun W => q_any y W
  have HQx := fun W => q_any x W
  have l1 := qnum_lt (qI y) (qD y) (qI_le y).1 (qI_le y).2
  have l2 := qden_lt (qI y) (qD y) (qD_le y).2
  have l3 := qnum_lt (qI x) (qD x) (qI_le x).1 (qI_le x).2
  have l4 := qden_lt (qI x) (qD x) (qD_le x).2
  generalize CX.qneg (qI y) = yb at *
  generalize CX.qnum (qI y) (qD y) = yn at *
  generalize CX.qden (qI y) (qD y) = yd at *
  generalize CX.qneg (qI x) = xb at *
  generalize CX.qnum (qI x) (qD x) = xn at *
  generalize CX.qden (qI x) (qD x) = xd at *
  have hu : 0 ≤ x % 3 ∧ x % 3 < 3 := by omega
  have hc : 0 ≤ y % 3 ∧ y % 3 < 3 := by omega
  have A1 : ∀ W, _ := fun W => balike_any a b b a (x % 3) (x % 3) (y % 3) (y % 3) yb yb yn yd yn yd W l1 l1 l2 l2
  rw [decide_eq_true (rfl : x % 3 = x % 3), decide_eq_true (rfl : y % 3 = y % 3), cmpQ_self, decide_eq_true (rfl : (0 : Int) = 0)] at A1
  have A2t : ∀ W, _ := fun W => balike_any a b a b (x % 3) (x % 3 + 1) (y % 3) (y % 3) yb yb yn yd yn yd W l1 l1 l2 l2
  rw [decide_eq_false (show ¬ x % 3 = x % 3 + 1 by omega), Bool.false_and] at A2t
  have A2f : ∀ W, _ := fun W => balike_any a b a b (x % 3) (x % 3) (y % 3) (y % 3 + 1) yb yb yn yd yn yd W l1 l1 l2 l2
  rw [decide_eq_true (rfl : x % 3 = x % 3), decide_eq_false (show ¬ y % 3 = y % 3 + 1 by omega), Bool.false_and, Bool.and_false] at A2f
  have A3 : ∀ W, _ := fun W => balike_any a b a b (x % 3) (x % 3) (y % 3) (y % 3) yb xb yn yd xn xd W l1 l3 l2 l4
  rw [decide_eq_true (rfl : x % 3 = x % 3), decide_eq_true (rfl : y % 3 = y % 3)] at A3
  have A4 : ∀ W, _ := fun W => qcmp_any xb yb xn xd yn yd W l3 l1 l4 l2
  by_cases hz : cmpQ xb xn xd yb yn yd = 0
  · rw [decide_eq_true ((cmpQ_swap yb xb yn yd xn xd).2 hz)] at A3
    rw [hz] at A4
    cases s with
    | true => exact al_tz a b x y (x % 3) (y % 3) yb xb yn yd xn xd w hu.1 hu.2 hc.1 hc.2 rfl rfl HQy HQx A1 A2t A3 A4
    | false => exact al_fz a b x y (x % 3) (y % 3) yb xb yn yd xn xd w hu.1 hu.2 hc.1 hc.2 rfl rfl HQy HQx A1 A2f A3 A4
  · rw [decide_eq_false (fun h => hz ((cmpQ_swap yb xb yn yd xn xd).1 h))] at A3
    have hk : (cmpQ xb xn xd yb yn yd == 0) = false := by simpa using hz
    cases s with
    | true => exact al_tn a b x y (x % 3) (y % 3) yb xb yn yd xn xd _ hk w hu.1 hu.2 hc.1 hc.2 rfl rfl HQy HQx A1 A2t A3 A4
    | false => exact al_fn a b x y (x % 3) (y % 3) yb xb yn yd xn xd _ hk w hu.1 hu.2 hc.1 hc.2 rfl rfl HQy HQx A1 A2f A3 A4
end Go.Proofs.YtjohbgkdhppglaaDoor
