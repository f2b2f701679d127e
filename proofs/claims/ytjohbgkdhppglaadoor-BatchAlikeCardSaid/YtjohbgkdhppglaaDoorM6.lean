/-
  The program's small fractions: Cmp; what is alike.
-/
import Derived.Test.YtjohbgkdhppglaaDoorM5
namespace Go.Proofs.YtjohbgkdhppglaaDoor
open Go.RowKit

def cmpQ (b : Bool) (n d : Nat) (c : Bool) (m e : Nat) : Int :=
  if d = 0 ∧ e = 0 then cmpI b n c m else if sgn b n = sgn c m then cmpI (b && decide (0 < n * dn e)) (n * dn e) (c && decide (0 < m * dn d)) (m * dn d) else cmpI b n c m
theorem beqI (a b : Int) : (a == b) = decide (a = b) := by
  by_cases h : a = b
  · subst h; simp
  · rw [decide_eq_false h]; simpa using h
theorem cmpN_zero (n m : Nat) : cmpN n m = 0 ↔ n = m := by
  unfold cmpN
  by_cases h1 : n < m
  · rw [if_pos h1]; constructor
    · intro h; cases h
    · intro h; omega
  · rw [if_neg h1]
    by_cases h2 : m < n
    · rw [if_pos h2]; constructor
      · intro h; cases h
      · intro h; omega
    · rw [if_neg h2]; constructor
      · intro _; omega
      · intro _; rfl
theorem cmpI_zero (b c : Bool) (n m : Nat) : cmpI b n c m = 0 ↔ b = c ∧ n = m := by
  unfold cmpI
  cases b <;> cases c <;> simp [cmpN_zero]
  exact eq_comm
theorem cmpQ_swap (b c : Bool) (n d m e : Nat) : cmpQ b n d c m e = 0 ↔ cmpQ c m e b n d = 0 := by
  unfold cmpQ
  by_cases h : d = 0 ∧ e = 0
  · rw [if_pos h, if_pos (show e = 0 ∧ d = 0 from ⟨h.2, h.1⟩), cmpI_zero, cmpI_zero]
    constructor <;> rintro ⟨h1, h2⟩ <;> exact ⟨h1.symm, h2.symm⟩
  · rw [if_neg h, if_neg (show ¬ (e = 0 ∧ d = 0) from fun k => h ⟨k.2, k.1⟩)]
    by_cases k : sgn b n = sgn c m
    · rw [if_pos k, if_pos k.symm, cmpI_zero, cmpI_zero]
      constructor <;> rintro ⟨h1, h2⟩ <;> exact ⟨h1.symm, h2.symm⟩
    · rw [if_neg k, if_neg (fun j => k j.symm), cmpI_zero, cmpI_zero]
      constructor <;> rintro ⟨h1, h2⟩ <;> exact ⟨h1.symm, h2.symm⟩
theorem cmpQ_self (b : Bool) (n d : Nat) : cmpQ b n d b n d = 0 := by
  unfold cmpQ
  by_cases h : d = 0 ∧ d = 0
  · rw [if_pos h, cmpI_zero]; exact ⟨rfl, rfl⟩
  · rw [if_neg h, if_pos rfl, cmpI_zero]; exact ⟨rfl, rfl⟩
theorem dn_lt {d : Nat} (h : d < 4294967296) : dn d < 4294967296 := by unfold dn; split <;> omega
theorem mul_lt64 {n m : Nat} (hn : n < 4294967296) (hm : m < 4294967296) : n * m < 18446744073709551616 :=
  Nat.lt_of_le_of_lt (Nat.mul_le_mul (Nat.le_of_lt_succ (show n < 4294967295 + 1 by omega)) (Nat.le_of_lt_succ (show m < 4294967295 + 1 by omega))) (by decide)
theorem qcmp_any (b c : Bool) (n d m e : Nat) (w : World) (hn : n < 4294967296) (hm : m < 4294967296) (hd : d < 4294967296) (he : e < 4294967296) :
    Calls Tryd.prog 8 #[.agg #[.bool b, .int .u64 (n : Int), .string ⟨#[]⟩, .int .u64 (d : Int), .string ⟨#[]⟩], .agg #[.bool c, .int .u64 (m : Int), .string ⟨#[]⟩, .int .u64 (e : Int), .string ⟨#[]⟩]] w fun r w' => r = .returned (.int .i64 (cmpQ b n d c m e)) ∧ Below w.heap.size w w' := by
  have p1 : dn e < 18446744073709551616 ∧ n * dn e < 18446744073709551616 := ⟨by have := dn_lt he; omega, mul_lt64 hn (dn_lt he)⟩
  have p2 : dn d < 18446744073709551616 ∧ m * dn d < 18446744073709551616 := ⟨by have := dn_lt hd; omega, mul_lt64 hm (dn_lt hd)⟩
  unfold cmpQ
  by_cases h0 : d = 0
  · by_cases h1 : e = 0
    · rw [if_pos ⟨h0, h1⟩]
      exact qcmp_A b c n d m e w (by omega) (by omega) (by omega) (by omega) h0 h1
    · rw [if_neg (fun k => h1 k.2)]
      by_cases hs : sgn b n = sgn c m
      · rw [if_pos hs]
        exact qcmp_D b c n d m e w (by omega) (by omega) (by omega) (by omega) h0 h1 hs p1 p2
      · rw [if_neg hs]
        exact qcmp_B b c n d m e w (by omega) (by omega) (by omega) (by omega) h0 h1 hs
  · rw [if_neg (fun k => h0 k.1)]
    by_cases hs : sgn b n = sgn c m
    · rw [if_pos hs]
      exact qcmp_E b c n d m e w (by omega) (by omega) (by omega) (by omega) h0 hs p1 p2
    · rw [if_neg hs]
      exact qcmp_C b c n d m e w (by omega) (by omega) (by omega) (by omega) h0 hs

set_option maxHeartbeats 2000000 in
set_option maxRecDepth 100000 in
theorem palike_any (x y : Int) (b c : Bool) (n d m e : Nat) (w : World) (hn : n < 4294967296) (hm : m < 4294967296) (hd : d < 4294967296) (he : e < 4294967296) :
    Calls Tryd.prog 13 #[.agg #[.int .i64 x, .bool b, .int .u64 (n : Int), .string ⟨#[]⟩, .int .u64 (d : Int), .string ⟨#[]⟩], .agg #[.int .i64 y, .bool c, .int .u64 (m : Int), .string ⟨#[]⟩, .int .u64 (e : Int), .string ⟨#[]⟩]] w fun r w' => r = .returned (.bool (decide (x = y) && decide (cmpQ b n d c m e = 0))) ∧ Below w.heap.size w w' := by
  by_cases hx : x = y
  · obtain ⟨k, HK⟩ : ∃ k, Hid (cmpQ b n d c m e = k) := ⟨_, rfl⟩
    rw [decide_eq_true hx, HK.out, Bool.true_and]
    subst hx
    have HC := fun W => qcmp_any b c n d m e W hn hm hd he
    rw [HK.out] at HC
    replace HC := Lib.hid HC
    clear hn hm hd he
    go_enter Tryd.func13, Tryd.ntmps13
    go_wp2_with (go_at_call 8; refine (HC.out _).mono ?_; rintro r w2 ⟨rfl, hb2⟩)
    go_ret
    refine ⟨by simp [go_sem]; exact beqI k 0, ?_⟩
    refine (((Below.refl w.heap.size w).alloc (Nat.le_refl _) _).alloc ?_ _).trans (hb2.mono ?_)
    · simp
    · simp <;> omega
  · have hk : (x == y) = false := by simpa using hx
    rw [decide_eq_false hx, Bool.false_and]
    clear hx hn hm hd he
    go_enter Tryd.func13, Tryd.ntmps13
    go_wp2
    go_ret
    exact ⟨rfl, ((Below.refl w.heap.size w).alloc (Nat.le_refl _) _).alloc (by simp) _⟩

set_option maxHeartbeats 2000000 in
set_option maxRecDepth 100000 in
theorem balike_any (t1 g1 t2 g2 u v x y : Int) (b c : Bool) (n d m e : Nat) (w : World) (hn : n < 4294967296) (hm : m < 4294967296) (hd : d < 4294967296) (he : e < 4294967296) :
    Calls Tryd.prog 7 #[.agg #[.int .i64 t1, .int .i64 g1, .int .i64 u, .int .i64 x, .bool b, .int .u64 (n : Int), .string ⟨#[]⟩, .int .u64 (d : Int), .string ⟨#[]⟩], .agg #[.int .i64 t2, .int .i64 g2, .int .i64 v, .int .i64 y, .bool c, .int .u64 (m : Int), .string ⟨#[]⟩, .int .u64 (e : Int), .string ⟨#[]⟩]] w fun r w' => r = .returned (.bool (decide (u = v) && (decide (x = y) && decide (cmpQ b n d c m e = 0)))) ∧ Below w.heap.size w w' := by
  by_cases hx : u = v
  · obtain ⟨k, HK⟩ : ∃ k, Hid ((decide (x = y) && decide (cmpQ b n d c m e = 0)) = k) := ⟨_, rfl⟩
    rw [decide_eq_true hx, HK.out, Bool.true_and]
    subst hx
    have HC := fun W => palike_any x y b c n d m e W hn hm hd he
    rw [HK.out] at HC
    replace HC := Lib.hid HC
    clear hn hm hd he
    go_enter Tryd.func7, Tryd.ntmps7
    go_wp2_with (go_at_call 13; refine (HC.out _).mono ?_; rintro r w2 ⟨rfl, hb2⟩)
    go_ret
    refine ⟨by simp, ?_⟩
    refine (((Below.refl w.heap.size w).alloc (Nat.le_refl _) _).alloc ?_ _).trans (hb2.mono ?_)
    · simp
    · simp <;> omega
  · have hk : (u == v) = false := by simpa using hx
    rw [decide_eq_false hx, Bool.false_and]
    clear hx hn hm hd he
    go_enter Tryd.func7, Tryd.ntmps7
    go_wp2
    go_ret
    exact ⟨rfl, ((Below.refl w.heap.size w).alloc (Nat.le_refl _) _).alloc (by simp) _⟩
end Go.Proofs.YtjohbgkdhppglaaDoor
