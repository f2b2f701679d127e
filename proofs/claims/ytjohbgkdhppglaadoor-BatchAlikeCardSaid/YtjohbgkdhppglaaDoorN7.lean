/-
  The program's small numbers: Sign, Abs, Neg, Of, Cmp, Small, Div, Mul of nat and whole; isWhole, Den of frac.
-/
import Derived.Test.YtjohbgkdhppglaaDoorN6
namespace Go.Proofs.YtjohbgkdhppglaaDoor
open Go.RowKit

def sgn (b : Bool) (n : Nat) : Int := if b then -1 else if n = 0 then 0 else 1
set_option maxHeartbeats 400000 in
set_option maxRecDepth 100000 in
theorem sign_any (b : Bool) (n : Nat) (w : World) (hn : n < 18446744073709551616) :
    Calls Tryd.prog 26 #[.agg #[.bool b, .int .u64 (n : Int), .string ⟨#[]⟩]] w fun e w' => e = .returned (.int .i64 (sgn b n)) ∧ Below w.heap.size w w' := by
  cases b
  · by_cases h0 : n = 0
    · have HS : Hid (sgn false n = 0) := by show (if n = 0 then (0 : Int) else 1) = 0; rw [if_pos h0]
      have HB : Hid (bl n = 0) := by rw [h0]; rfl
      clear h0
      go_enter Tryd.func26, Tryd.ntmps26
      go_wp2_with (go_at_call 25; refine (bits_any n _ hn).mono ?_; rintro e w2 ⟨rfl, rfl⟩; rw [HB.out])
      go_ret
      exact ⟨by rw [HS.out]; rfl, ((Below.refl _ _).alloc (Nat.le_refl _) _).alloc (by simp) _⟩
    · have HS : Hid (sgn false n = 1) := by show (if n = 0 then (0 : Int) else 1) = 1; rw [if_neg h0]
      obtain ⟨k, HB⟩ : ∃ k, Hid (bl n = k) := ⟨_, rfl⟩
      have hk : 0 < k := by rw [← HB.out]; exact bl_pos (by omega)
      clear h0
      go_enter Tryd.func26, Tryd.ntmps26
      go_wp2_with (go_at_call 25; refine (bits_any n _ hn).mono ?_; rintro e w2 ⟨rfl, rfl⟩; rw [HB.out])
      go_ret
      exact ⟨by rw [HS.out]; rfl, ((Below.refl _ _).alloc (Nat.le_refl _) _).alloc (by simp) _⟩
  · have HS : Hid (sgn true n = -1) := rfl
    go_enter Tryd.func26, Tryd.ntmps26
    go_wp2
    go_ret
    exact ⟨by rw [HS.out]; rfl, (Below.refl _ _).alloc (Nat.le_refl _) _⟩

set_option maxHeartbeats 400000 in
set_option maxRecDepth 100000 in
theorem abs_any (b : Bool) (n : Nat) (w : World) :
    Calls Tryd.prog 32 #[.agg #[.bool b, .int .u64 (n : Int), .string ⟨#[]⟩]] w fun e w' => e = .returned (.agg #[.int .u64 (n : Int), .string ⟨#[]⟩]) ∧ Below w.heap.size w w' := by
  go_enter Tryd.func32, Tryd.ntmps32
  go_wp2
  exact bodyPost_ret (v := .agg #[.int .u64 (n : Int), .string ⟨#[]⟩]) (by simp [results, Tryd.results32, go_sem]) rfl ⟨rfl, ((Below.refl _ _).alloc (Nat.le_refl _) _).alloc (by simp) _⟩

set_option maxHeartbeats 400000 in
set_option maxRecDepth 100000 in
theorem of_any (n : Nat) (w : World) :
    Calls Tryd.prog 29 #[.int .u64 (n : Int)] w fun e w' => e = .returned (.agg #[.int .u64 (n : Int), .string ⟨#[]⟩]) ∧ Below w.heap.size w w' := by
  go_enter Tryd.func29, Tryd.ntmps29
  go_wp2
  exact bodyPost_ret (v := .agg #[.int .u64 (n : Int), .string ⟨#[]⟩]) (by simp [results, Tryd.results29, go_sem]) rfl ⟨rfl, (Below.refl _ _).alloc (Nat.le_refl _) _⟩

set_option maxHeartbeats 400000 in
set_option maxRecDepth 100000 in
theorem small_any (n : Nat) (w : World) :
    Calls Tryd.prog 55 #[.agg #[.int .u64 (n : Int), .string ⟨#[]⟩]] w fun e w' => e = .returned (.tuple #[.int .u64 (n : Int), .bool true]) ∧ w' = w.alloc (.cells #[.int .u64 (n : Int), .string ⟨#[]⟩] 26) := by
  go_enter Tryd.func55, Tryd.ntmps55
  go_wp2
  go_ret2
  exact ⟨rfl, rfl⟩

set_option maxHeartbeats 400000 in
set_option maxRecDepth 100000 in
theorem cmpWord_any (n m : Nat) (w : World) :
    Calls Tryd.prog 39 #[.int .u64 (n : Int), .int .u64 (m : Int)] w fun e w' => e = .returned (.int .i64 (cmpN n m)) ∧ w = w' := by
  by_cases h1 : n < m
  · have HC : Hid (cmpN n m = -1) := by unfold cmpN; rw [if_pos h1]; rfl
    go_enter Tryd.func39, Tryd.ntmps39
    go_wp2
    go_ret
    exact ⟨by rw [HC.out]; rfl, rfl⟩
  · by_cases h2 : m < n
    · have HC : Hid (cmpN n m = 1) := by unfold cmpN; rw [if_neg h1, if_pos h2]; rfl
      go_enter Tryd.func39, Tryd.ntmps39
      go_wp2
      go_ret
      exact ⟨by rw [HC.out]; rfl, rfl⟩
    · have HC : Hid (cmpN n m = 0) := by unfold cmpN; rw [if_neg h1, if_neg h2]; rfl
      go_enter Tryd.func39, Tryd.ntmps39
      go_wp2
      go_ret
      exact ⟨by rw [HC.out]; rfl, rfl⟩

set_option maxHeartbeats 400000 in
set_option maxRecDepth 100000 in
theorem ncmp_any (n m : Nat) (w : World) :
    Calls Tryd.prog 27 #[.agg #[.int .u64 (n : Int), .string ⟨#[]⟩], .agg #[.int .u64 (m : Int), .string ⟨#[]⟩]] w fun e w' => e = .returned (.int .i64 (cmpN n m)) ∧ w' = (w.alloc (.cells #[.int .u64 (n : Int), .string ⟨#[]⟩] 26)).alloc (.cells #[.int .u64 (m : Int), .string ⟨#[]⟩] 26) := by
  obtain ⟨k, HK⟩ : ∃ k, Hid (cmpN n m = k) := ⟨_, rfl⟩
  rw [HK.out]
  go_enter Tryd.func27, Tryd.ntmps27
  go_wp2
  refine wp_loop_rounds 1 ?_
  rw [rounds_succ]
  go_wp2_with (go_at_call 39; refine (cmpWord_any n m _).mono ?_; rintro e w2 ⟨rfl, rfl⟩; rw [HK.out])
  go_ret
  exact ⟨rfl, rfl⟩

set_option maxHeartbeats 1000000 in
set_option maxRecDepth 100000 in
theorem ndiv_any (n m : Nat) (w : World) (hm : 0 < m) (hn1 : n < 18446744073709551616) (hm1 : m < 18446744073709551616) :
    Calls Tryd.prog 54 #[.agg #[.int .u64 (n : Int), .string ⟨#[]⟩], .agg #[.int .u64 (m : Int), .string ⟨#[]⟩]] w fun e w' => e = .returned (.tuple #[.agg #[.int .u64 ((n / m : Nat) : Int), .string ⟨#[]⟩], .agg #[.int .u64 ((n % m : Nat) : Int), .string ⟨#[]⟩], .bool true]) ∧ w' = (((((w.alloc (.cells #[.int .u64 (n : Int), .string ⟨#[]⟩] 26)).alloc (.cells #[.int .u64 (m : Int), .string ⟨#[]⟩] 26)).alloc (.cells #[.int .u64 ((n / m : Nat) : Int), .string ⟨#[]⟩] 26)).alloc (.cells #[.int .u64 ((n % m : Nat) : Int), .string ⟨#[]⟩] 26)).alloc (.cells #[.int .u64 (m : Int), .string ⟨#[]⟩] 26)).drew := by
  obtain ⟨k, HB⟩ : ∃ k, Hid (bl m = k) := ⟨_, rfl⟩
  have hk : 0 < k := by rw [← HB.out]; exact bl_pos hm
  have hkb : ((k : Int) == 0) = false := by simp; omega
  have hmz : ((m : Int) == 0) = false := by simp; omega
  have HDV : Hid ((n : Int) / (m : Int) = ((n / m : Nat) : Int)) := by simp [Hid]
  have HMV : Hid ((n : Int) % (m : Int) = ((n % m : Nat) : Int)) := by simp [Hid]
  have hwd : IntKind.u64.wrap ((n : Int) / (m : Int)) = (n : Int) / (m : Int) := by rw [IntKind.wrap_u64, HDV.out]; exact Int.emod_eq_of_lt (Int.natCast_nonneg _) (Int.ofNat_lt.2 (Nat.lt_of_le_of_lt (Nat.div_le_self n m) hn1))
  rw [← HDV.out, ← HMV.out]
  go_enter Tryd.func54, Tryd.ntmps54
  go_wp2_with (go_at_call 25; refine (bits_any m _ hm1).mono ?_; rintro e w2 ⟨rfl, rfl⟩; rw [HB.out])
  go_region
  go_wp2
  refine bodyPost_ret (v := .tuple #[.agg #[.int .u64 ((n : Int) / (m : Int)), .string ⟨#[]⟩], .agg #[.int .u64 ((n : Int) % (m : Int)), .string ⟨#[]⟩], .bool true]) (by simp [results, Tryd.results54, go_sem]) rfl ⟨rfl, ?_⟩
  rfl

end Go.Proofs.YtjohbgkdhppglaaDoor
