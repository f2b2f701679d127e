/-
  The program's small fractions: over, pack, Gcd.
-/
import Derived.Test.YtjohbgkdhppglaaDoorN7
namespace Go.Proofs.YtjohbgkdhppglaaDoor
open Go.RowKit

theorem bl_one {n : Nat} (h : bl n = 1) : n = 1 := by
  by_cases h0 : n = 0
  · subst h0; simp [bl] at h
  · rw [bl_half (by omega)] at h
    by_cases h1 : n / 2 = 0
    · omega
    · have := bl_pos (n := n / 2) (by omega)
      omega
set_option maxHeartbeats 1000000 in
set_option maxRecDepth 100000 in
theorem over_div (n m : Nat) (w : World) (hm : 0 < m) (hn1 : n < 18446744073709551616) (hm1 : m < 18446744073709551616) :
    Calls Tryd.prog 44 #[.agg #[.int .u64 (n : Int), .string ⟨#[]⟩], .agg #[.int .u64 (m : Int), .string ⟨#[]⟩]] w fun e w' => e = .returned (.agg #[.int .u64 ((n / m : Nat) : Int), .string ⟨#[]⟩]) ∧ Below w.heap.size w w' := by
  by_cases h1 : m = 1
  · have HB : Hid (bl m = 1) := by rw [h1]; rfl
    have HD : Hid (n / m = n) := by rw [h1]; exact Nat.div_one n
    rw [HD.out]
    clear h1
    go_enter Tryd.func44, Tryd.ntmps44
    go_wp2_with (go_at_call 25; refine (bits_any m _ hm1).mono ?_; rintro e w2 ⟨rfl, rfl⟩; rw [HB.out])
    refine bodyPost_ret (v := .agg #[.int .u64 (n : Int), .string ⟨#[]⟩]) (by simp [results, Tryd.results44, go_sem]) rfl ⟨rfl, ?_⟩
    exact ((((Below.refl _ _).alloc (Nat.le_refl _) _).alloc (by simp) _).alloc (by simp; omega) _).alloc (by simp; omega) _
  · obtain ⟨k, HB⟩ : ∃ k, Hid (bl m = k) := ⟨_, rfl⟩
    have hk : ((k : Int) == 1) = false := by
      have : k ≠ 1 := fun h => h1 (bl_one (HB.out.trans h))
      simp; omega
    obtain ⟨d, HD⟩ : ∃ d, Hid (n / m = d) := ⟨_, rfl⟩
    obtain ⟨r, HR⟩ : ∃ r, Hid (n % m = r) := ⟨_, rfl⟩
    have HDV := fun W => ndiv_any n m W hm hn1 hm1
    rw [HD.out, HR.out] at HDV
    replace HDV := Lib.hid HDV
    rw [HD.out]
    clear h1
    go_enter Tryd.func44, Tryd.ntmps44
    go_wp2_with (first
      | (go_at_call 25; refine (bits_any m _ hm1).mono ?_; rintro e w2 ⟨rfl, rfl⟩; rw [HB.out])
      | (go_at_call 54; refine (HDV.out _).mono ?_; rintro e w3 ⟨rfl, rfl⟩))
    refine bodyPost_ret (v := .agg #[.int .u64 (d : Int), .string ⟨#[]⟩]) (by simp [results, Tryd.results44, go_sem]) rfl ⟨rfl, ?_⟩
    exact ((((((((((((Below.refl _ _).alloc (Nat.le_refl _) _).alloc (by simp) _).alloc (by simp; omega) _).alloc (by simp; omega) _).alloc (by simp; omega) _).alloc (by simp; omega) _).alloc (by simp; omega) _).alloc (by simp; omega) _).alloc (by simp; omega) _).alloc (by simp; omega) _).alloc (by simp; omega) _).drew

def denOf (d : Nat) : Nat := if d = 1 then 0 else d
set_option maxHeartbeats 1000000 in
set_option maxRecDepth 100000 in
theorem pack_any (b : Bool) (n d : Nat) (w : World) (hd : d < 18446744073709551616) :
    Calls Tryd.prog 42 #[.agg #[.bool b, .int .u64 (n : Int), .string ⟨#[]⟩], .agg #[.int .u64 (d : Int), .string ⟨#[]⟩]] w fun e w' => e = .returned (.agg #[.bool b, .int .u64 (n : Int), .string ⟨#[]⟩, .int .u64 (denOf d : Int), .string ⟨#[]⟩]) ∧ Below w.heap.size w w' := by
  by_cases h1 : d = 1
  · have HB : Hid (bl d = 1) := by rw [h1]; rfl
    have HD : Hid (denOf d = 0) := by rw [h1]; rfl
    rw [HD.out]
    clear h1
    go_enter Tryd.func42, Tryd.ntmps42
    go_wp2_with (go_at_call 25; refine (bits_any d _ hd).mono ?_; rintro e w2 ⟨rfl, rfl⟩; rw [HB.out])
    refine bodyPost_ret (v := .agg #[.bool b, .int .u64 (n : Int), .string ⟨#[]⟩, .int .u64 0, .string ⟨#[]⟩]) (by simp [results, Tryd.results42, go_sem]) rfl ⟨rfl, ?_⟩
    exact ((((Below.refl _ _).alloc (Nat.le_refl _) _).alloc (by simp) _).alloc (by simp; omega) _).alloc (by simp; omega) _
  · obtain ⟨k, HB⟩ : ∃ k, Hid (bl d = k) := ⟨_, rfl⟩
    have hk : ((k : Int) == 1) = false := by
      have : k ≠ 1 := fun h => h1 (bl_one (HB.out.trans h))
      simp; omega
    have HD : Hid (denOf d = d) := if_neg h1
    rw [HD.out]
    clear h1
    go_enter Tryd.func42, Tryd.ntmps42
    go_wp2_with (go_at_call 25; refine (bits_any d _ hd).mono ?_; rintro e w2 ⟨rfl, rfl⟩; rw [HB.out])
    refine bodyPost_ret (v := .agg #[.bool b, .int .u64 (n : Int), .string ⟨#[]⟩, .int .u64 (d : Int), .string ⟨#[]⟩]) (by simp [results, Tryd.results42, go_sem]) rfl ⟨rfl, ?_⟩
    exact ((((Below.refl _ _).alloc (Nat.le_refl _) _).alloc (by simp) _).alloc (by simp; omega) _).alloc (by simp; omega) _

end Go.Proofs.YtjohbgkdhppglaaDoor
