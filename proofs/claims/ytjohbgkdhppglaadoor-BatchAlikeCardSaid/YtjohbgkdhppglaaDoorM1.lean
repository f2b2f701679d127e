/-
  The program's small fractions: isWhole, Den, Sign; whole.Cmp.
-/
import Derived.Test.YtjohbgkdhppglaaDoorN8
namespace Go.Proofs.YtjohbgkdhppglaaDoor
open Go.RowKit

set_option maxHeartbeats 1000000 in
set_option maxRecDepth 100000 in
theorem isWhole_any (b : Bool) (n d : Nat) (w : World) (hd : d < 18446744073709551616) :
    Calls Tryd.prog 14 #[.agg #[.bool b, .int .u64 (n : Int), .string ⟨#[]⟩, .int .u64 (d : Int), .string ⟨#[]⟩]] w fun e w' => e = .returned (.bool (decide (d = 0))) ∧ w' = ((w.alloc (.cells #[.bool b, .int .u64 (n : Int), .string ⟨#[]⟩, .int .u64 (d : Int), .string ⟨#[]⟩] 30)).alloc (.cells #[.int .u64 (d : Int), .string ⟨#[]⟩] 26)) := by
  by_cases h0 : d = 0
  · have HB : Hid (bl d = 0) := by rw [h0]; rfl
    rw [decide_eq_true h0]
    clear h0
    go_enter Tryd.func14, Tryd.ntmps14
    go_wp2_with (go_at_call 25; refine (bits_any d _ hd).mono ?_; rintro e w2 ⟨rfl, rfl⟩; rw [HB.out])
    go_ret
    exact ⟨rfl, rfl⟩
  · obtain ⟨k, HB⟩ : ∃ k, Hid (bl d = k) := ⟨_, rfl⟩
    have hk : ((k : Int) == 0) = false := by
      have := bl_pos (n := d) (by omega); have := HB.out; simp; omega
    rw [decide_eq_false h0]
    clear h0
    go_enter Tryd.func14, Tryd.ntmps14
    go_wp2_with (go_at_call 25; refine (bits_any d _ hd).mono ?_; rintro e w2 ⟨rfl, rfl⟩; rw [HB.out])
    go_ret
    exact ⟨rfl, rfl⟩

set_option maxHeartbeats 400000 in
set_option maxRecDepth 100000 in
theorem of_ex (n : Nat) (w : World) :
    Calls Tryd.prog 29 #[.int .u64 (n : Int)] w fun e w' => e = .returned (.agg #[.int .u64 (n : Int), .string ⟨#[]⟩]) ∧ w' = w.alloc (.cells #[.int .u64 (n : Int), .string ⟨#[]⟩] 26) := by
  go_enter Tryd.func29, Tryd.ntmps29
  go_wp2
  exact bodyPost_ret (v := .agg #[.int .u64 (n : Int), .string ⟨#[]⟩]) (by simp [results, Tryd.results29, go_sem]) rfl ⟨rfl, rfl⟩

def dn (d : Nat) : Nat := if d = 0 then 1 else d
set_option maxHeartbeats 1000000 in
set_option maxRecDepth 100000 in
theorem den_any (b : Bool) (n d : Nat) (w : World) (hd : d < 18446744073709551616) :
    Calls Tryd.prog 18 #[.agg #[.bool b, .int .u64 (n : Int), .string ⟨#[]⟩, .int .u64 (d : Int), .string ⟨#[]⟩]] w fun e w' => e = .returned (.agg #[.int .u64 (dn d : Int), .string ⟨#[]⟩]) ∧ Below w.heap.size w w' := by
  by_cases h0 : d = 0
  · have HB : Hid (decide (d = 0) = true) := by show decide _ = true; simp [h0]
    have HD : Hid (dn d = 1) := by show dn d = 1; unfold dn; rw [if_pos h0]
    rw [HD.out]
    clear h0
    go_enter Tryd.func18, Tryd.ntmps18
    go_wp2_with (first
      | (go_at_call 14; refine (isWhole_any b n d _ hd).mono ?_; rintro e w2 ⟨rfl, rfl⟩; rw [HB.out])
      | (go_at_call 29; refine (of_ex 1 _).mono ?_; rintro e w3 ⟨rfl, rfl⟩))
    refine bodyPost_ret (v := .agg #[.int .u64 1, .string ⟨#[]⟩]) (by simp [results, Tryd.results18, go_sem]) rfl ⟨rfl, ?_⟩
    repeat (first
      | exact Below.refl _ _
      | (refine Below.alloc ?_ ?_ _; rotate_left 1; focus (first | (simp; done) | (simp; omega)))
      | (refine Below.setCell ?_ ?_ _; rotate_left 1; focus (first | (simp; done) | (simp; omega))))
  · have HB : Hid (decide (d = 0) = false) := by show decide _ = false; simp [h0]
    have HD : Hid (dn d = d) := by show dn d = d; unfold dn; rw [if_neg h0]
    rw [HD.out]
    clear h0
    go_enter Tryd.func18, Tryd.ntmps18
    go_wp2_with (go_at_call 14; refine (isWhole_any b n d _ hd).mono ?_; rintro e w2 ⟨rfl, rfl⟩; rw [HB.out])
    refine bodyPost_ret (v := .agg #[.int .u64 (d : Int), .string ⟨#[]⟩]) (by simp [results, Tryd.results18, go_sem]) rfl ⟨rfl, ?_⟩
    repeat (first
      | exact Below.refl _ _
      | (refine Below.alloc ?_ ?_ _; rotate_left 1; focus (first | (simp; done) | (simp; omega)))
      | (refine Below.setCell ?_ ?_ _; rotate_left 1; focus (first | (simp; done) | (simp; omega))))

set_option maxHeartbeats 1000000 in
set_option maxRecDepth 100000 in
theorem qsign_any (b : Bool) (n d : Nat) (w : World) (hn : n < 18446744073709551616) :
    Calls Tryd.prog 15 #[.agg #[.bool b, .int .u64 (n : Int), .string ⟨#[]⟩, .int .u64 (d : Int), .string ⟨#[]⟩]] w fun e w' => e = .returned (.int .i64 (sgn b n)) ∧ Below w.heap.size w w' := by
  obtain ⟨k, HK⟩ : ∃ k, Hid (sgn b n = k) := ⟨_, rfl⟩
  rw [HK.out]
  go_enter Tryd.func15, Tryd.ntmps15
  go_wp2_with (go_at_call 26; refine (sign_any b n _ hn).mono ?_; rintro e w2 ⟨rfl, hb2⟩; rw [HK.out])
  go_ret
  exact ⟨rfl, ((Below.refl w.heap.size w).alloc (Nat.le_refl _) _).trans (hb2.mono (by simp))⟩

def cmpI (b : Bool) (n : Nat) (c : Bool) (m : Nat) : Int := if b then (if c then cmpN m n else -1) else if c then 1 else cmpN n m
set_option maxHeartbeats 1000000 in
set_option maxRecDepth 100000 in
theorem icmp_any (b c : Bool) (n m : Nat) (w : World) :
    Calls Tryd.prog 16 #[.agg #[.bool b, .int .u64 (n : Int), .string ⟨#[]⟩], .agg #[.bool c, .int .u64 (m : Int), .string ⟨#[]⟩]] w fun e w' => e = .returned (.int .i64 (cmpI b n c m)) ∧ Below w.heap.size w w' := by
  obtain ⟨k, HK⟩ : ∃ k, Hid (cmpN n m = k) := ⟨_, rfl⟩
  obtain ⟨j, HJ⟩ : ∃ j, Hid (cmpN m n = j) := ⟨_, rfl⟩
  unfold cmpI
  rw [HK.out, HJ.out]
  cases b <;> cases c
  · simp only [if_true, if_false, Bool.false_eq_true]
    go_enter Tryd.func16, Tryd.ntmps16
    go_wp2_with (go_at_call 27; refine (ncmp_any n m _).mono ?_; rintro e w2 ⟨rfl, rfl⟩; rw [HK.out])
    go_ret
    refine ⟨rfl, ?_⟩
    repeat (first
      | exact Below.refl _ _
      | (refine Below.alloc ?_ ?_ _; rotate_left 1; focus (first | (simp; done) | (simp; omega)))
      | (refine Below.setCell ?_ ?_ _; rotate_left 1; focus (first | (simp; done) | (simp; omega))))
  · simp only [if_true, if_false, Bool.false_eq_true]
    go_enter Tryd.func16, Tryd.ntmps16
    go_wp2
    go_ret
    refine ⟨rfl, ?_⟩
    repeat (first
      | exact Below.refl _ _
      | (refine Below.alloc ?_ ?_ _; rotate_left 1; focus (first | (simp; done) | (simp; omega)))
      | (refine Below.setCell ?_ ?_ _; rotate_left 1; focus (first | (simp; done) | (simp; omega))))
  · simp only [if_true, if_false, Bool.false_eq_true]
    go_enter Tryd.func16, Tryd.ntmps16
    go_wp2
    go_ret
    refine ⟨rfl, ?_⟩
    repeat (first
      | exact Below.refl _ _
      | (refine Below.alloc ?_ ?_ _; rotate_left 1; focus (first | (simp; done) | (simp; omega)))
      | (refine Below.setCell ?_ ?_ _; rotate_left 1; focus (first | (simp; done) | (simp; omega))))
  · simp only [if_true, if_false, Bool.false_eq_true]
    go_enter Tryd.func16, Tryd.ntmps16
    go_wp2_with (go_at_call 27; refine (ncmp_any m n _).mono ?_; rintro e w2 ⟨rfl, rfl⟩; rw [HJ.out])
    go_ret
    refine ⟨rfl, ?_⟩
    repeat (first
      | exact Below.refl _ _
      | (refine Below.alloc ?_ ?_ _; rotate_left 1; focus (first | (simp; done) | (simp; omega)))
      | (refine Below.setCell ?_ ?_ _; rotate_left 1; focus (first | (simp; done) | (simp; omega))))
end Go.Proofs.YtjohbgkdhppglaaDoor
