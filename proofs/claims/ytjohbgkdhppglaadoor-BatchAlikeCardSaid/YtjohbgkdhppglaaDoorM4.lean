/-
  The program's small fractions: Cmp.
-/
import Derived.Test.YtjohbgkdhppglaaDoorM3
namespace Go.Proofs.YtjohbgkdhppglaaDoor
open Go.RowKit

theorem isWhole_b (b : Bool) (n d : Nat) (w : World) (hd : d < 18446744073709551616) :
    Calls Tryd.prog 14 #[.agg #[.bool b, .int .u64 (n : Int), .string ⟨#[]⟩, .int .u64 (d : Int), .string ⟨#[]⟩]] w fun e w' => e = .returned (.bool (decide (d = 0))) ∧ Below w.heap.size w w' :=
  (isWhole_any b n d w hd).mono fun e w' ⟨h, hw⟩ => ⟨h, by rw [hw]; exact ((Below.refl _ _).alloc (Nat.le_refl _) _).alloc (by simp) _⟩
theorem times_gen (b : Bool) (n d : Nat) (w : World) (hn : n < 18446744073709551616) (hd : d < 18446744073709551616) (hp : n * d < 18446744073709551616) :
    Calls Tryd.prog 17 #[.agg #[.bool b, .int .u64 (n : Int), .string ⟨#[]⟩], .agg #[.int .u64 (d : Int), .string ⟨#[]⟩]] w fun e w' => ∃ (k : Nat) (r : Bool), Hid (k = n * d ∧ r = (b && decide (0 < n * d))) ∧ e = .returned (.agg #[.bool r, .int .u64 (k : Int), .string ⟨#[]⟩]) ∧ Below w.heap.size w w' :=
  (times_any b n d w hn hd hp).mono fun e w' ⟨h, hb⟩ => ⟨_, _, ⟨rfl, rfl⟩, h, hb⟩
set_option maxHeartbeats 4000000 in
set_option maxRecDepth 100000 in
theorem qcmp_A (b c : Bool) (n d m e : Nat) (w : World) (hn : n < 18446744073709551616) (hm : m < 18446744073709551616) (hd : d < 18446744073709551616) (he : e < 18446744073709551616) (h0 : d = 0) (h1 : e = 0) :
    Calls Tryd.prog 8 #[.agg #[.bool b, .int .u64 (n : Int), .string ⟨#[]⟩, .int .u64 (d : Int), .string ⟨#[]⟩], .agg #[.bool c, .int .u64 (m : Int), .string ⟨#[]⟩, .int .u64 (e : Int), .string ⟨#[]⟩]] w fun r w' => r = .returned (.int .i64 (cmpI b n c m)) ∧ Below w.heap.size w w' := by
  have HDa : Hid (decide (d = 0) = true) := by show decide _ = true; simp [h0]
  have HDb : Hid (decide (e = 0) = true) := by show decide _ = true; simp [h1]
  clear h0 h1
  obtain ⟨k, HK⟩ : ∃ k, Hid (cmpI b n c m = k) := ⟨_, rfl⟩
  rw [HK.out]
  go_enter Tryd.func8, Tryd.ntmps8
  go_wp2
  go_region_with (first
    | (go_at_call 14; refine (isWhole_b _ _ _ _ (by assumption)).mono ?_; rintro r wa ⟨rfl, hba⟩; rw [HDa.out]; have pa0 := hba.cell (p := ⟨w.heap.size, 0, none⟩) (by first | omega | (simp <;> omega)); have pa1 := hba.cell (p := ⟨w.heap.size, 1, none⟩) (by first | omega | (simp <;> omega)); have pa2 := hba.cell (p := ⟨w.heap.size, 2, none⟩) (by first | omega | (simp <;> omega)); have pa3 := hba.cell (p := ⟨w.heap.size, 3, none⟩) (by first | omega | (simp <;> omega)); have pa4 := hba.cell (p := ⟨w.heap.size, 4, none⟩) (by first | omega | (simp <;> omega)); have pa5 := hba.cell (p := ⟨w.heap.size + 1, 0, none⟩) (by first | omega | (simp <;> omega)); have pa6 := hba.cell (p := ⟨w.heap.size + 1, 1, none⟩) (by first | omega | (simp <;> omega)); have pa7 := hba.cell (p := ⟨w.heap.size + 1, 2, none⟩) (by first | omega | (simp <;> omega)); have pa8 := hba.cell (p := ⟨w.heap.size + 1, 3, none⟩) (by first | omega | (simp <;> omega)); have pa9 := hba.cell (p := ⟨w.heap.size + 1, 4, none⟩) (by first | omega | (simp <;> omega)); have hza : w.heap.size + 2 ≤ wa.heap.size := (by have := hba.size; first | omega | (simp at this; omega)); have HBa := Lib.hid hba)
    | (go_at_call 14; refine (isWhole_b _ _ _ _ (by assumption)).mono ?_; rintro r wb ⟨rfl, hbb⟩; rw [HDb.out]; have pb0 := hbb.cell (p := ⟨w.heap.size, 0, none⟩) (by first | omega | (simp <;> omega)); have pb1 := hbb.cell (p := ⟨w.heap.size, 1, none⟩) (by first | omega | (simp <;> omega)); have pb2 := hbb.cell (p := ⟨w.heap.size, 2, none⟩) (by first | omega | (simp <;> omega)); have pb3 := hbb.cell (p := ⟨w.heap.size, 3, none⟩) (by first | omega | (simp <;> omega)); have pb4 := hbb.cell (p := ⟨w.heap.size, 4, none⟩) (by first | omega | (simp <;> omega)); have pb5 := hbb.cell (p := ⟨w.heap.size + 1, 0, none⟩) (by first | omega | (simp <;> omega)); have pb6 := hbb.cell (p := ⟨w.heap.size + 1, 1, none⟩) (by first | omega | (simp <;> omega)); have pb7 := hbb.cell (p := ⟨w.heap.size + 1, 2, none⟩) (by first | omega | (simp <;> omega)); have pb8 := hbb.cell (p := ⟨w.heap.size + 1, 3, none⟩) (by first | omega | (simp <;> omega)); have pb9 := hbb.cell (p := ⟨w.heap.size + 1, 4, none⟩) (by first | omega | (simp <;> omega)); have hzb : w.heap.size + 2 ≤ wb.heap.size := (by have := hbb.size; first | omega | (simp at this; omega)); have HBb := Lib.hid hbb))
  all_goals
    go_wp2_with (go_at_call 16; refine (icmp_any _ _ _ _ _).mono ?_; rintro r w4 ⟨rfl, hb4⟩; rw [HK.out])
    go_ret
    refine ⟨rfl, ?_⟩
    have HB4 := Lib.hid hb4
    have k0 := (((Below.refl w.heap.size w).alloc (Nat.le_refl _) (.cells #[.bool b, .int .u64 (n : Int), .string ⟨#[]⟩, .int .u64 (d : Int), .string ⟨#[]⟩] 30)).alloc (by simp) (.cells #[.bool c, .int .u64 (m : Int), .string ⟨#[]⟩, .int .u64 (e : Int), .string ⟨#[]⟩] 30)).drew
    have k1 := k0.trans (HBa.out.mono k0.size)
    have k2 := k1.trans (HBb.out.mono k1.size)
    have k3 := k2.trans (HB4.out.mono k2.size)
    exact k3

set_option maxHeartbeats 4000000 in
set_option maxRecDepth 100000 in
theorem qcmp_B (b c : Bool) (n d m e : Nat) (w : World) (hn : n < 18446744073709551616) (hm : m < 18446744073709551616) (hd : d < 18446744073709551616) (he : e < 18446744073709551616) (h0 : d = 0) (h1 : ¬ e = 0) (hs : ¬ sgn b n = sgn c m) :
    Calls Tryd.prog 8 #[.agg #[.bool b, .int .u64 (n : Int), .string ⟨#[]⟩, .int .u64 (d : Int), .string ⟨#[]⟩], .agg #[.bool c, .int .u64 (m : Int), .string ⟨#[]⟩, .int .u64 (e : Int), .string ⟨#[]⟩]] w fun r w' => r = .returned (.int .i64 (cmpI b n c m)) ∧ Below w.heap.size w w' := by
  have HDa : Hid (decide (d = 0) = true) := by show decide _ = true; simp [h0]
  have HDb : Hid (decide (e = 0) = false) := by show decide _ = false; simp [h1]
  obtain ⟨x, HSa⟩ : ∃ x, Hid (sgn b n = x) := ⟨_, rfl⟩
  obtain ⟨y, HSb⟩ : ∃ y, Hid (sgn c m = y) := ⟨_, rfl⟩
  have hxy : (x == y) = false := by rw [← HSa.out, ← HSb.out]; simpa using hs
  clear h0 h1 hs
  obtain ⟨k, HK⟩ : ∃ k, Hid (cmpI b n c m = k) := ⟨_, rfl⟩
  rw [HK.out]
  go_enter Tryd.func8, Tryd.ntmps8
  go_wp2
  go_region_with (first
    | (go_at_call 14; refine (isWhole_b _ _ _ _ (by assumption)).mono ?_; rintro r wa ⟨rfl, hba⟩; rw [HDa.out]; have pa0 := hba.cell (p := ⟨w.heap.size, 0, none⟩) (by first | omega | (simp <;> omega)); have pa1 := hba.cell (p := ⟨w.heap.size, 1, none⟩) (by first | omega | (simp <;> omega)); have pa2 := hba.cell (p := ⟨w.heap.size, 2, none⟩) (by first | omega | (simp <;> omega)); have pa3 := hba.cell (p := ⟨w.heap.size, 3, none⟩) (by first | omega | (simp <;> omega)); have pa4 := hba.cell (p := ⟨w.heap.size, 4, none⟩) (by first | omega | (simp <;> omega)); have pa5 := hba.cell (p := ⟨w.heap.size + 1, 0, none⟩) (by first | omega | (simp <;> omega)); have pa6 := hba.cell (p := ⟨w.heap.size + 1, 1, none⟩) (by first | omega | (simp <;> omega)); have pa7 := hba.cell (p := ⟨w.heap.size + 1, 2, none⟩) (by first | omega | (simp <;> omega)); have pa8 := hba.cell (p := ⟨w.heap.size + 1, 3, none⟩) (by first | omega | (simp <;> omega)); have pa9 := hba.cell (p := ⟨w.heap.size + 1, 4, none⟩) (by first | omega | (simp <;> omega)); have hza : w.heap.size + 2 ≤ wa.heap.size := (by have := hba.size; first | omega | (simp at this; omega)); have HBa := Lib.hid hba)
    | (go_at_call 14; refine (isWhole_b _ _ _ _ (by assumption)).mono ?_; rintro r wb ⟨rfl, hbb⟩; rw [HDb.out]; have pb0 := hbb.cell (p := ⟨w.heap.size, 0, none⟩) (by first | omega | (simp <;> omega)); have pb1 := hbb.cell (p := ⟨w.heap.size, 1, none⟩) (by first | omega | (simp <;> omega)); have pb2 := hbb.cell (p := ⟨w.heap.size, 2, none⟩) (by first | omega | (simp <;> omega)); have pb3 := hbb.cell (p := ⟨w.heap.size, 3, none⟩) (by first | omega | (simp <;> omega)); have pb4 := hbb.cell (p := ⟨w.heap.size, 4, none⟩) (by first | omega | (simp <;> omega)); have pb5 := hbb.cell (p := ⟨w.heap.size + 1, 0, none⟩) (by first | omega | (simp <;> omega)); have pb6 := hbb.cell (p := ⟨w.heap.size + 1, 1, none⟩) (by first | omega | (simp <;> omega)); have pb7 := hbb.cell (p := ⟨w.heap.size + 1, 2, none⟩) (by first | omega | (simp <;> omega)); have pb8 := hbb.cell (p := ⟨w.heap.size + 1, 3, none⟩) (by first | omega | (simp <;> omega)); have pb9 := hbb.cell (p := ⟨w.heap.size + 1, 4, none⟩) (by first | omega | (simp <;> omega)); have hzb : w.heap.size + 2 ≤ wb.heap.size := (by have := hbb.size; first | omega | (simp at this; omega)); have HBb := Lib.hid hbb)
    | (go_at_call 15; refine (qsign_any _ _ _ _ (by assumption)).mono ?_; rintro r wc ⟨rfl, hbc⟩; rw [HSa.out]; have pc0 := hbc.cell (p := ⟨w.heap.size, 0, none⟩) (by first | omega | (simp <;> omega)); have pc1 := hbc.cell (p := ⟨w.heap.size, 1, none⟩) (by first | omega | (simp <;> omega)); have pc2 := hbc.cell (p := ⟨w.heap.size, 2, none⟩) (by first | omega | (simp <;> omega)); have pc3 := hbc.cell (p := ⟨w.heap.size, 3, none⟩) (by first | omega | (simp <;> omega)); have pc4 := hbc.cell (p := ⟨w.heap.size, 4, none⟩) (by first | omega | (simp <;> omega)); have pc5 := hbc.cell (p := ⟨w.heap.size + 1, 0, none⟩) (by first | omega | (simp <;> omega)); have pc6 := hbc.cell (p := ⟨w.heap.size + 1, 1, none⟩) (by first | omega | (simp <;> omega)); have pc7 := hbc.cell (p := ⟨w.heap.size + 1, 2, none⟩) (by first | omega | (simp <;> omega)); have pc8 := hbc.cell (p := ⟨w.heap.size + 1, 3, none⟩) (by first | omega | (simp <;> omega)); have pc9 := hbc.cell (p := ⟨w.heap.size + 1, 4, none⟩) (by first | omega | (simp <;> omega)); have hzc : w.heap.size + 2 ≤ wc.heap.size := (by have := hbc.size; first | omega | (simp at this; omega)); have HBc := Lib.hid hbc)
    | (go_at_call 15; refine (qsign_any _ _ _ _ (by assumption)).mono ?_; rintro r wd ⟨rfl, hbd⟩; rw [HSb.out]; have pd0 := hbd.cell (p := ⟨w.heap.size, 0, none⟩) (by first | omega | (simp <;> omega)); have pd1 := hbd.cell (p := ⟨w.heap.size, 1, none⟩) (by first | omega | (simp <;> omega)); have pd2 := hbd.cell (p := ⟨w.heap.size, 2, none⟩) (by first | omega | (simp <;> omega)); have pd3 := hbd.cell (p := ⟨w.heap.size, 3, none⟩) (by first | omega | (simp <;> omega)); have pd4 := hbd.cell (p := ⟨w.heap.size, 4, none⟩) (by first | omega | (simp <;> omega)); have pd5 := hbd.cell (p := ⟨w.heap.size + 1, 0, none⟩) (by first | omega | (simp <;> omega)); have pd6 := hbd.cell (p := ⟨w.heap.size + 1, 1, none⟩) (by first | omega | (simp <;> omega)); have pd7 := hbd.cell (p := ⟨w.heap.size + 1, 2, none⟩) (by first | omega | (simp <;> omega)); have pd8 := hbd.cell (p := ⟨w.heap.size + 1, 3, none⟩) (by first | omega | (simp <;> omega)); have pd9 := hbd.cell (p := ⟨w.heap.size + 1, 4, none⟩) (by first | omega | (simp <;> omega)); have hzd : w.heap.size + 2 ≤ wd.heap.size := (by have := hbd.size; first | omega | (simp at this; omega)); have HBd := Lib.hid hbd))
  all_goals
    go_wp2_with (go_at_call 16; refine (icmp_any _ _ _ _ _).mono ?_; rintro r w4 ⟨rfl, hb4⟩; rw [HK.out])
    go_ret
    refine ⟨rfl, ?_⟩
    have HB4 := Lib.hid hb4
    have k0 := (((Below.refl w.heap.size w).alloc (Nat.le_refl _) (.cells #[.bool b, .int .u64 (n : Int), .string ⟨#[]⟩, .int .u64 (d : Int), .string ⟨#[]⟩] 30)).alloc (by simp) (.cells #[.bool c, .int .u64 (m : Int), .string ⟨#[]⟩, .int .u64 (e : Int), .string ⟨#[]⟩] 30)).drew
    have k1 := k0.trans (HBa.out.mono k0.size)
    have k2 := k1.trans (HBb.out.mono k1.size)
    have k3 := k2.trans (HBc.out.mono k2.size)
    have k4 := k3.trans (HBd.out.mono k3.size)
    have k5 := k4.trans (HB4.out.mono k4.size)
    exact k5

set_option maxHeartbeats 4000000 in
set_option maxRecDepth 100000 in
theorem qcmp_C (b c : Bool) (n d m e : Nat) (w : World) (hn : n < 18446744073709551616) (hm : m < 18446744073709551616) (hd : d < 18446744073709551616) (he : e < 18446744073709551616) (h0 : ¬ d = 0) (hs : ¬ sgn b n = sgn c m) :
    Calls Tryd.prog 8 #[.agg #[.bool b, .int .u64 (n : Int), .string ⟨#[]⟩, .int .u64 (d : Int), .string ⟨#[]⟩], .agg #[.bool c, .int .u64 (m : Int), .string ⟨#[]⟩, .int .u64 (e : Int), .string ⟨#[]⟩]] w fun r w' => r = .returned (.int .i64 (cmpI b n c m)) ∧ Below w.heap.size w w' := by
  have HDa : Hid (decide (d = 0) = false) := by show decide _ = false; simp [h0]
  obtain ⟨x, HSa⟩ : ∃ x, Hid (sgn b n = x) := ⟨_, rfl⟩
  obtain ⟨y, HSb⟩ : ∃ y, Hid (sgn c m = y) := ⟨_, rfl⟩
  have hxy : (x == y) = false := by rw [← HSa.out, ← HSb.out]; simpa using hs
  clear h0 hs
  obtain ⟨k, HK⟩ : ∃ k, Hid (cmpI b n c m = k) := ⟨_, rfl⟩
  rw [HK.out]
  go_enter Tryd.func8, Tryd.ntmps8
  go_wp2
  go_region_with (first
    | (go_at_call 14; refine (isWhole_b _ _ _ _ (by assumption)).mono ?_; rintro r wa ⟨rfl, hba⟩; rw [HDa.out]; have pa0 := hba.cell (p := ⟨w.heap.size, 0, none⟩) (by first | omega | (simp <;> omega)); have pa1 := hba.cell (p := ⟨w.heap.size, 1, none⟩) (by first | omega | (simp <;> omega)); have pa2 := hba.cell (p := ⟨w.heap.size, 2, none⟩) (by first | omega | (simp <;> omega)); have pa3 := hba.cell (p := ⟨w.heap.size, 3, none⟩) (by first | omega | (simp <;> omega)); have pa4 := hba.cell (p := ⟨w.heap.size, 4, none⟩) (by first | omega | (simp <;> omega)); have pa5 := hba.cell (p := ⟨w.heap.size + 1, 0, none⟩) (by first | omega | (simp <;> omega)); have pa6 := hba.cell (p := ⟨w.heap.size + 1, 1, none⟩) (by first | omega | (simp <;> omega)); have pa7 := hba.cell (p := ⟨w.heap.size + 1, 2, none⟩) (by first | omega | (simp <;> omega)); have pa8 := hba.cell (p := ⟨w.heap.size + 1, 3, none⟩) (by first | omega | (simp <;> omega)); have pa9 := hba.cell (p := ⟨w.heap.size + 1, 4, none⟩) (by first | omega | (simp <;> omega)); have hza : w.heap.size + 2 ≤ wa.heap.size := (by have := hba.size; first | omega | (simp at this; omega)); have HBa := Lib.hid hba)
    | (go_at_call 15; refine (qsign_any _ _ _ _ (by assumption)).mono ?_; rintro r wc ⟨rfl, hbc⟩; rw [HSa.out]; have pc0 := hbc.cell (p := ⟨w.heap.size, 0, none⟩) (by first | omega | (simp <;> omega)); have pc1 := hbc.cell (p := ⟨w.heap.size, 1, none⟩) (by first | omega | (simp <;> omega)); have pc2 := hbc.cell (p := ⟨w.heap.size, 2, none⟩) (by first | omega | (simp <;> omega)); have pc3 := hbc.cell (p := ⟨w.heap.size, 3, none⟩) (by first | omega | (simp <;> omega)); have pc4 := hbc.cell (p := ⟨w.heap.size, 4, none⟩) (by first | omega | (simp <;> omega)); have pc5 := hbc.cell (p := ⟨w.heap.size + 1, 0, none⟩) (by first | omega | (simp <;> omega)); have pc6 := hbc.cell (p := ⟨w.heap.size + 1, 1, none⟩) (by first | omega | (simp <;> omega)); have pc7 := hbc.cell (p := ⟨w.heap.size + 1, 2, none⟩) (by first | omega | (simp <;> omega)); have pc8 := hbc.cell (p := ⟨w.heap.size + 1, 3, none⟩) (by first | omega | (simp <;> omega)); have pc9 := hbc.cell (p := ⟨w.heap.size + 1, 4, none⟩) (by first | omega | (simp <;> omega)); have hzc : w.heap.size + 2 ≤ wc.heap.size := (by have := hbc.size; first | omega | (simp at this; omega)); have HBc := Lib.hid hbc)
    | (go_at_call 15; refine (qsign_any _ _ _ _ (by assumption)).mono ?_; rintro r wd ⟨rfl, hbd⟩; rw [HSb.out]; have pd0 := hbd.cell (p := ⟨w.heap.size, 0, none⟩) (by first | omega | (simp <;> omega)); have pd1 := hbd.cell (p := ⟨w.heap.size, 1, none⟩) (by first | omega | (simp <;> omega)); have pd2 := hbd.cell (p := ⟨w.heap.size, 2, none⟩) (by first | omega | (simp <;> omega)); have pd3 := hbd.cell (p := ⟨w.heap.size, 3, none⟩) (by first | omega | (simp <;> omega)); have pd4 := hbd.cell (p := ⟨w.heap.size, 4, none⟩) (by first | omega | (simp <;> omega)); have pd5 := hbd.cell (p := ⟨w.heap.size + 1, 0, none⟩) (by first | omega | (simp <;> omega)); have pd6 := hbd.cell (p := ⟨w.heap.size + 1, 1, none⟩) (by first | omega | (simp <;> omega)); have pd7 := hbd.cell (p := ⟨w.heap.size + 1, 2, none⟩) (by first | omega | (simp <;> omega)); have pd8 := hbd.cell (p := ⟨w.heap.size + 1, 3, none⟩) (by first | omega | (simp <;> omega)); have pd9 := hbd.cell (p := ⟨w.heap.size + 1, 4, none⟩) (by first | omega | (simp <;> omega)); have hzd : w.heap.size + 2 ≤ wd.heap.size := (by have := hbd.size; first | omega | (simp at this; omega)); have HBd := Lib.hid hbd))
  all_goals
    go_wp2_with (go_at_call 16; refine (icmp_any _ _ _ _ _).mono ?_; rintro r w4 ⟨rfl, hb4⟩; rw [HK.out])
    go_ret
    refine ⟨rfl, ?_⟩
    have HB4 := Lib.hid hb4
    have k0 := (((Below.refl w.heap.size w).alloc (Nat.le_refl _) (.cells #[.bool b, .int .u64 (n : Int), .string ⟨#[]⟩, .int .u64 (d : Int), .string ⟨#[]⟩] 30)).alloc (by simp) (.cells #[.bool c, .int .u64 (m : Int), .string ⟨#[]⟩, .int .u64 (e : Int), .string ⟨#[]⟩] 30)).drew
    have k1 := k0.trans (HBa.out.mono k0.size)
    have k2 := k1.trans (HBc.out.mono k1.size)
    have k3 := k2.trans (HBd.out.mono k2.size)
    have k4 := k3.trans (HB4.out.mono k3.size)
    exact k4

end Go.Proofs.YtjohbgkdhppglaaDoor
