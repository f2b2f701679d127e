/-
  BatchLong: the walk.
-/
import Derived.Test.YtgmdpmhoedjcoaaC
namespace Go.Proofs.Ytgmdpmhoedjcoaa.batchLong
open Go.RowKit

theorem zeros_ints (w : World) (t : TypeId) (n : Nat) : IntsIn (w.alloc (.cells (fillA n 0) t)) (w.heap.size + 1) (some ⟨w.heap.size, 0, none⟩) (List.replicate n 0) := by
  have := lit_ints w t (List.replicate n 0)
  have e : ((List.replicate n (0 : Int)).map (Value.int .i64)).toArray = fillA n 0 := by
    unfold fillA
    simp
    rw [List.map_const']
    simp
  rwa [e] at this

set_option maxHeartbeats 1000000 in
theorem walk (a0 : Int) (a1 : Int) (w : World) (_w0 : (Lit.int .i64 a0).wf = true) (_w1 : (Lit.int .i64 a1).wf = true) :
    Calls Try.prog 6 #[.int .i64 a0, .int .i64 a1] w fun e w' => e = .returned (.bool true) ∧ Below w.heap.size w w' := by
  obtain ⟨i0, hi0, hz0, hz1, hz2⟩ := info_parts Try.infoInt
  have hmk := fun (n : Nat) (hn : n ≤ 100000) W => run_make_rowN (P := Try.prog) 22 3 i0 _ Try.underlying22 hi0 hz0 .i64 .i64 n n (Nat.le_refl _) (by rw [hz2]; omega) (by omega) W
  rw [hz1] at hmk
  simp only [Value.cells, Nat.mul_one, fillA_zero] at hmk
  clear hi0 hz0 hz1 hz2
  have HMK := Lib.hid hmk
  clear hmk
  go_enter Try.func6, Try.ntmps6
  go_wp2_with fail
  refine (pick_any a0 12 _ (by omega) (by omega)).mono ?_
  rintro e w' ⟨rfl, rfl⟩
  obtain ⟨n, hn⟩ := Int.eq_ofNat_of_zero_le (Int.emod_nonneg a0 (show (12 : Int) ≠ 0 by omega))
  have hn2 : n < 12 := by have := Int.emod_lt_of_pos a0 (show (0 : Int) < 12 by omega); omega
  rw [hn]
  clear hn
  go_wp2_with fail
  refine (pick_any a1 3 _ (by omega) (by omega)).mono ?_
  rintro e w' ⟨rfl, rfl⟩
  obtain ⟨m, hm⟩ := Int.eq_ofNat_of_zero_le (Int.emod_nonneg a1 (show (3 : Int) ≠ 0 by omega))
  have hm2 : m < 3 := by have := Int.emod_lt_of_pos a1 (show (0 : Int) < 3 by omega); omega
  rw [hm]
  clear hm
  have hmk : ∀ W, (Instr.makeSlice 22 (.int .i64 (65530 + (n : Int))) (.int .i64 (65530 + (n : Int)))).run Try.prog W = .ok (.slice (some ⟨W.heap.size, 0, none⟩) (65530 + n) (65530 + n)) (W.alloc (.cells (fillA (65530 + n) 0) 3)) := fun W => by
    have h := HMK.out (65530 + n) (by omega) W
    rwa [show ((65530 + n : Nat) : Int) = 65530 + (n : Int) by omega] at h
  go_wp2_with fail
  clear hmk
  have hform := form_any (some ⟨w.heap.size, 0, none⟩) (65530 + n) (List.replicate (65530 + n) 0) ((m : Int) * 100 + 100) 1 (w.alloc (.cells (fillA (65530 + n) 0) 3)) (by have := zeros_ints w 3 (65530 + n); simpa using this) (by simp; omega)
  rw [List.length_replicate] at hform
  refine hform.mono ?_
  clear hform
  intro e w1 h1
  by_cases hbig : 65536 < 65530 + n
  · rcases h1 with ⟨_, he, hbel⟩ | ⟨h0, _⟩
    · rw [Pl.zeros_code (by omega) (by omega), if_pos hbig] at he
      subst he
      have hb2 := ((Below.refl w.heap.size w).alloc (Nat.le_refl _) (.cells (fillA (65530 + n) 0) 3)).trans (hbel.mono (by simp))
      clear hbel
      go_wp2_with (go_at_call 11; refine (known_any _).mono ?_; rintro e w2 ⟨rfl, hb3⟩)
      go_ret
      exact ⟨rfl, hb2.trans (hb3.mono hb2.size)⟩
    · rw [Pl.zeros_code (by omega) (by omega), if_pos hbig] at h0
      exact absurd h0 (by omega)
  · rcases h1 with ⟨h0, _⟩ | ⟨_, v, ba, rfl, hown, _, _, hbel⟩
    · rw [Pl.zeros_code (by omega) (by omega), if_neg hbig] at h0
      exact absurd rfl h0
    · rw [Pl.zeros_length (by omega) _ 0 rfl (by omega)] at hown
      rw [show ((m : Int) * 100 + 100).toNat = m * 100 + 100 by omega] at hown
      have hpos : 0 < (65530 + n - 0 + (m * 100 + 100) - 1) / (m * 100 + 100) := Nat.div_pos (by omega) (by omega)
      obtain ⟨g, cap, rfl, _, _⟩ := hown.form hpos
      clear hown
      have hb2 := ((Below.refl w.heap.size w).alloc (Nat.le_refl _) (.cells (fillA (65530 + n) 0) 3)).trans (hbel.mono (by simp))
      clear hbel
      have hq : ((((65530 + n - 0 + (m * 100 + 100) - 1) / (m * 100 + 100) : Nat) : Int) == (65530 + (n : Int) + ((m : Int) * 100 + 100) - 1) / ((m : Int) * 100 + 100)) = true := by
        rw [beq_iff_eq, Int.natCast_ediv]
        congr 1
        omega
      generalize (65530 + n - 0 + (m * 100 + 100) - 1) / (m * 100 + 100) = len at hq ⊢
      go_wp2_with (go_at_call 11; refine (known_any _).mono ?_; rintro e w2 ⟨rfl, hb3⟩)
      go_ret
      exact ⟨rfl, hb2.trans (hb3.mono hb2.size)⟩
end Go.Proofs.Ytgmdpmhoedjcoaa.batchLong
