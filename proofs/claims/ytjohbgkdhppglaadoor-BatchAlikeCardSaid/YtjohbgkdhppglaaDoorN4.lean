/-
  Small numbers: NatBits, NatBytes (of a number below 256).
-/
import Derived.Test.YtjohbgkdhppglaaDoorN3
namespace Go.Proofs.YtjohbgkdhppglaaDoor
open Go.RowKit

/- How many bits. -/
def bl (n : Nat) : Nat := if n = 0 then 0 else Nat.log2 n + 1
theorem bl_half {n : Nat} (h : 0 < n) : bl n = bl (n / 2) + 1 := by
  unfold bl
  rw [if_neg (by omega)]
  by_cases h2 : 2 ≤ n
  · rw [if_neg (by omega), Nat.log2_def, if_pos h2]
  · have : n = 1 := by omega
    subst this; rfl
theorem bl_zero : bl 0 = 0 := rfl
theorem bl_le {n : Nat} (h : n < 256) : bl n ≤ 8 := by
  unfold bl
  split
  · omega
  · rename_i h0
    have := (Nat.log2_lt h0 (k := 8)).2 h
    omega
theorem bl_pos {n : Nat} (h : 0 < n) : 0 < bl n := by rw [bl_half h]; omega

set_option maxHeartbeats 400000 in
theorem natBits_any (v : Value) (n : Nat) (w : World) (hv : RN w v n) :
    Calls Tryd.prog 46 #[v] w fun e w' => e = .returned (.int .i64 (bl n : Int)) ∧ w = w' := by
  obtain ⟨hn, ⟨e0, A, c, rfl⟩ | ⟨hp, b, o, c, rfl, _, _, hc⟩⟩ := hv
  · have HB : Hid (bl n = 0) := by rw [e0]; rfl
    go_enter Tryd.func46, Tryd.ntmps46
    go_wp2
    go_ret
    exact ⟨by rw [HB.out]; rfl, rfl⟩
  · go_enter Tryd.func46, Tryd.ntmps46
    go_wp2
    go_loop [3, 4] (fun cnt x => ∃ k y : Nat, y < 4294967296 ∧ k ≤ 9223372036854775000 - y ∧ x = .int .u32 (y : Int) ∧ cnt = .int .i64 (k : Int) ∧ Hid (k + bl y = bl n)) (fun _ x => (intOf x).toNat)
    case atStart => exact ⟨0, n, hn, by omega, rfl, rfl, by show 0 + bl n = bl n; omega⟩
    case round =>
      obtain ⟨k, y, hy, hk, rfl, rfl, hb⟩ := hrel
      by_cases hy0 : 0 < y
      · have HY := Lib.hid (bl_half hy0)
        have HH : Hid ((y : Int) / 2 = ((y / 2 : Nat) : Int)) := by simp [Hid]
        go_wp2
        go_round
        case rel => exact ⟨k + 1, y / 2, by omega, by omega, by rw [← HH.out], by go_num, by have h1 := hb.out; have h2 := HY.out; show k + 1 + bl (y / 2) = bl n; omega⟩
        case measure => simp [intOf]; omega
      · have HB : Hid (bl n = k) := by have := hb.out; rw [show y = 0 by omega, bl_zero] at this; exact this.symm
        go_wp2
        go_ret
        exact ⟨by rw [HB.out]; rfl, rfl⟩

/- A slice of at most one byte. -/
def RB (w : World) (v : Value) (n : Nat) : Prop :=
  n < 256 ∧ ((n = 0 ∧ ∃ A c, v = .slice A 0 c) ∨ (0 < n ∧ ∃ b o c, v = .slice (some ⟨b, o, none⟩) 1 c ∧ 1 ≤ c ∧ b < w.heap.size ∧ w.cell? ⟨b, o, none⟩ = some (.int .u8 (n : Int))))
theorem RB.below {w w' : World} {v : Value} {n : Nat} (h : RB w v n) (hb : Below w.heap.size w w') : RB w' v n := by
  obtain ⟨h1, h2 | ⟨h2, b, o, c, rfl, hc, hlt, hcell⟩⟩ := h
  · exact ⟨h1, .inl h2⟩
  · exact ⟨h1, .inr ⟨h2, b, o, c, rfl, hc, Nat.lt_of_lt_of_le hlt hb.size, (hb.cell hlt).trans hcell⟩⟩

set_option maxHeartbeats 400000 in
theorem natBytes_any (v : Value) (n : Nat) (w : World) (hv : RN w v n) (h256 : n < 256) :
    Calls Tryd.prog 34 #[v] w fun e w' => ∃ r, e = .returned r ∧ RB w' r n ∧ Below w.heap.size w w' := by
  have HBt := Lib.hid (natBits_any v n w hv)
  have hmk : ∀ W, (Instr.makeSlice 76 (.int .i64 1) (.int .i64 1)).run Tryd.prog W = .ok (.slice (some ⟨W.heap.size, 0, none⟩) 1 1) (W.alloc (.cells #[.int .u8 0] 5)) := fun W => by kernel_rfl
  have hmk0 : ∀ W, (Instr.makeSlice 76 (.int .i64 0) (.int .i64 0)).run Tryd.prog W = .ok (.slice (some ⟨W.heap.size, 0, none⟩) 0 0) (W.alloc (.cells #[] 5)) := fun W => by kernel_rfl
  obtain ⟨hn, ⟨e0, A, c, rfl⟩ | ⟨hp, b, o, c, rfl, _, hlt, hc⟩⟩ := hv
  · have HB : Hid (bl n = 0) := by rw [e0]; rfl
    go_enter Tryd.func34, Tryd.ntmps34
    go_wp2_with (go_at_call 46; refine HBt.out.mono ?_; rintro e w' ⟨rfl, rfl⟩; rw [HB.out])
    refine wp_loop_rounds 1 ?_
    rw [rounds_succ]
    go_wp2
    go_ret
    exact ⟨_, rfl, ⟨h256, .inl ⟨e0, _, _, rfl⟩⟩, (Below.refl _ _).alloc (Nat.le_refl _) _⟩
  · have h8 := bl_le h256
    have h1 := bl_pos hp
    obtain ⟨k, HK⟩ : ∃ k, Hid (bl n = k) := ⟨_, rfl⟩
    rw [HK.out] at h8 h1
    have hcw : ∀ o' : Obj, (w.alloc o').cell? ⟨b, o, none⟩ = some (.int .u32 (n : Int)) := fun o' => by rw [World.cell?_alloc_lt _ _ _ hlt]; exact hc
    have hq : ((k : Int) + 7) / 8 = 1 := by omega
    go_enter Tryd.func34, Tryd.ntmps34
    go_wp2_with (go_at_call 46; refine HBt.out.mono ?_; rintro e w' ⟨rfl, rfl⟩; rw [HK.out])
    refine wp_loop_rounds 2 ?_
    rw [rounds_succ]
    go_wp2
    rw [rounds_succ]
    go_wp2
    go_ret
    refine ⟨_, rfl, ⟨h256, .inr ⟨hp, w.heap.size, 0, 1, rfl, Nat.le_refl _, by simp, ?_⟩⟩, (Below.refl _ _).alloc (Nat.le_refl _) _⟩
    rw [(Blk.new w _ _).cell 0]
    rfl
end Go.Proofs.YtjohbgkdhppglaaDoor
