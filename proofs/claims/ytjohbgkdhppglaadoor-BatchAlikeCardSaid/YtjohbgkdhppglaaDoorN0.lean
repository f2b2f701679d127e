/-
  The reference's small numbers (one limb of 32 bits at most): contracts of trim, NatOf, I, IntOf.
-/
import Derived.Test.YtjohbgkdhppglaaDoorC
namespace Go.Proofs.YtjohbgkdhppglaaDoor
open Go.RowKit

/- A number below 2^32 as the reference keeps it: no limb for 0, else one. -/
def RN (w : World) (v : Value) (n : Nat) : Prop :=
  n < 4294967296 ∧ ((n = 0 ∧ ∃ A c, v = .slice A 0 c) ∨ (0 < n ∧ ∃ b o c, v = .slice (some ⟨b, o, none⟩) 1 c ∧ 1 ≤ c ∧ b < w.heap.size ∧ w.cell? ⟨b, o, none⟩ = some (.int .u32 (n : Int))))
theorem RN.below {w w' : World} {v : Value} {n : Nat} (h : RN w v n) (hb : Below w.heap.size w w') : RN w' v n := by
  obtain ⟨h1, h2 | ⟨h2, b, o, c, rfl, hc, hlt, hcell⟩⟩ := h
  · exact ⟨h1, .inl h2⟩
  · exact ⟨h1, .inr ⟨h2, b, o, c, rfl, hc, Nat.lt_of_lt_of_le hlt hb.size, (hb.cell hlt).trans hcell⟩⟩
theorem RN.alloc {w : World} {v : Value} {n : Nat} (h : RN w v n) (o : Obj) : RN (w.alloc o) v n := h.below ((Below.refl _ _).alloc (Nat.le_refl _) _)
theorem RN.drewN {w : World} {v : Value} {n : Nat} (h : RN w v n) (q : Nat) : RN (w.drewN q) v n := h.below ⟨rfl, rfl, rfl, Nat.le_refl _, fun _ _ => rfl⟩

/- How many limbs. -/
def ln (n : Nat) : Nat := if n = 0 then 0 else 1

set_option maxHeartbeats 400000 in
/- trim, of one limb that is not 0 (the second is 0), or of limbs that are 0. -/
theorem trim_two (b : Nat) (n : Nat) (w : World) (hn : n < 4294967296) (h0 : w.cell? ⟨b, 0, none⟩ = some (.int .u32 (n : Int))) (h1 : w.cell? ⟨b, 1, none⟩ = some (.int .u32 0)) :
    Calls Tryd.prog 64 #[.slice (some ⟨b, 0, none⟩) 2 2] w fun e w' => e = .returned (.slice (some ⟨b, 0, none⟩) (ln n) 2) ∧ w = w' := by
  by_cases hz : n = 0
  · subst hz
    go_enter Tryd.func64, Tryd.ntmps64
    go_wp2
    refine wp_loop_rounds 3 ?_
    rw [rounds_succ]
    go_wp2
    rw [rounds_succ]
    go_wp2
    rw [rounds_succ]
    go_wp2
    go_ret
    exact ⟨rfl, rfl⟩
  · have hb : ((n : Int) == 0) = false := by simp; omega
    have HZ : Hid (ln n = 1) := if_neg hz
    have hpos : 0 < n := by omega
    clear hz
    go_enter Tryd.func64, Tryd.ntmps64
    go_wp2
    refine wp_loop_rounds 2 ?_
    rw [rounds_succ]
    go_wp2
    rw [rounds_succ]
    go_wp2
    go_ret
    exact ⟨by rw [HZ.out]; rfl, rfl⟩
set_option maxHeartbeats 400000 in
theorem trim_one (b : Nat) (n : Nat) (w : World) (hn : n < 4294967296) (h0 : w.cell? ⟨b, 0, none⟩ = some (.int .u32 (n : Int))) :
    Calls Tryd.prog 64 #[.slice (some ⟨b, 0, none⟩) 1 1] w fun e w' => e = .returned (.slice (some ⟨b, 0, none⟩) (ln n) 1) ∧ w = w' := by
  by_cases hz : n = 0
  · subst hz
    go_enter Tryd.func64, Tryd.ntmps64
    go_wp2
    refine wp_loop_rounds 2 ?_
    rw [rounds_succ]
    go_wp2
    rw [rounds_succ]
    go_wp2
    go_ret
    exact ⟨rfl, rfl⟩
  · have hb : ((n : Int) == 0) = false := by simp; omega
    have HZ : Hid (ln n = 1) := if_neg hz
    have hpos : 0 < n := by omega
    clear hz
    go_enter Tryd.func64, Tryd.ntmps64
    go_wp2
    refine wp_loop_rounds 1 ?_
    rw [rounds_succ]
    go_wp2
    go_ret
    exact ⟨by rw [HZ.out]; rfl, rfl⟩
set_option maxHeartbeats 400000 in
theorem trim_none (A : Option Addr) (c : Nat) (w : World) :
    Calls Tryd.prog 64 #[.slice A 0 c] w fun e w' => e = .returned (.slice A 0 c) ∧ w = w' := by
  go_enter Tryd.func64, Tryd.ntmps64
  go_wp2
  refine wp_loop_rounds 1 ?_
  rw [rounds_succ]
  go_wp2
  go_ret
  exact ⟨rfl, rfl⟩

set_option maxHeartbeats 400000 in
theorem natOf_any (n : Nat) (w : World) (hn : n < 4294967296) :
    Calls Tryd.prog 50 #[.int .u64 (n : Int)] w fun e w' => ∃ v, e = .returned v ∧ RN w' v n ∧ Below w.heap.size w w' := by
  have hn' : (n : Int) < 4294967296 := by omega
  go_enter Tryd.func50, Tryd.ntmps50
  have hd : (n : Int) / 4294967296 = 0 := by omega
  go_wp2_with fail
  refine (trim_two w.heap.size n _ hn ?_ ?_).mono ?_
  · exact (Blk.new w _ _).cell 0
  · rw [(Blk.new w _ _).cell 1]; first | rfl | (rw [hd]; rfl)
  rintro e w' ⟨rfl, rfl⟩
  clear hd
  go_wp2
  go_ret
  refine ⟨_, rfl, ⟨hn, ?_⟩, (Below.refl _ _).alloc (Nat.le_refl _) _⟩
  by_cases hz : n = 0
  · subst hz; exact .inl ⟨rfl, _, _, rfl⟩
  · refine .inr ⟨by omega, w.heap.size, 0, 2, ?_, by omega, by simp, (Blk.new w _ _).cell 0⟩
    show Value.slice (some ⟨w.heap.size, 0, none⟩) (ln n) 2 = _
    unfold ln; rw [if_neg hz]

/- The reference's Int: a sign and a number. -/
def riv (neg : Bool) (v : Value) : Value := .agg #[.bool neg, v]
theorem RN.len {w : World} {v : Value} {n : Nat} (h : RN w v n) : ∃ A c, v = .slice A (ln n) c := by
  obtain ⟨_, ⟨rfl, A, c, rfl⟩ | ⟨h2, b, o, c, rfl, _⟩⟩ := h
  · exact ⟨A, c, rfl⟩
  · exact ⟨_, c, by unfold ln; rw [if_neg (by omega)]⟩
theorem ln_pos (n : Nat) : decide ((0 : Int) < (ln n : Int)) = decide (0 < n) := by
  unfold ln; by_cases h : n = 0 <;> simp [h]; omega

set_option maxHeartbeats 400000 in
theorem i_any (neg : Bool) (v : Value) (n : Nat) (w : World) (hv : RN w v n) :
    Calls Tryd.prog 49 #[.bool neg, v] w fun e w' => e = .returned (.agg #[.bool (neg && decide (0 < n)), v]) ∧ Below w.heap.size w w' := by
  obtain ⟨A, c, rfl⟩ := hv.len
  have hl := ln_pos n
  generalize ln n = k at hl ⊢
  rw [← hl]
  clear hl hv
  cases neg
  all_goals
    go_enter Tryd.func49, Tryd.ntmps49
    go_wp2
    refine bodyPost_ret (v := _) (by simp [results, Tryd.results49, go_sem]; rfl) rfl ⟨?_, (Below.refl _ _).alloc (Nat.le_refl _) _⟩
    first | rfl | simp
end Go.Proofs.YtjohbgkdhppglaaDoor
