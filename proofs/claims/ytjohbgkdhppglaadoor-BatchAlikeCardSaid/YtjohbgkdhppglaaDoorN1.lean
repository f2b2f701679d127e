/-
  The reference's small numbers: IntOf, NatCmp, one, NatDiv.
-/
import Derived.Test.YtjohbgkdhppglaaDoorN0
namespace Go.Proofs.YtjohbgkdhppglaaDoor
open Go.RowKit

theorem or_zero (n : Nat) (h : n < 18446744073709551616) : bits .or .u64 0 (n : Int) = (n : Int) := by
  have := u64_or_nat 0 n (by omega) h
  simpa using this

def cmpN (n m : Nat) : Int := if n < m then -1 else if m < n then 1 else 0

set_option maxHeartbeats 400000 in
theorem natCmp_any (v1 v2 : Value) (n m : Nat) (w : World) (h1 : RN w v1 n) (h2 : RN w v2 m) :
    Calls Tryd.prog 61 #[v1, v2] w fun e w' => e = .returned (.int .i64 (cmpN n m)) ∧ ∃ q, w' = w.drewN q := by
  obtain ⟨hn, ⟨e0, A, c, rfl⟩ | ⟨hp, b, o, c, rfl, _, _, hc⟩⟩ := h1
  · obtain ⟨hm, ⟨e1, A', c', rfl⟩ | ⟨hp', b', o', c', rfl, _, _, hc'⟩⟩ := h2
    · have HC : Hid (cmpN n m = 0) := by subst e0 e1; rfl
      clear e0 e1
      go_enter Tryd.func61, Tryd.ntmps61
      go_wp2
      refine wp_loop_rounds 1 ?_
      rw [rounds_succ]
      go_wp2
      go_ret
      exact ⟨by rw [HC.out]; rfl, 0, rfl⟩
    · have HC : Hid (cmpN n m = -1) := by subst e0; show (if 0 < m then _ else _) = _; rw [if_pos hp']
      clear e0
      go_enter Tryd.func61, Tryd.ntmps61
      go_wp2
      go_ret
      exact ⟨by rw [HC.out]; rfl, 0, rfl⟩
  · obtain ⟨hm, ⟨e1, A', c', rfl⟩ | ⟨hp', b', o', c', rfl, _, _, hc'⟩⟩ := h2
    · have HC : Hid (cmpN n m = 1) := by subst e1; unfold cmpN; rw [if_neg (by omega), if_pos hp]; rfl
      clear e1
      go_enter Tryd.func61, Tryd.ntmps61
      go_wp2
      go_ret
      exact ⟨by rw [HC.out]; rfl, 0, rfl⟩
    · by_cases heq : n = m
      · subst heq
        have HC : Hid (cmpN n n = 0) := by unfold cmpN; simp [Hid]
        have hne : ((n : Int) != (n : Int)) = false := by simp
        go_enter Tryd.func61, Tryd.ntmps61
        go_wp2
        refine wp_loop_rounds 2 ?_
        rw [rounds_succ]
        go_wp2
        go_quiet (fail)
        go_wp2
        rw [rounds_succ]
        go_wp2
        go_ret
        exact ⟨by rw [HC.out]; rfl, _, rfl⟩
      · have hne : ((n : Int) != (m : Int)) = true := by simp; omega
        have HC : Hid (cmpN n m = if n < m then -1 else 1) := by
          unfold cmpN
          by_cases hlt : n < m
          · rw [if_pos hlt, if_pos hlt]; rfl
          · rw [if_neg hlt, if_neg hlt, if_pos (by omega)]; rfl
        by_cases hlt : n < m
        · have hd : decide (n < m) = true := decide_eq_true hlt
          have HC2 : Hid (cmpN n m = -1) := by rw [HC.out, if_pos hlt]; rfl
          clear HC heq
          go_enter Tryd.func61, Tryd.ntmps61
          go_wp2
          refine wp_loop_rounds 2 ?_
          rw [rounds_succ]
          go_wp2
          go_quiet (fail)
          go_wp2
          go_quiet (fail)
          go_wp2
          go_ret
          exact ⟨by rw [HC2.out]; rfl, _, World.drewN_drewN _ _ _⟩
        · have hd : decide (n < m) = false := decide_eq_false hlt
          have HC2 : Hid (cmpN n m = 1) := by rw [HC.out, if_neg hlt]; rfl
          clear HC heq
          go_enter Tryd.func61, Tryd.ntmps61
          go_wp2
          refine wp_loop_rounds 2 ?_
          rw [rounds_succ]
          go_wp2
          go_quiet (fail)
          go_wp2
          go_quiet (fail)
          go_wp2
          go_ret
          exact ⟨by rw [HC2.out]; rfl, _, World.drewN_drewN _ _ _⟩

theorem Tryd.infoU32 : (Tryd.prog.info? 89).map (fun i => (i.zero, i.size, i.bytes)) = some (some (.int .u32 0), 1, 4) := by kernel_rfl

set_option maxHeartbeats 400000 in
theorem one_any (v1 : Value) (n m : Nat) (w : World) (h1 : RN w v1 n) (hm : 0 < m) (hm2 : m < 4294967296) :
    Calls Tryd.prog 62 #[v1, .int .u32 (m : Int)] w fun e w' => ∃ v, e = .returned (.tuple #[v, .int .u32 ((n % m : Nat) : Int)]) ∧ RN w' v (n / m) ∧ Below w.heap.size w w' := by
  have hmk : ∀ W, (Instr.makeSlice 42 (.int .i64 1) (.int .i64 1)).run Tryd.prog W = .ok (.slice (some ⟨W.heap.size, 0, none⟩) 1 1) (W.alloc (.cells #[.int .u32 0] 89)) := fun W => by kernel_rfl
  have hmk0 : ∀ W, (Instr.makeSlice 42 (.int .i64 0) (.int .i64 0)).run Tryd.prog W = .ok (.slice (some ⟨W.heap.size, 0, none⟩) 0 0) (W.alloc (.cells #[] 89)) := fun W => by kernel_rfl
  obtain ⟨hn, ⟨e0, A, c, rfl⟩ | ⟨hp, b, o, c, rfl, _, hlt, hc⟩⟩ := h1
  · subst e0
    go_enter Tryd.func62, Tryd.ntmps62
    go_wp2
    refine wp_loop_rounds 1 ?_
    rw [rounds_succ]
    go_wp2_with fail
    refine (trim_none _ _ _).mono ?_
    rintro e w' ⟨rfl, rfl⟩
    go_wp2
    go_ret2
    exact ⟨.slice (some ⟨w.heap.size, 0, none⟩) 0 0, by simp, ⟨by simp, .inl ⟨by simp, _, _, rfl⟩⟩, (Below.refl _ _).alloc (Nat.le_refl _) _⟩
  · have hcw : ∀ o' : Obj, (w.alloc o').cell? ⟨b, o, none⟩ = some (.int .u32 (n : Int)) := fun o' => by rw [World.cell?_alloc_lt _ _ _ hlt]; exact hc
    have hn' : (n : Int) < 4294967296 := by omega
    have hmz : ((m : Int) == 0) = false := by simp; omega
    have hbo : bits .or .u64 0 (n : Int) = (n : Int) := or_zero n (by omega)
    have HDV : Hid ((n : Int) / (m : Int) = ((n / m : Nat) : Int)) := by simp [Hid]
    have HMV : Hid ((n : Int) % (m : Int) = ((n % m : Nat) : Int)) := by simp [Hid]
    have hd0 : 0 ≤ (n : Int) / (m : Int) := by rw [HDV.out]; exact Int.natCast_nonneg _
    have hd1 : (n : Int) / (m : Int) < 4294967296 := by rw [HDV.out]; exact Int.ofNat_lt.2 (Nat.lt_of_le_of_lt (Nat.div_le_self n m) hn)
    have hm0 : 0 ≤ (n : Int) % (m : Int) := by rw [HMV.out]; exact Int.natCast_nonneg _
    have hm1 : (n : Int) % (m : Int) < 4294967296 := by rw [HMV.out]; exact Int.ofNat_lt.2 (Nat.lt_trans (Nat.mod_lt n hm) hm2)
    go_enter Tryd.func62, Tryd.ntmps62
    go_wp2
    refine wp_loop_rounds 2 ?_
    rw [rounds_succ]
    go_wp2
    rw [rounds_succ]
    go_wp2_with fail
    refine (trim_one w.heap.size (n / m) _ (by have := Nat.div_le_self n m; omega) ?_).mono ?_
    · rw [(Blk.new w _ _).cell 0]; simp only [HDV.out]; rfl
    rintro e w' ⟨rfl, rfl⟩
    go_wp2
    go_ret2
    refine ⟨.slice (some ⟨w.heap.size, 0, none⟩) (ln (n / m)) 1, ?_, ⟨by have := Nat.div_le_self n m; omega, ?_⟩, (Below.refl _ _).alloc (Nat.le_refl _) _⟩
    · rw [← HMV.out]; rfl
    · by_cases hz : n / m = 0
      · exact .inl ⟨hz, _, _, by rw [hz]; rfl⟩
      · refine .inr ⟨by omega, w.heap.size, 0, 1, ?_, by omega, by simp, ?_⟩
        · unfold ln; rw [if_neg hz]
        · rw [(Blk.new w _ _).cell 0]; simp only [HDV.out]; rfl
end Go.Proofs.YtjohbgkdhppglaaDoor
