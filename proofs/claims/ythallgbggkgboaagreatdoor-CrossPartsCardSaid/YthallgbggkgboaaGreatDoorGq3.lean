/-
  R: a small fraction of a raw number.
-/
import Derived.Test.YthallgbggkgboaaGreatDoorGq2
import Derived.Test.YthallgbggkgboaaGreatDoorPi
namespace Go.Proofs.YthallgbggkgboaaGreatDoor.Gp
open Go Go.RowKit Ut

theorem pick_some (n m : Int) (w : World) (h0 : 0 < m) (h1 : m ≤ 4294967296) : Calls Tryz.prog 6 #[.int .i64 n, .int .i64 m] w fun e w' => ∃ r : Nat, (r : Int) < m ∧ e = .returned (.int .i64 (r : Int)) ∧ w = w' := by
  refine (pick_any n m w h0 h1).mono ?_
  rintro e w' ⟨rfl, rfl⟩
  have h2 := Int.emod_nonneg n (by omega : m ≠ 0)
  have h3 := Int.emod_lt_of_pos n h0
  exact ⟨(n % m).toNat, by omega, by rw [Int.toNat_of_nonneg h2], rfl⟩
theorem cell_of_block {w : World} {g i : Nat} {v : Value} {l : Array Value} {t : TypeId} {fr : Nat × Nat} (h : w.heap[g]? = some (.cells l t fr)) (hv : l[i]? = some v) : w.cell? ⟨g, i, none⟩ = some v := by
  unfold World.cell?; simp [h, hv]
theorem over_some {n d : Int} (w : World) (h1 : -20 ≤ n) (h2 : n ≤ 20) (h3 : 1 ≤ d) (h4 : d ≤ 4) : Calls Tryz.prog 48 #[.int .i64 n, .int .i64 d] w fun e w' => ∃ (t : Pt) (u : Value), e = .returned u ∧ isPat t = true ∧ FracAt w' t u ∧ Below w.heap.size w w' := by
  obtain ⟨k, rfl⟩ := Int.eq_ofNat_of_zero_le (show 0 ≤ d by omega)
  refine (over_any w h1 h2 (by omega) (by omega)).mono ?_
  rintro e w' ⟨u, rfl, hu, hb⟩
  exact ⟨_, u, rfl, pat_in h1 h2 (by omega) (by omega), hu, hb⟩
theorem ix0 (W : World) : (Instr.index 131 (.agg #[.int .i64 1, .int .i64 1, .int .i64 1, .int .i64 2, .int .i64 3, .int .i64 4]) (.int .i64 0)).run Tryz.prog W = .ok (.int .i64 1) W := by kernel_rfl
theorem ix1 (W : World) : (Instr.index 131 (.agg #[.int .i64 1, .int .i64 1, .int .i64 1, .int .i64 2, .int .i64 3, .int .i64 4]) (.int .i64 1)).run Tryz.prog W = .ok (.int .i64 1) W := by kernel_rfl
theorem ix2 (W : World) : (Instr.index 131 (.agg #[.int .i64 1, .int .i64 1, .int .i64 1, .int .i64 2, .int .i64 3, .int .i64 4]) (.int .i64 2)).run Tryz.prog W = .ok (.int .i64 1) W := by kernel_rfl
theorem ix3 (W : World) : (Instr.index 131 (.agg #[.int .i64 1, .int .i64 1, .int .i64 1, .int .i64 2, .int .i64 3, .int .i64 4]) (.int .i64 3)).run Tryz.prog W = .ok (.int .i64 2) W := by kernel_rfl
theorem ix4 (W : World) : (Instr.index 131 (.agg #[.int .i64 1, .int .i64 1, .int .i64 1, .int .i64 2, .int .i64 3, .int .i64 4]) (.int .i64 4)).run Tryz.prog W = .ok (.int .i64 3) W := by kernel_rfl
theorem ix5 (W : World) : (Instr.index 131 (.agg #[.int .i64 1, .int .i64 1, .int .i64 1, .int .i64 2, .int .i64 3, .int .i64 4]) (.int .i64 5)).run Tryz.prog W = .ok (.int .i64 4) W := by kernel_rfl
theorem FracAt.form {w : World} {t : Pt} {v : Value} (h : FracAt w t v) : ∃ A n c A' n' c', v = .agg #[.bool t.neg, .slice A n c, .slice A' n' c'] := by
  obtain ⟨sA, sD, g, g', rfl, h1, _, ⟨d, m, cs, fr, rfl, _⟩⟩ := h
  split at h1
  · obtain ⟨_, rfl⟩ := h1
    exact ⟨_, _, _, _, _, _, rfl⟩
  · obtain ⟨_, d, m, cs, fr, rfl, _⟩ := h1
    exact ⟨_, _, _, _, _, _, rfl⟩
theorem results_row {P : Program} {fn : Func} {t : Tmp} {ty t' : TypeId} (h : fn.results = #[.cell t ty]) (tmps : Array Value) (w : World) (g : Nat) (cs : Array Value) (fr : Nat × Nat) (d : TypeDesc) (hp : tmps.getD t undef = .pointer (some ⟨g, 0, none⟩))
    (hg : w.heap[g]? = some (.cells cs t' fr)) (hu : P.underlying ty = some d) (hd : (match d with | .struct _ | .array _ _ => true | _ => false) = true) (hi : (P.info? ty).map (·.size) = some cs.size) : (results fn tmps).run P w = .ok (.agg cs) w := by
  have := run_loadVar_row w g t' ty cs fr d hg hu hd hi
  have ha : (asAddr (.pointer (some ⟨g, 0, none⟩))).run P w = .ok ⟨g, 0, none⟩ w := rfl
  have hp' : tmps[t]?.getD undef = .pointer (some ⟨g, 0, none⟩) := by simpa using hp
  simp [results, h, hp', ha, this, Sem.run_bind]
theorem infoRQ : (Tryz.prog.info? 57).map (·.size) = some 3 := by kernel_rfl
theorem six {r : Nat} (h : (r : Int) < 6) : r = 0 ∨ r = 1 ∨ r = 2 ∨ r = 3 ∨ r = 4 ∨ r = 5 := by omega
set_option maxHeartbeats 1000000 in
set_option maxRecDepth 100000 in
theorem r_any (n : Int) (w : World) : Calls Tryz.prog 28 #[.int .i64 n] w fun e w' => ∃ (t : Pt) (u : Value), e = .returned u ∧ isPat t = true ∧ FracAt w' t u ∧ Below w.heap.size w w' := by
  go_enter Tryz.func28, Tryz.ntmps28
  go_wp2_with (go_at_call 6; refine (pick_some _ _ _ (by omega) (by omega)).mono ?_; rintro e w1 ⟨r, hr, rfl, rfl⟩; try rcases six hr with rfl | rfl | rfl | rfl | rfl | rfl)
  all_goals first | rw [ix0] | rw [ix1] | rw [ix2] | rw [ix3] | rw [ix4] | rw [ix5]
  all_goals go_wp2_with (go_at_call 48; refine (over_some _ (by first | omega | (rw [IntKind.wrap_i64]; omega)) (by first | omega | (rw [IntKind.wrap_i64]; omega)) (by omega) (by omega)).mono ?_; rintro e w2 ⟨t, u, rfl, ht, hu, hb⟩; obtain ⟨A, nA, cA, A', nA', cA', rfl⟩ := hu.form; have hk : Blk w2 w.heap.size 57 #[.bool false, .slice none 0 0, .slice none 0 0] := (hb.block w.heap.size (by simp)).trans (Blk.new w _ _); have f0 := hk.frozen 0; have c0 := hk.cell 0; have c1 := hk.cell 1; have c2 := hk.cell 2; have f1 := hk.frozen 1; have f2 := hk.frozen 2; simp only [List.getElem?_toArray, List.getElem?_cons_zero, List.getElem?_cons_succ] at c0 c1 c2)
  all_goals
    have k1 := hk.set_ 0 (.bool t.neg)
    have k2 := k1.set_ 1 (.slice A nA cA)
    have hD : Digs w2 (((w2.setCell ⟨w.heap.size, 0, none⟩ (.bool t.neg)).setCell ⟨w.heap.size, 1, none⟩ (.slice A nA cA)).setCell ⟨w.heap.size, 2, none⟩ (.slice A' nA' cA')) := ((Digs.setCell hk (by decide) _).trans (Digs.setCell k1 (by decide) _)).trans (Digs.setCell k2 (by decide) _)
    have hB : Below w.heap.size w (((w2.setCell ⟨w.heap.size, 0, none⟩ (.bool t.neg)).setCell ⟨w.heap.size, 1, none⟩ (.slice A nA cA)).setCell ⟨w.heap.size, 2, none⟩ (.slice A' nA' cA')) := (((((Below.refl _ _).alloc (Nat.le_refl _) _).trans (hb.mono (by simp))).setCell (Nat.le_refl _) _).setCell (Nat.le_refl _) _).setCell (Nat.le_refl _) _
    exact bodyPost_ret (results_row rfl _ _ w.heap.size _ _ _ rfl (k2.set_ 2 (.slice A' nA' cA')) Tryz.underlying57 rfl infoRQ) rfl ⟨t, _, rfl, ht, hu.keep hD, hB⟩
end Go.Proofs.YthallgbggkgboaaGreatDoor.Gp
