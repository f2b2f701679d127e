/-
  The statements' own 'times'.
-/
import Derived.Test.YtgmdpmhoedjcoaaC
import Derived.Test.YtgmdpmhoedjcoaaQ
namespace Go.Proofs.Ytgmdpmhoedjcoaa
open Go.RowKit

theorem IsRow.ints {w : World} {a : Option Addr} {len cap : Nat} {zs : List Int} (h : IsRow .i64 w a len cap zs) : IntsIn w w.heap.size a (zs.take len) ∧ (zs.take len).length = len := by
  rcases h with ⟨rfl, rfl, rfl, rfl⟩ | ⟨x, rfl, hb, hl, _, hz, hc, _⟩
  · exact ⟨⟨by simp, fun h => by simp at h⟩, rfl⟩
  · have hlen : (zs.take len).length = len := by simp; omega
    refine ⟨⟨by simp, fun hn => ⟨x, rfl, hb (by omega), fun j u hu => ?_⟩⟩, hlen⟩
    rw [List.getElem?_map] at hu
    by_cases hj : j < len
    · rw [List.getElem?_take_of_lt hj] at hu
      rw [hc j (by omega)]
      rw [show zs[j]? = some (zs.getD j 0) by simp [show j < zs.length by omega]] at hu
      simpa using hu
    · rw [List.getElem?_eq_none (by omega)] at hu
      simp at hu
theorem own_ints {w : World} {base : Nat} {v : Value} {xs : List Int} (h : w.ownsRow base 3 1 v xs.length (xs.map (Value.int .i64))) : ∃ A c, v = .slice A xs.length c ∧ IntsIn w w.heap.size A xs := by
  rcases h.2 with ⟨rfl, hn⟩ | ⟨g, cap, cur, rfl, _⟩
  · refine ⟨none, 0, by rw [hn], by simp, fun h => by omega⟩
  · exact ⟨_, _, rfl, Reads.of_own h⟩

theorem one_new (wd : World) (x : Value) (t : TypeId) : ∀ j u, [x][j]? = some u → (wd.alloc (.cells #[x] t)).cell? (Addr.add ⟨wd.heap.size, 0, none⟩ j) = some u := by
  intro j u h
  match j, h with
  | 0, h => rw [show Addr.add ⟨wd.heap.size, 0, none⟩ 0 = ⟨wd.heap.size, 0, none⟩ by rfl, (Blk.new wd t #[x]).cell]; simpa using h
theorem one_one (x : Int) : ∀ u ∈ [Value.int .i64 x], u.oneCell' = true := by
  intro u hu
  simp at hu
  subst hu; rfl

set_option maxHeartbeats 1000000 in
theorem times_any (A : Option Addr) (c : Nat) (xs : List Int) (odd : Int) (w : World) (hx : IntsIn w w.heap.size A xs) (hl : xs.length ≤ 9223372036854775807) :
    Calls Try.prog 7 #[.slice A xs.length c, .int .i64 odd] w fun e w' => ∃ v, e = .returned v ∧ w'.ownsRow w.heap.size 3 1 v (Pl.times xs odd).length ((Pl.times xs odd).map (Value.int .i64)) ∧ Below w.heap.size w w' := by
  have HX := Lib.hid hx
  clear hx
  obtain ⟨i0, hi0, hz0, hz1, hz2⟩ := info_parts Try.infoInt
  have HI := Lib.hid hi0
  have HZ0 := Lib.hid hz0
  have HZ1 := Lib.hid hz1
  have HZ2 := Lib.hid hz2
  clear hi0 hz0 hz1 hz2
  go_enter Try.func7, Try.ntmps7
  go_wp2
  go_loopw [5, 6, 7] (fun v now i wr => ∃ k : Nat, k ≤ xs.length ∧ k ≤ 40 ∧ i = .int .i64 k ∧ now = .int .i64 (Pl.T xs k) ∧ Hid (wr.ownsRow w.heap.size 3 1 v k ((Pl.tms xs k).map (Value.int .i64))) ∧ Below w.heap.size w wr) (fun _ _ i _ => xs.length - (intOf i).toNat)
  case atStart => exact ⟨0, Nat.zero_le _, Nat.zero_le _, rfl, rfl, World.ownsRow_nil _ _ _ _, Below.refl _ _⟩
  case round =>
    obtain ⟨k, hk, hk4, rfl, rfl, hown, hbel⟩ := hrel
    have hTb := Pl.T_bound xs k
    by_cases hgo : k < xs.length ∧ k < 40
    · obtain ⟨hlt, hlt4⟩ := hgo
      obtain ⟨ad, rfl, _, hc⟩ := IntsIn.at_ (Reads.below HX.out hbel) hlt
      have hT : Hid (Pl.T xs (k + 1) = Pl.T xs k + xs[k] % 6) := by show Pl.T xs k + xs.getD k 0 % 6 = _; rw [show xs.getD k 0 = xs[k] by simp [hlt]]
      have h1 := Int.emod_nonneg xs[k] (show (6 : Int) ≠ 0 by omega)
      have h2 := Int.emod_lt_of_pos xs[k] (show (0 : Int) < 6 by omega)
      have hsz := hbel.size
      go_wp2_with (first
        | (go_at_call 8; refine (pick_any _ _ _ (by omega) (by omega)).mono ?_; rintro e w' ⟨rfl, rfl⟩)
        | (at_builtin; refine wpList_append_own _ rfl _ _ 22 rfl w.heap.size 3 i0 _ 1 8 Try.underlying22 HI.out HZ0.out HZ1.out HZ2.out rfl (by decide) _ k _ rfl (hown.out.alloc _) ⟨wr.heap.size, 0, none⟩ 1 1 [.int .i64 (Pl.T xs k + xs[k] % 6)] rfl rfl (one_new _ _ _) (one_one _) (by unfold maxLen; omega) (by omega) (by simp; omega) ?_; intro v' w1 hown' hgrow _hn))
      have R : Hid (w1.ownsRow w.heap.size 3 1 v' (k + 1) ((Pl.tms xs (k + 1)).map (Value.int .i64))) := by
        show World.ownsRow _ _ _ _ _ _ _
        rw [Pl.tms_succ, List.map_append, hT.out]; exact hown'
      have hb1 : Below w.heap.size w w1 := (hbel.alloc hsz _).grown hgrow (by simp; omega) (fun j hj => (own_base hown.out hj).1)
      clear hown' hgrow _hn hown hbel
      go_wp2
      go_roundw
      case rel => exact ⟨k + 1, by omega, by omega, by go_num, by rw [hT.out], R, hb1⟩
      case measure => simp [intOf]; omega
    · have hkn : Hid (k = min xs.length 40) := by show _ = _; omega
      have hp1 := Int.emod_nonneg odd (show (8 : Int) ≠ 0 by omega)
      have hp2 := Int.emod_lt_of_pos odd (show (0 : Int) < 8 by omega)
      obtain ⟨n8, HN⟩ : ∃ n8, Hid (odd % 8 = n8) := ⟨_, rfl⟩
      have hn8 : 0 ≤ n8 ∧ n8 < 8 := by rw [HN.out] at hp1 hp2; exact ⟨hp1, hp2⟩
      clear hp1 hp2
      have hxe : ¬ k < xs.length ∨ (k < xs.length ∧ ¬ k < 40) := by omega
      by_cases hstore : n8 < 3 ∧ 0 < k
      · have htm : Hid (Pl.times xs odd = (Pl.tms xs k).set (k - 1) (Pl.oddOf n8)) := by
          show _ = _
          unfold Pl.times
          rw [HN.out, ← hkn.out, if_pos hstore]
        obtain ⟨hs1, hs2⟩ := hstore
        obtain ⟨g, cap, rfl, _, _⟩ := hown.out.form hs2
        have hcell : wr.cell? ⟨g, k - 1, none⟩ = some (.int .i64 (Pl.T xs k)) := by
          rw [hown.out.cellAt (k - 1) (by omega)]
          simp [Pl.tms, show k - 1 < k by omega, show k - 1 + 1 = k by omega]
        have hfz := hown.out.frozenAt (k - 1)
        have hk1 : (k : Int) - 1 = ((k - 1 : Nat) : Int) := by omega
        have hgb := (own_base hown.out (k := g) rfl).1
        have hr : Hid ((wr.setCell ⟨g, k - 1, none⟩ (.int .i64 (Pl.oddOf n8))).ownsRow w.heap.size 3 1 (.slice (some ⟨g, 0, none⟩) k cap) (Pl.times xs odd).length ((Pl.times xs odd).map (Value.int .i64))) := by
          show World.ownsRow _ _ _ _ _ _ _
          have := (hown.out.stored (k - 1) (.int .i64 (Pl.oddOf n8))).1
          rw [htm.out, List.map_set, List.length_set, Pl.tms_length]; exact this
        have hb1 : Below w.heap.size w (wr.setCell ⟨g, k - 1, none⟩ (.int .i64 (Pl.oddOf n8))) := hbel.setCell hgb _
        clear hown hbel
        have ix0 : ∀ w, (Instr.index 42 (.agg #[.int .i64 (-1), .int .i64 1073741824, .int .i64 1073741825]) (.int .i64 0)).run Try.prog w = .ok (.int .i64 (-1)) w := fun _ => by kernel_rfl
        have ix1 : ∀ w, (Instr.index 42 (.agg #[.int .i64 (-1), .int .i64 1073741824, .int .i64 1073741825]) (.int .i64 1)).run Try.prog w = .ok (.int .i64 1073741824) w := fun _ => by kernel_rfl
        have ix2 : ∀ w, (Instr.index 42 (.agg #[.int .i64 (-1), .int .i64 1073741824, .int .i64 1073741825]) (.int .i64 2)).run Try.prog w = .ok (.int .i64 1073741825) w := fun _ => by kernel_rfl
        rcases (show n8 = 0 ∨ n8 = 1 ∨ n8 = 2 by omega) with h | h | h
        all_goals
          subst h
          rcases hxe with hx1 | ⟨hx1, hx2⟩
          all_goals
            go_wp2_with (go_at_call 8; refine (pick_any _ _ _ (by omega) (by omega)).mono ?_; rintro e w' ⟨rfl, rfl⟩; rw [HN.out])
            go_ret
            exact ⟨_, rfl, hr.out, hb1⟩
      · have htm : Hid (Pl.times xs odd = Pl.tms xs k) := by
          show _ = _
          unfold Pl.times
          rw [HN.out, ← hkn.out, if_neg hstore]
        have hr : Hid (wr.ownsRow w.heap.size 3 1 u5 (Pl.times xs odd).length ((Pl.times xs odd).map (Value.int .i64))) := by
          show World.ownsRow _ _ _ _ _ _ _
          rw [htm.out, Pl.tms_length]; exact hown
        obtain ⟨A', c', rfl⟩ : ∃ A' c', u5 = .slice A' k c' := by
          rcases hown.out.2 with ⟨h, h'⟩ | ⟨g, cap, cur, h, _⟩
          · exact ⟨none, 0, by rw [h, h']⟩
          · exact ⟨_, _, h⟩
        clear hown
        rcases (show ¬ n8 < 3 ∨ (n8 < 3 ∧ ¬ 0 < k) by omega) with h | ⟨h, h'⟩
        all_goals
          clear hstore
          rcases hxe with hx1 | ⟨hx1, hx2⟩
          all_goals first
            | (exfalso; omega)
            | (go_wp2_with (go_at_call 8; refine (pick_any _ _ _ (by omega) (by omega)).mono ?_; rintro e w' ⟨rfl, rfl⟩; rw [HN.out])
               go_ret
               exact ⟨_, rfl, hr.out, hbel⟩)
end Go.Proofs.Ytgmdpmhoedjcoaa
