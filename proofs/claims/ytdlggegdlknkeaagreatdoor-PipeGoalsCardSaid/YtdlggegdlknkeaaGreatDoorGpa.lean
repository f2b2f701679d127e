/-
  sheet.Check: a column.
-/
import Derived.Test.YtdlggegdlknkeaaGreatDoorGp9
namespace Go.Proofs.YtdlggegdlknkeaaGreatDoor.Gp
open Go Go.RowKit Ut

theorem words_at {w : World} {kd k j : Nat} {A : Option Addr} {wd : Value} (h : ofKind kd w wd) (e : wd = .slice A kd k) (hj : j < kd) : ∃ g nm, A = some ⟨g, 0, none⟩ ∧ g < w.heap.size ∧ w.cell? ⟨g, j, none⟩ = some (.string nm) ∧ nm ∈ allNames := by
  unfold ofKind at h
  rw [if_neg (by omega)] at h
  obtain ⟨base, h⟩ := h
  subst e
  obtain ⟨g, rfl, _, hg, hc⟩ := own_cell h (by omega)
  have hl : ((wds.take kd).map sv).length = kd * 1 := h.1
  have hj' : j < (wds.take kd).length := by simpa using (show j < ((wds.take kd).map sv).length by omega)
  refine ⟨g, ⟨⟨(wds.take kd)[j]⟩⟩, rfl, hg, hc j _ ?_, ?_⟩
  · rw [List.getElem?_map, List.getElem?_eq_getElem hj']; rfl
  · refine List.mem_append_right _ (List.mem_map.2 ⟨_, List.mem_of_mem_take (List.getElem_mem hj'), rfl⟩)
set_option maxHeartbeats 4000000 in
set_option maxRecDepth 100000 in
theorem checkcol_any (A : Option Addr) (c c' i : Nat) (cs : List CI) (nm : ByteArray) (kd : Nat) (wd : Value) (w : World) (hc : ColsAt w (.slice A cs.length c) cs) (hi : i ≤ cs.length) (hi6 : i ≤ 6) (hkd : kd ≤ 5) (hwd : ofKind kd w wd) (hnm : nm ∈ allNames) (hne : ∀ (j : Nat) (h : j < cs.length), j < i → (cs[j].nm.toList == nm.toList) = false) :
    Calls Tryz.prog 32 #[.slice A i c', .agg #[.string nm, .int .i64 (kindOf kd), wd]] w fun e w' => e = .returned (.int .i64 0) ∧ Below w.heap.size w w' := by
  obtain ⟨A2, k2, rfl⟩ : ∃ A k, wd = .slice A kd k := CI.wd_form (c := ⟨nm, kd, wd⟩) hwd
  have HBOX : Hid (∀ W, Below (w.heap.size + 1) (w.alloc (.cells #[.string nm, .int .i64 (kindOf kd), .slice A2 kd k2] 64)) W → (W.cell? ⟨w.heap.size, 0, none⟩ = some (.string nm) ∧ W.cell? ⟨w.heap.size, 1, none⟩ = some (.int .i64 (kindOf kd)) ∧ W.cell? ⟨w.heap.size, 2, none⟩ = some (.slice A2 kd k2)) ∧ Below w.heap.size w W) := fun W h => by
    have hk := (h.block w.heap.size (by omega)).trans (Blk.new w _ _)
    exact ⟨⟨Blk.cell hk 0, Blk.cell hk 1, Blk.cell hk 2⟩, ((Below.refl _ _).alloc (Nat.le_refl _) _).trans (h.mono (by omega))⟩
  have HNAMED : Hid (∀ W, Below w.heap.size w W → Calls Tryz.prog _ _ W _) := Lib.hid (fun W h => named_any A c c' i cs nm W (hc.below h) hi hi6 hne)
  have HTW : Hid (∀ W, Below w.heap.size w W → Calls Tryz.prog _ _ W _) := Lib.hid (fun W h => twice_any hkd W (hwd.below h))
  have HWD := Lib.hid hwd
  have HNM := Lib.hid hnm
  clear hc hne hwd hnm
  go_enter Tryz.func32, Tryz.ntmps32
  go_wp2_with (go_at_call 67; refine (isname_any HNM.out _).mono ?_; rintro e w2 ⟨rfl, hb2⟩; rw [World.size_alloc] at hb2; obtain ⟨⟨b0, b1, b2⟩, hbw⟩ := HBOX.out _ hb2)
  go_loopw [14] (fun iv wr => ∃ j : Nat, j ≤ kd ∧ iv = .int .i64 j ∧ Hid (Below (w.heap.size + 1) (w.alloc (.cells #[.string nm, .int .i64 (kindOf kd), .slice A2 kd k2] 64)) wr)) (fun iv _ => kd - (intOf iv).toNat)
  case atStart => exact ⟨0, Nat.zero_le _, rfl, hb2⟩
  case round =>
    obtain ⟨j, hj, rfl, hbel⟩ := hrel
    obtain ⟨⟨r0, r1, r2⟩, hrw⟩ := HBOX.out _ hbel.out
    have hsz1 : w.heap.size + 1 ≤ wr.heap.size := by have := hbel.out.size; rwa [World.size_alloc] at this
    by_cases hgo : j < kd
    · obtain ⟨g, wn, rfl, hg, q0, hwn⟩ := words_at (HWD.out.below hrw) rfl hgo
      go_wp2_with (go_at_call 67; refine (isname_any hwn _).mono ?_; rintro e w3 ⟨rfl, hb3⟩)
      exact ⟨⟨j + 1, by omega, by go_num, hbel.out.trans (hb3.mono hsz1)⟩, by simp [intOf]; omega⟩
    · have hsr := hrw.size
      rcases (show kd = 0 ∨ kd = 1 ∨ kd = 2 ∨ kd = 3 ∨ kd = 4 ∨ kd = 5 by omega) with rfl | rfl | rfl | rfl | rfl | rfl
      · have r1' : wr.cell? ⟨w.heap.size, 1, none⟩ = some (.int .i64 1) := r1
        clear r1
        go_wp2_with (first
          | (go_at_call 68; refine (HNAMED.out _ hrw).mono ?_; rintro e w3 ⟨rfl, hb3⟩; have hw3 := hrw.trans (hb3.mono hsr); obtain ⟨⟨s0, s1, s2⟩, hw3'⟩ := HBOX.out _ (hbel.out.trans (hb3.mono hsz1)))
          | (go_at_call 69; refine (HTW.out _ hw3).mono ?_; rintro e w4 ⟨rfl, hb4⟩))
        go_ret
        exact ⟨rfl, hw3.trans (hb4.mono hw3.size)⟩
      all_goals
        have r1' : wr.cell? ⟨w.heap.size, 1, none⟩ = some (.int .i64 2) := r1
        clear r1
        go_wp2_with (first
          | (go_at_call 68; refine (HNAMED.out _ hrw).mono ?_; rintro e w3 ⟨rfl, hb3⟩; have hw3 := hrw.trans (hb3.mono hsr); obtain ⟨⟨s0, s1, s2⟩, hw3'⟩ := HBOX.out _ (hbel.out.trans (hb3.mono hsz1)))
          | (go_at_call 69; refine (HTW.out _ hw3).mono ?_; rintro e w4 ⟨rfl, hb4⟩))
        go_ret
        exact ⟨rfl, hw3.trans (hb4.mono hw3.size)⟩
end Go.Proofs.YtdlggegdlknkeaaGreatDoor.Gp
