/-
  sheet.Check: its walk.
-/
import Derived.Test.YthallgbggkgboaaGreatDoorGpc
namespace Go.Proofs.YthallgbggkgboaaGreatDoor.Gp
open Go Go.RowKit Ut

theorem col_step {w : World} {g c b : Nat} {ru : Value} {cs : List CI} {gs : List (List PC × Value)} (h : SheetOk w (.slice (some ⟨g, 0, none⟩) cs.length c) ru cs b gs) {i : Nat} (hi : i < cs.length) :
    ∃ nm kd A k, kd ≤ 5 ∧ w.cell? ⟨g, i * 3, none⟩ = some (.string nm) ∧ w.cell? ⟨g, i * 3 + 1, none⟩ = some (.int .i64 (kindOf kd)) ∧ w.cell? ⟨g, i * 3 + 2, none⟩ = some (.slice A kd k) ∧ g < w.heap.size ∧ cs[i].kd = kd ∧ (∀ c' W, Below w.heap.size w W → Calls Tryz.prog 29 #[.slice (some ⟨g, 0, none⟩) i c', .agg #[.string nm, .int .i64 (kindOf kd), .slice A kd k]] W fun e w' => e = .returned (.int .i64 0) ∧ Below W.heap.size W w') := by
  obtain ⟨g', hg', hg, q0, q1, q2⟩ := h.cols.at_ hi
  have e : g = g' := by injection hg' with hg'; injection hg'
  subst e
  obtain ⟨hk, hof⟩ := h.cols.2 _ (List.getElem_mem hi)
  have hn := names_in (Nat.lt_of_lt_of_le hi h.c6) (h.nms i hi)
  have hne : ∀ (j : Nat) (hj : j < cs.length), j < i → (cs[j].nm.toList == cs[i].nm.toList) = false := fun j hj hji => gN_ne h.nms hi h.c6 hj hji
  obtain ⟨A, k, hwd⟩ := CI.wd_form hof
  have h6 := h.c6
  refine ⟨cs[i].nm, cs[i].kd, A, k, hk, q0, q1, by rw [← hwd]; exact q2, hg, rfl, fun c' W hW => ?_⟩
  rw [← hwd]
  exact checkcol_any _ c c' i cs cs[i].nm cs[i].kd cs[i].wd W (h.cols.below hW) (Nat.le_of_lt hi) (by omega) hk (hof.below hW) hn hne
theorem row_step {w : World} {A2 : Option Addr} {c2 b : Nat} {cu : Value} {cs : List CI} {gs : List (List PC × Value)} (h : SheetOk w cu (.slice A2 gs.length c2) cs b gs) {j : Nat} (hj : j < gs.length) :
    ∃ g2 A5 k5, A2 = some ⟨g2, 0, none⟩ ∧ w.cell? ⟨g2, j, none⟩ = some (.slice A5 cs.length k5) ∧ ∀ W, Below w.heap.size w W → ∀ i (hi : i < cs.length), ∃ g5 pc, A5 = some ⟨g5, 0, none⟩ ∧ gs[j].1[i]? = some pc ∧ pcOk cs[i].kd pc ∧ W.cell? ⟨g5, i * 7, none⟩ = some (.bool pc.lk) ∧ W.cell? ⟨g5, i * 7 + 1, none⟩ = some (.bool pc.neg) ∧ W.cell? ⟨g5, i * 7 + 2, none⟩ = some (.int .u64 pc.n) ∧ W.cell? ⟨g5, i * 7 + 3, none⟩ = some (.string pc.s) ∧ W.cell? ⟨g5, i * 7 + 4, none⟩ = some (.int .u64 pc.d) ∧ W.cell? ⟨g5, i * 7 + 5, none⟩ = some (.string pc.s') ∧ W.cell? ⟨g5, i * 7 + 6, none⟩ = some (.int .i64 pc.wd) := by
  obtain ⟨g2, e2, _, hc⟩ := h.rows.at_ hj
  obtain ⟨b5, hr⟩ := h.rows.2 _ (List.getElem_mem hj)
  obtain ⟨hl, hf⟩ := h.fit _ (List.getElem_mem hj)
  rw [List.length_map] at hl
  obtain ⟨A5, k5, e5⟩ := hr.len
  rw [hl] at e5
  refine ⟨g2, A5, k5, e2, by rw [← e5]; exact hc, fun W hW i hi => ?_⟩
  have hr' := hr.below hW
  rw [e5] at hr'
  have hi' : i < gs[j].1.length := by omega
  obtain ⟨g5, e6, _, q⟩ := hr'.at_ hi'
  refine ⟨g5, gs[j].1[i], e6, List.getElem?_eq_getElem hi', ?_, q⟩
  have := hf i hi' (by rw [List.length_map]; exact hi)
  rw [List.getElem_map] at this
  exact this
set_option maxHeartbeats 4000000 in
set_option maxRecDepth 100000 in
theorem check_any (cu ru : Value) (cs : List CI) (b : Nat) (gs : List (List PC × Value)) (w : World) (h : SheetOk w cu ru cs b gs) :
    Calls Tryz.prog 15 #[.agg #[cu, ru]] w fun e w' => e = .returned (.int .i64 0) ∧ Below w.heap.size w w' := by
  obtain ⟨g, c, A2, c2, rfl, rfl, hcc⟩ := h.form
  have H := Lib.hid h
  have h1 := h.c1
  have h6 := h.c6
  have h12 := h.r12
  have HBOX : Hid (∀ W, Below (w.heap.size + 1) (w.alloc (.cells #[.slice (some ⟨g, 0, none⟩) cs.length c, .slice A2 gs.length c2] 29)) W → (W.cell? ⟨w.heap.size, 0, none⟩ = some (.slice (some ⟨g, 0, none⟩) cs.length c) ∧ W.cell? ⟨w.heap.size, 1, none⟩ = some (.slice A2 gs.length c2)) ∧ Below w.heap.size w W ∧ w.heap.size + 1 ≤ W.heap.size) := fun W h => by
    have hk := (h.block w.heap.size (by omega)).trans (Blk.new w _ _)
    exact ⟨⟨Blk.cell hk 0, Blk.cell hk 1⟩, ((Below.refl _ _).alloc (Nat.le_refl _) _).trans (h.mono (by omega)), by have := h.size; rwa [World.size_alloc] at this⟩
  clear h
  go_enter Tryz.func15, Tryz.ntmps15
  have d1 : ¬ ((cs.length : Int) < 1) := by omega
  have d2 : ¬ ((20 : Int) < (cs.length : Int)) := by omega
  have d3 : decide ((cs.length : Int) < 1) = false := by simp; omega
  have d4 : decide ((20 : Int) < (cs.length : Int)) = false := by simp; omega
  go_wp2
  clear d1 d2 d3 d4
  go_loopw [23] (fun iv wr => ∃ i : Nat, i ≤ cs.length ∧ iv = .int .i64 i ∧ Hid (Below (w.heap.size + 1) (w.alloc (.cells #[.slice (some ⟨g, 0, none⟩) cs.length c, .slice A2 gs.length c2] 29)) wr)) (fun iv _ => cs.length - (intOf iv).toNat)
  case atStart => exact ⟨0, Nat.zero_le _, rfl, Below.refl _ _⟩
  case round =>
    obtain ⟨i, hi, rfl, hbel⟩ := hrel
    obtain ⟨⟨r0, r1⟩, hrw, hsz⟩ := HBOX.out _ hbel.out
    by_cases hgo : i < cs.length
    · obtain ⟨nm, kd, A3, k3, hk5, q0, q1, q2, hg, _, hcall⟩ := col_step (H.out.below hrw) hgo
      have HCALL := Lib.hid hcall
      have hic : i ≤ c := by omega
      have ha : ∀ o, (wr.alloc o).cell? ⟨w.heap.size, 0, none⟩ = some (.slice (some ⟨g, 0, none⟩) cs.length c) := fun o => (World.cell?_alloc_lt wr o _ (by show w.heap.size < _; omega)).trans r0
      clear hcall
      go_wp2
      go_region_held3 (fun w' => w'.cell? ⟨w.heap.size, 0, none⟩ = some (.slice (some ⟨g, 0, none⟩) cs.length c) ∧ w'.cell? ⟨wr.heap.size, 0, none⟩ = some (.string nm) ∧ w'.cell? ⟨wr.heap.size, 1, none⟩ = some (.int .i64 (kindOf kd)) ∧ w'.cell? ⟨wr.heap.size, 2, none⟩ = some (.slice A3 kd k3)) (simp [*])
        (first | (go_at_call 29; refine (HCALL.out _ _ (((Below.refl _ _).alloc (Nat.le_refl _) _).drew)).mono ?_; rintro e w2 ⟨rfl, hb2⟩; have HB2 : Below wr.heap.size wr w2 := (((Below.refl _ _).alloc (Nat.le_refl _) _).drew).trans (hb2.mono (by simp [World.size_drew])); have y0 : w2.cell? ⟨w.heap.size, 0, none⟩ = some (.slice (some ⟨g, 0, none⟩) cs.length c) := (HB2.cell (p := ⟨w.heap.size, 0, none⟩) (by show w.heap.size < _; omega)).trans r0; have hk : Blk w2 wr.heap.size 39 #[.string nm, .int .i64 (kindOf kd), .slice A3 kd k3] := (hb2.block wr.heap.size (by simp [World.size_drew])).trans (Blk.new wr _ _); have z0 := hk.cell 0; have z1 := hk.cell 1; have z2 := hk.cell 2; simp only [List.getElem?_toArray, List.getElem?_cons_zero, List.getElem?_cons_succ] at z0 z1 z2))
      all_goals go_wp2
      exact ⟨⟨i + 1, by omega, by go_num, hbel.out.trans (HB2.mono hsz)⟩, by simp [intOf]; omega⟩
    · have hgl : ¬ ((300 : Int) < (gs.length : Int)) := by omega
      have hgl2 : decide ((300 : Int) < (gs.length : Int)) = false := by simp; omega
      go_wp2
      clear hgl hgl2
      generalize wr = wx at *
      go_loopw [45] (fun iv wr => ∃ j : Nat, j ≤ gs.length ∧ iv = .int .i64 j ∧ Hid (Below (w.heap.size + 1) (w.alloc (.cells #[.slice (some ⟨g, 0, none⟩) cs.length c, .slice A2 gs.length c2] 29)) wr)) (fun iv _ => gs.length - (intOf iv).toNat)
      case atStart => exact ⟨0, Nat.zero_le _, rfl, hbel⟩
      case round =>
        obtain ⟨j, hj, rfl, hbel⟩ := hrel
        obtain ⟨⟨r0, r1⟩, hrw, hsz⟩ := HBOX.out _ hbel.out
        by_cases hgo : j < gs.length
        · obtain ⟨g2, A5, k5, rfl, q0, hrow⟩ := row_step (H.out.below hrw) hgo
          have HROW := Lib.hid hrow
          clear hrow
          go_wp2
          generalize wr = wy at *
          go_loopw [57] (fun iv wr => ∃ k : Nat, k ≤ cs.length ∧ iv = .int .i64 k ∧ Hid (Below wy.heap.size wy wr)) (fun iv _ => cs.length - (intOf iv).toNat)
          case atStart => exact ⟨0, Nat.zero_le _, rfl, Below.refl _ _⟩
          case round =>
            obtain ⟨k, hk, rfl, hby⟩ := hrel
            have hszy := hby.out.size
            have x0 : wr.cell? ⟨w.heap.size, 0, none⟩ = some (.slice (some ⟨g, 0, none⟩) cs.length c) := (hby.out.cell (p := ⟨w.heap.size, 0, none⟩) (by show w.heap.size < _; omega)).trans r0
            by_cases hgk : k < cs.length
            · obtain ⟨nm, kd, A3, k3, hk5, p0, p1, p2, hg, hkd, _⟩ := col_step (H.out.below (hrw.trans (hby.out.mono hrw.size))) hgk
              obtain ⟨g5, pc, rfl, _, hpc, z0, z1, z2, z3, z4, z5, z6⟩ := HROW.out wr hby.out k hgk
              have HCALL : Hid (∀ W, Calls Tryz.prog _ _ W _) := Lib.hid (fun W => right_any nm kd A3 k3 pc W hk5 (by rw [← hkd]; exact hpc))
              unfold colV cellV at HCALL
              have hgw : w.heap.size < wr.heap.size := by omega
              have ha : ∀ o i, (wr.alloc o).cell? ⟨w.heap.size, i, none⟩ = wr.cell? ⟨w.heap.size, i, none⟩ := fun o i => World.cell?_alloc_lt wr o _ hgw
              have hb : ∀ o i, (wr.alloc o).cell? ⟨g, i, none⟩ = wr.cell? ⟨g, i, none⟩ := fun o i => World.cell?_alloc_lt wr o _ hg
              clear hpc hkd
              go_wp2
              go_region_held3 (fun w' => w'.cell? ⟨w.heap.size, 0, none⟩ = some (.slice (some ⟨g, 0, none⟩) cs.length c) ∧ w'.cell? ⟨g, k * 3, none⟩ = some (.string nm) ∧ w'.cell? ⟨g, k * 3 + 1, none⟩ = some (.int .i64 (kindOf kd)) ∧ w'.cell? ⟨g, k * 3 + 2, none⟩ = some (.slice A3 kd k3) ∧ w'.cell? ⟨wr.heap.size, 0, none⟩ = some (.bool pc.lk) ∧ w'.cell? ⟨wr.heap.size, 1, none⟩ = some (.bool pc.neg) ∧ w'.cell? ⟨wr.heap.size, 2, none⟩ = some (.int .u64 pc.n) ∧ w'.cell? ⟨wr.heap.size, 3, none⟩ = some (.string pc.s) ∧ w'.cell? ⟨wr.heap.size, 4, none⟩ = some (.int .u64 pc.d) ∧ w'.cell? ⟨wr.heap.size, 5, none⟩ = some (.string pc.s') ∧ w'.cell? ⟨wr.heap.size, 6, none⟩ = some (.int .i64 pc.wd)) (simp [*])
                (first | (go_at_call 30; refine (HCALL.out _).mono ?_; rintro e w2 ⟨rfl, hb2⟩; have HB2 : Below wr.heap.size wr w2 := (((Below.refl _ _).alloc (Nat.le_refl _) _).drew).trans (hb2.mono (by simp [World.size_drew])); have y0 : w2.cell? ⟨w.heap.size, 0, none⟩ = some (.slice (some ⟨g, 0, none⟩) cs.length c) := (HB2.cell (p := ⟨w.heap.size, 0, none⟩) hgw).trans x0; have y1 : w2.cell? ⟨g, k * 3, none⟩ = some (.string nm) := (HB2.cell (p := ⟨g, k * 3, none⟩) hg).trans p0; have y2 : w2.cell? ⟨g, k * 3 + 1, none⟩ = some (.int .i64 (kindOf kd)) := (HB2.cell (p := ⟨g, k * 3 + 1, none⟩) hg).trans p1; have y3 : w2.cell? ⟨g, k * 3 + 2, none⟩ = some (.slice A3 kd k3) := (HB2.cell (p := ⟨g, k * 3 + 2, none⟩) hg).trans p2; have hk2 : Blk w2 wr.heap.size 102 #[.bool pc.lk, .bool pc.neg, .int .u64 pc.n, .string pc.s, .int .u64 pc.d, .string pc.s', .int .i64 pc.wd] := (hb2.block wr.heap.size (by simp [World.size_drew])).trans (Blk.new wr _ _); have v0 := hk2.cell 0; have v1 := hk2.cell 1; have v2 := hk2.cell 2; have v3 := hk2.cell 3; have v4 := hk2.cell 4; have v5 := hk2.cell 5; have v6 := hk2.cell 6; simp only [List.getElem?_toArray, List.getElem?_cons_zero, List.getElem?_cons_succ] at v0 v1 v2 v3 v4 v5 v6))
              all_goals go_wp2
              exact ⟨⟨k + 1, by omega, by go_num, hby.out.trans (HB2.mono hszy)⟩, by simp [intOf]; omega⟩
            · go_wp2
              exact ⟨⟨j + 1, by omega, by go_num, hbel.out.trans (hby.out.mono hsz)⟩, by simp [intOf]; omega⟩
        · go_wp2
          go_ret
          exact ⟨rfl, hrw⟩
end Go.Proofs.YthallgbggkgboaaGreatDoor.Gp
