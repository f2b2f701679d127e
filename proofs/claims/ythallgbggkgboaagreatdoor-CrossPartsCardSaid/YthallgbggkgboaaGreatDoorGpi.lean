/-
  The document's Of.
-/
import Derived.Test.YthallgbggkgboaaGreatDoorGph
namespace Go.Proofs.YthallgbggkgboaaGreatDoor.Gp
open Go Go.RowKit Ut

set_option maxHeartbeats 4000000 in
set_option maxRecDepth 100000 in
theorem of_goal_any (cu ru : Value) (cs : List CI) (b : Nat) (gs : List (List PC × Value)) (col : Int) (w : World) (h : SheetOk w cu ru cs b gs) :
    Calls Tryz.prog 38 #[.agg #[cu, ru], .int .i64 col] w fun e w' => GoalOut (goalD cs gs col) w e w' := by
  have HCHK : Hid (∀ o o', Calls Tryz.prog _ _ ((w.alloc o).alloc o') _) := Lib.hid (fun o o' => check_any _ _ cs b gs ((w.alloc o).alloc o') (h.below (((Below.refl _ _).alloc (Nat.le_refl _) o).alloc (by simp) o')))
  obtain ⟨g, c, A2, c2, rfl, rfl, hcc⟩ := h.form
  have H := Lib.hid h
  have h6 := h.c6
  have h12 := h.r12
  have HBOX : Hid (∀ W, Below (w.heap.size + 2) ((w.alloc (.cells #[.slice (some ⟨g, 0, none⟩) cs.length c, .slice A2 gs.length c2] 29)).alloc (.cells gz 67)) W → (W.cell? ⟨w.heap.size, 0, none⟩ = some (.slice (some ⟨g, 0, none⟩) cs.length c) ∧ W.cell? ⟨w.heap.size, 1, none⟩ = some (.slice A2 gs.length c2)) ∧ Blk W (w.heap.size + 1) 67 gz ∧ Below w.heap.size w W ∧ w.heap.size + 2 ≤ W.heap.size) := fun W h => by
    have hk := (h.block w.heap.size (by omega)).trans ((Blk.new w _ _).alloc _)
    exact ⟨⟨Blk.cell hk 0, Blk.cell hk 1⟩, (h.block (w.heap.size + 1) (by omega)).trans (Blk.new2 w _ _ _), (((Below.refl _ _).alloc (Nat.le_refl _) _).alloc (by simp) _).trans (h.mono (by omega)), by have := h.size; simpa using this⟩
  clear h
  have bad : Hid ((¬ (0 ≤ col ∧ col < cs.length ∧ gs.length ≠ 0) ∧ Calls Tryz.prog 38 #[.agg #[.slice (some ⟨g, 0, none⟩) cs.length c, .slice A2 gs.length c2], .int .i64 col] w (fun e w' => GoalOut ⟨1, 0, 0, [], []⟩ w e w')) ∨ (0 ≤ col ∧ col < cs.length ∧ gs.length ≠ 0)) := by
    by_cases hc0 : col < 0
    · refine .inl ⟨by omega, ?_⟩
      have d3 : decide (col < 0) = true := by simp; omega
      go_enter Tryz.func38, Tryz.ntmps38
      go_wp2_with (go_at_call 15; refine (HCHK.out _ _).mono ?_; rintro e w2 ⟨rfl, hb2⟩; rw [show ∀ o o', ((w.alloc o).alloc o').heap.size = w.heap.size + 2 from fun _ _ => by simp] at hb2; obtain ⟨⟨r0, r1⟩, hres, hrw, hsz⟩ := HBOX.out _ hb2; have fz := hres.frozen; have s0 := hres.cell 0; have s1 := hres.cell 1; have s2 := hres.cell 2; have s3 := hres.cell 3; simp only [gz, List.getElem?_toArray, List.getElem?_cons_zero, List.getElem?_cons_succ] at s0 s1 s2 s3)
      exact goal_end (D := ⟨1, 0, 0, [], []⟩) rfl hres (by omega) hrw (readI_nil _) (readQ_nil _) (fun c hc => by cases hc) rfl rfl rfl
    · by_cases hc1 : (cs.length : Int) ≤ col
      · refine .inl ⟨by omega, ?_⟩
        have d3 : decide (col < 0) = false := by simp; omega
        have d4 : decide ((cs.length : Int) ≤ col) = true := by simp; omega
        go_enter Tryz.func38, Tryz.ntmps38
        go_wp2_with (go_at_call 15; refine (HCHK.out _ _).mono ?_; rintro e w2 ⟨rfl, hb2⟩; rw [show ∀ o o', ((w.alloc o).alloc o').heap.size = w.heap.size + 2 from fun _ _ => by simp] at hb2; obtain ⟨⟨r0, r1⟩, hres, hrw, hsz⟩ := HBOX.out _ hb2; have fz := hres.frozen; have s0 := hres.cell 0; have s1 := hres.cell 1; have s2 := hres.cell 2; have s3 := hres.cell 3; simp only [gz, List.getElem?_toArray, List.getElem?_cons_zero, List.getElem?_cons_succ] at s0 s1 s2 s3)
        exact goal_end (D := ⟨1, 0, 0, [], []⟩) rfl hres (by omega) hrw (readI_nil _) (readQ_nil _) (fun c hc => by cases hc) rfl rfl rfl
      · by_cases hg0 : gs.length = 0
        · refine .inl ⟨by omega, ?_⟩
          obtain rfl : gs = [] := List.length_eq_zero_iff.1 hg0
          have d3 : decide (col < 0) = false := by simp; omega
          have d4 : decide ((cs.length : Int) ≤ col) = false := by simp; omega
          go_enter Tryz.func38, Tryz.ntmps38
          go_wp2_with (go_at_call 15; refine (HCHK.out _ _).mono ?_; rintro e w2 ⟨rfl, hb2⟩; rw [show ∀ o o', ((w.alloc o).alloc o').heap.size = w.heap.size + 2 from fun _ _ => by simp] at hb2; obtain ⟨⟨r0, r1⟩, hres, hrw, hsz⟩ := HBOX.out _ hb2; have fz := hres.frozen; have s0 := hres.cell 0; have s1 := hres.cell 1; have s2 := hres.cell 2; have s3 := hres.cell 3; simp only [gz, List.getElem?_toArray, List.getElem?_cons_zero, List.getElem?_cons_succ] at s0 s1 s2 s3)
          exact goal_end (D := ⟨1, 0, 0, [], []⟩) rfl hres (by omega) hrw (readI_nil _) (readQ_nil _) (fun c hc => by cases hc) rfl rfl rfl
        · refine .inr ?_
          omega
  rcases bad.out with ⟨hin, hbad⟩ | ⟨hc0, hc1, hg0⟩
  · have hD : goalD cs gs col = ⟨1, 0, 0, [], []⟩ := if_neg hin
    rw [hD]; exact hbad
  · clear bad
    obtain ⟨k, rfl⟩ := Int.eq_ofNat_of_zero_le hc0
    have hk : k < cs.length := by omega
    have hg1 : 1 ≤ gs.length := by omega
    have d3 : decide ((k : Int) < 0) = false := by simp
    have d4 : decide ((cs.length : Int) ≤ (k : Int)) = false := by simp; omega
    have d5 : ((gs.length : Int) == 0) = false := by rw [beq_eq_false_iff_ne]; omega
    have d7 : gs ≠ [] := fun h => by rw [h] at hg1; exact absurd hg1 (by decide)
    have d6 : ¬ (gs.length : Int) = 0 := by omega
    have HIN := Lib.hid (show 0 ≤ (k : Int) ∧ (k : Int) < cs.length ∧ gs.length ≠ 0 from ⟨hc0, hc1, hg0⟩)
    have HKA := Lib.hid (kdAt_eq hk)
    by_cases hkz : cs[k].kd = 0
    · have HD1 : Hid (lackB gs k = true → goalD cs gs (k : Int) = ⟨20, 0, 0, [], []⟩) := fun h => by
        unfold goalD; rw [if_pos HIN.out, Int.toNat_natCast, if_pos h]
      have HD2 : Hid (lackB gs k = false → goalD cs gs (k : Int) = ⟨0, 2, 0, [], gs.map fun q => pcAt q.1 k⟩) := fun h => by
        unfold goalD; rw [if_pos HIN.out, Int.toNat_natCast, h, if_neg (by decide), if_pos (HKA.out.trans hkz)]
      have HKZ := Lib.hid hkz
      clear hkz hc1 hg0
      go_enter Tryz.func38, Tryz.ntmps38
      go_wp2_with (first
        | (go_at_call 15; refine (HCHK.out _ _).mono ?_; rintro e w2 ⟨rfl, hb2⟩; rw [show ∀ o o', ((w.alloc o).alloc o').heap.size = w.heap.size + 2 from fun _ _ => by simp] at hb2; obtain ⟨⟨r0, r1⟩, hres, hrw, hsz⟩ := HBOX.out _ hb2; have fz := hres.frozen; have s0 := hres.cell 0; have s1 := hres.cell 1; have s2 := hres.cell 2; have s3 := hres.cell 3; simp only [gz, List.getElem?_toArray, List.getElem?_cons_zero, List.getElem?_cons_succ] at s0 s1 s2 s3; obtain ⟨nm, kd, A3, k3, hk5, p0, p1, p2, hg, hkd, _⟩ := col_step (H.out.below hrw) hk; have e1 : kindOf kd = 1 := if_pos (hkd ▸ HKZ.out); rw [e1] at p1; clear e1; clear hkd)
        | (go_at_call 32; refine (numbers_any _ _ cs b gs k _ (H.out.below hrw) hk HKZ.out hg1).mono ?_; rintro e w3 ⟨v, er, rfl, hb3, hout⟩; obtain ⟨⟨t0, t1⟩, hres3, hrw3, hsz3⟩ := HBOX.out w3 (hb2.trans (hb3.mono hsz)); have fz3 := hres3.frozen; have v0 := hres3.cell 0; have v1 := hres3.cell 1; have v2 := hres3.cell 2; have v3 := hres3.cell 3; simp only [gz, List.getElem?_toArray, List.getElem?_cons_zero, List.getElem?_cons_succ] at v0 v1 v2 v3; have y2 := (hb3.cell (p := ⟨g, k * 3 + 2, none⟩) hg).trans p2; rcases hout with ⟨rfl, rfl, hl⟩ | ⟨rfl, hrow, hqk, hl⟩; all_goals try (obtain ⟨B1, B2, hv, _⟩ := own_slice hrow; rw [List.length_map] at hv; subst hv)))
      · rw [HD1.out (lackB_true hl)]
        exact goal_end (D := ⟨20, 0, 0, [], []⟩) rfl hres3 (by omega) hrw3 (readI_nil _) (readQ_nil _) (fun c hc => by cases hc) rfl rfl rfl
      · rw [HD2.out (lackB_false hl)]
        have hgo := fun (a : Act) hp he hd => goal_end (a := a) (D := ⟨0, 2, 0, [], gs.map fun q => pcAt q.1 k⟩) (w := w) (fn := Tryz.f38) rfl hres3 (by omega) hrw3 (readI_nil _) ⟨_, hrow⟩ (fun c hc => by obtain ⟨q, hq, rfl⟩ := List.mem_map.1 hc; exact hqk q hq) hp he hd
        exact hgo _ rfl rfl rfl
    · have HD1 : Hid (lackB gs k = true → goalD cs gs (k : Int) = ⟨20, 0, 0, [], []⟩) := fun h => by
        unfold goalD; rw [if_pos HIN.out, Int.toNat_natCast, if_pos h]
      have HD2 : Hid (lackB gs k = false → goalD cs gs (k : Int) = ⟨0, 1, kdAt cs k, gs.map fun q => (pcAt q.1 k).wd, []⟩) := fun h => by
        unfold goalD; rw [if_pos HIN.out, Int.toNat_natCast, h, if_neg (by decide), if_neg (fun h => hkz (HKA.out.symm.trans h))]
      have HKZ := Lib.hid hkz
      clear hkz hc1 hg0
      go_enter Tryz.func38, Tryz.ntmps38
      go_wp2_with (first
        | (go_at_call 15; refine (HCHK.out _ _).mono ?_; rintro e w2 ⟨rfl, hb2⟩; rw [show ∀ o o', ((w.alloc o).alloc o').heap.size = w.heap.size + 2 from fun _ _ => by simp] at hb2; obtain ⟨⟨r0, r1⟩, hres, hrw, hsz⟩ := HBOX.out _ hb2; have fz := hres.frozen; have s0 := hres.cell 0; have s1 := hres.cell 1; have s2 := hres.cell 2; have s3 := hres.cell 3; simp only [gz, List.getElem?_toArray, List.getElem?_cons_zero, List.getElem?_cons_succ] at s0 s1 s2 s3; obtain ⟨nm, kd, A3, k3, hk5, p0, p1, p2, hg, hkd, _⟩ := col_step (H.out.below hrw) hk; have e1 : kindOf kd = 2 := if_neg (hkd ▸ HKZ.out); rw [e1] at p1; clear e1; have hkd' := hkd; clear hkd)
        | (go_at_call 31; refine (choices_any _ _ cs b gs k _ (H.out.below hrw) hk HKZ.out hg1).mono ?_; rintro e w3 ⟨v, er, rfl, hb3, hout⟩; obtain ⟨⟨t0, t1⟩, hres3, hrw3, hsz3⟩ := HBOX.out w3 (hb2.trans (hb3.mono hsz)); have fz3 := hres3.frozen; have v0 := hres3.cell 0; have v1 := hres3.cell 1; have v2 := hres3.cell 2; have v3 := hres3.cell 3; simp only [gz, List.getElem?_toArray, List.getElem?_cons_zero, List.getElem?_cons_succ] at v0 v1 v2 v3; have y2 := (hb3.cell (p := ⟨g, k * 3 + 2, none⟩) hg).trans p2; rcases hout with ⟨rfl, rfl, hl⟩ | ⟨rfl, hrow, hl⟩; all_goals try (obtain ⟨B1, B2, hv, _⟩ := own_slice hrow; rw [List.length_map] at hv; subst hv)))
      · rw [HD1.out (lackB_true hl)]
        exact goal_end (D := ⟨20, 0, 0, [], []⟩) rfl hres3 (by omega) hrw3 (readI_nil _) (readQ_nil _) (fun c hc => by cases hc) rfl rfl rfl
      · rw [HD2.out (lackB_false hl)]
        have hkk : kdAt cs k = kd := HKA.out.trans hkd'
        rw [hkk]
        have hgo := fun (a : Act) hp he hd => goal_end (a := a) (D := ⟨0, 1, (kd : Int), gs.map fun q => (pcAt q.1 k).wd, []⟩) (w := w) (fn := Tryz.f38) rfl hres3 (by omega) hrw3 ⟨_, hrow⟩ (readQ_nil _) (fun c hc => by cases hc) hp he hd
        exact hgo _ rfl rfl rfl
end Go.Proofs.YthallgbggkgboaaGreatDoor.Gp
