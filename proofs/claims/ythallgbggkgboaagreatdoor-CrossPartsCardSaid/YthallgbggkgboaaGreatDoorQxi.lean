/-
  The document's parts, walked.
-/
import Derived.Test.YthallgbggkgboaaGreatDoorQe
import Derived.Deep.RegionHeld3
namespace Go.Proofs.YthallgbggkgboaaGreatDoor.Gp
open Go Go.RowKit Ut

set_option maxHeartbeats 4000000 in
set_option maxRecDepth 100000 in
theorem parts36_any {F : Nat} (hF : F = 12) (cu ru : Value) (cs : List CI) (b : Nat) (gs : List (List PC × Value)) (nm : ByteArray) (k s : Nat) (w : World) (h : SheetOk w cu ru cs b gs) (h6 : k ≤ 6) (hs : s < MM) :
    Calls Tryz.prog 8 #[.agg #[cu, ru], .string nm, .int .i64 (k : Int), .int .u64 (s : Int)] w fun e w' => PartsB (partsP F cs gs nm k s) w e w' := by
  have HOF : Hid (∀ o, Calls Tryz.prog _ _ (w.alloc o) _) := Lib.hid (fun o => of36_any _ _ cs b gs nm (w.alloc o) (h.below ((Below.refl _ _).alloc (Nat.le_refl _) o)))
  have h12 := h.r12
  obtain ⟨g, c, A2, c2, rfl, rfl, hcc⟩ := h.form
  clear h
  have HR : Hid (partsP F cs gs nm k s = partsD F (ofD cs gs nm) gs.length k s) := rfl
  have HOK := Lib.hid (ofD_ok cs gs nm)
  generalize partsP F cs gs nm k s = R at *
  generalize ofD cs gs nm = D at *
  obtain ⟨er, a, n, ns, fs⟩ := D
  have HG2 : Hid (∀ o, Calls Tryz.prog 21 #[.agg #[.slice (some ⟨g, 0, none⟩) cs.length c, .slice A2 gs.length c2], .string nm] (w.alloc o) fun e w' => ∃ lv qv, e = .returned (.tuple #[.agg #[.int .i64 a, .int .i64 n, lv, qv], .int .i64 er]) ∧ ReadI w' lv ns ∧ ReadQ w' qv fs ∧ Below w.heap.size w w' ∧ w.heap.size + 1 ≤ w'.heap.size) := fun o => (HOF.out o).mono fun _ _ ⟨lv, qv, h1, h2, h3, _, h4⟩ => ⟨lv, qv, h1, h2, h3, ((Below.refl _ _).alloc (Nat.le_refl _) _).trans (h4.mono (by simp)), by have := h4.size; simpa using this⟩
  clear HOF
  obtain ⟨m, rfl⟩ := Int.eq_ofNat_of_zero_le (show 0 ≤ er from HOK.out.er)
  by_cases hm : m = 0
  · subst hm
    by_cases ha : a = 1
    · subst ha
      obtain ⟨hnl, hn1⟩ := HOK.out.one rfl rfl
      replace hnl : ns.length = gs.length := hnl
      have hRR : R = evenP F ns gs.length k s := HR.out
      subst hRR
      clear HR HOK
      generalize gs.length = N at *
      have HNL := Lib.hid hnl
      clear hnl
      go_enter Tryz.func8, Tryz.ntmps8
      go_wp2_with (go_at_call 21; refine (HG2.out _).mono ?_; rintro e w4 ⟨lv, qv, rfl, hl, hq, hB4, hsz4⟩; obtain ⟨Q1, Q2, Q3, rfl⟩ := hq.form; clear hq; obtain ⟨G, cl, rfl, hG, hcell⟩ := hl.row HNL.out hn1; have HCELL := Lib.hid hcell; clear hcell hl)
      go_region_held3 (fun w' => w'.cell? ⟨w4.heap.size, 2, none⟩ = some (.slice (some ⟨G, 0, none⟩) N cl)) (simp [*]) (first
        | (go_at_call 18; refine (new_at s _).mono ?_; rintro e w5 ⟨rfl, hd5, hb5, hs5⟩; simp only [World.size_drew, World.size_alloc] at hs5 hb5 hd5 ⊢; have kG : Blk w5 w4.heap.size 67 #[.int .i64 1, .int .i64 n, .slice (some ⟨G, 0, none⟩) N cl, .slice Q1 Q2 Q3] := (hb5.block w4.heap.size (by omega)).trans (Blk.new w4 _ _); have a2 := Blk.cell kG 2; simp only [List.getElem?_toArray, List.getElem?_cons_zero, List.getElem?_cons_succ] at a2; have B45 : Below w4.heap.size w4 w5 := ((Below.refl _ _).alloc (Nat.le_refl _) _).drew.trans (hb5.mono (by omega)); have HD5 := Lib.hid hd5; clear hb5 hd5)
        | (go_at_call 19; refine (even_any hF HD5.out hs h12 h6 (by omega) HNL.out (fun j hj => (B45.cell (p := ⟨G, j, none⟩) hG).trans (HCELL.out j hj)) (by omega)).mono ?_; rintro e w6 ⟨v, rfl, hv, ha6⟩; have kH := (ha6.block w4.heap.size (by omega) (by omega)).trans kG; have y2 := Blk.cell kH 2; simp only [List.getElem?_toArray, List.getElem?_cons_zero, List.getElem?_cons_succ] at y2))
      all_goals go_wp2
      all_goals go_ret2
      subst hF
      exact ⟨_, rfl, hv, (hB4.trans (B45.mono hB4.size)).trans (ha6.below (by intro k hk; omega) (by omega))⟩
    · have hRR : R = foldsP F gs.length k s := HR.out.trans ((if_pos rfl).trans (if_neg ha))
      subst hRR
      have da : decide (a = 1) = false := by simp [ha]
      have hfl : fs.length = gs.length := HOK.out.two rfl ha
      clear HR HOK
      generalize gs.length = N at *
      have HFL := Lib.hid hfl
      clear hfl
      go_enter Tryz.func8, Tryz.ntmps8
      go_wp2_with (go_at_call 21; refine (HG2.out _).mono ?_; rintro e w4 ⟨lv, qv, rfl, hl, hq, hB4, hsz4⟩; obtain ⟨L1, L2, L3, rfl⟩ := hl.form; clear hl; obtain ⟨QA, qc, rfl⟩ := hq.row HFL.out; clear hq)
      go_region_held3 (fun w' => w'.cell? ⟨w4.heap.size, 3, none⟩ = some (.slice QA N qc)) (simp [*]) (first
        | (go_at_call 18; refine (new_at s _).mono ?_; rintro e w5 ⟨rfl, hd5, hb5, hs5⟩; simp only [World.size_drew, World.size_alloc] at hs5 hb5 hd5 ⊢; have kG : Blk w5 w4.heap.size 67 #[.int .i64 a, .int .i64 n, .slice L1 L2 L3, .slice QA N qc] := (hb5.block w4.heap.size (by omega)).trans (Blk.new w4 _ _); have a2 := Blk.cell kG 3; simp only [List.getElem?_toArray, List.getElem?_cons_zero, List.getElem?_cons_succ] at a2; have B45 : Below w4.heap.size w4 w5 := ((Below.refl _ _).alloc (Nat.le_refl _) _).drew.trans (hb5.mono (by omega)); have HD5 := Lib.hid hd5; clear hb5 hd5)
        | (go_at_call 20; refine (folds_any hF HD5.out hs h12 h6).mono ?_; rintro e w6 ⟨v, rfl, hv, ha6⟩; have kH := (ha6.block w4.heap.size (by omega) (by omega)).trans kG; have y2 := Blk.cell kH 3; simp only [List.getElem?_toArray, List.getElem?_cons_zero, List.getElem?_cons_succ] at y2))
      all_goals go_wp2
      all_goals go_ret2
      subst hF
      exact ⟨_, rfl, hv, (hB4.trans (B45.mono hB4.size)).trans (ha6.below (by intro k hk; omega) (by omega))⟩
  · have hRR : R = ([], m) := HR.out.trans ((if_neg (by simpa using hm)).trans (by simp))
    subst hRR
    clear HR HOK
    have dm : decide ((m : Int) = 0) = false := by simp; omega
    have em : ¬ (m : Int) = 0 := by omega
    go_enter Tryz.func8, Tryz.ntmps8
    go_wp2_with (go_at_call 21; refine (HG2.out _).mono ?_; rintro e w4 ⟨lv, qv, rfl, hl, hq, hB4, hsz4⟩; obtain ⟨Q1, Q2, Q3, rfl⟩ := hq.form; obtain ⟨L1, L2, L3, rfl⟩ := hl.form; clear hl hq)
    go_ret2
    exact ⟨_, rfl, RdP.nil _, hB4.alloc hB4.size _⟩
end Go.Proofs.YthallgbggkgboaaGreatDoor.Gp
