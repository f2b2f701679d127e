/-
  The law, walked.
-/
import Derived.Test.YtdlggegdlknkeaaGreatDoorGkn
namespace Go.Proofs.YtdlggegdlknkeaaGreatDoor.Gp
open Go Go.RowKit Ut

theorem ReadI.form {w : World} {v : Value} {ns : List Nat} (h : ReadI w v ns) : ∃ A n c, v = .slice A n c := by
  obtain ⟨b, h⟩ := h
  obtain ⟨A, c, e, _⟩ := own_slice h
  exact ⟨_, _, _, e⟩
theorem ReadQ.form {w : World} {v : Value} {fs : List PC} (h : ReadQ w v fs) : ∃ A n c, v = .slice A n c := by
  obtain ⟨b, h⟩ := h
  obtain ⟨A, c, e, _⟩ := own_slice h
  exact ⟨_, _, _, e⟩
theorem gN_of {rs : List (ByteArray × Nat)} {cs : List CI} (h : nOk rs) (hn : cs.map CI.nm = rs.map (·.1)) : gN cs := fun i hi => by
  have hl : cs.length = rs.length := by have := congrArg List.length hn; simpa using this
  have e : (cs.map CI.nm)[i]'(by simpa using hi) = (rs.map (·.1))[i]'(by simp; omega) := by simp only [hn]
  rw [List.getElem_map, List.getElem_map] at e
  rw [e]
  exact h i (by omega)
theorem goalD_len {cs : List CI} {gs : List (List PC × Value)} {col : Int} (h : gs.length ≤ 12) : (goalD cs gs col).ns.length ≤ 1000 ∧ (goalD cs gs col).fs.length ≤ 1000 := by
  unfold goalD
  split
  · split
    · exact ⟨Nat.zero_le _, Nat.zero_le _⟩
    · split
      · exact ⟨Nat.zero_le _, by show (gs.map _).length ≤ _; rw [List.length_map]; omega⟩
      · exact ⟨by show (gs.map _).length ≤ _; rw [List.length_map]; omega, Nat.zero_le _⟩
  · exact ⟨Nat.zero_le _, Nat.zero_le _⟩
theorem sheet_ok {w : World} {cu ru : Value} {cs : List CI} {b : Nat} {gs : List (List PC × Value)} {rs : List (ByteArray × Nat)} (hC : ColsAt w cu cs) (hR : PRows w b ru gs) (hno : nOk rs) (hr1 : 1 ≤ rs.length) (hr6 : rs.length ≤ 6) (hkd : cs.map CI.kd = rs.map (·.2)) (hnm : cs.map CI.nm = rs.map (·.1)) (h12 : gs.length ≤ 12) (hfits : ∀ q ∈ gs, pFits (rs.map (·.2)) q.1) : SheetOk w cu ru cs b gs := by
  have hl : cs.length = rs.length := by have := congrArg List.length hnm; simpa using this
  exact ⟨hC, hR, gN_of hno hnm, by omega, by omega, h12, fun q hq => by rw [hkd]; exact hfits q hq⟩
set_option maxHeartbeats 4000000 in
set_option maxRecDepth 100000 in
theorem law_any (A1 A2 : Option Addr) (c1 c2 : Nat) (xs ys : List Int) (n col : Int) (w : World) (hx : IntsIn w w.heap.size A1 xs) (hy : IntsIn w w.heap.size A2 ys) (hlx : xs.length ≤ 9223372036854775807) (hly : ys.length ≤ 9223372036854775807) (hK : KnW w) :
    Calls Tryz.prog 3 #[.agg #[.slice A1 xs.length c1, .slice A2 ys.length c2, .int .i64 n], .int .i64 col] w fun e w' => e = .returned (.bool true) ∧ Below w.heap.size w w' := by
  have HS : Hid (∀ o, Calls Tryz.prog _ _ (w.alloc o) _) := Lib.hid (fun o => msheet_any A1 A2 c1 c2 xs ys n (w.alloc o) ((hx.alloc (Nat.le_refl _) o).more (by simp)) ((hy.alloc (Nat.le_refl _) o).more (by simp)) hlx hly)
  have HP : Hid (∀ W, Calls Tryz.prog _ _ W _) := Lib.hid (fun W => pick_some col 9 W (by omega) (by omega))
  have HK := Lib.hid hK
  clear hx hy hK
  go_enter Tryz.func3, Tryz.ntmps3
  go_wp2_with (first
    | (go_at_call 5; refine (HS.out _).mono ?_; rintro e w1 ⟨cv, rv, b1, b2, g, rs, qs, rfl, hcols, hwds, hro, hno, hr1, hr6, hrows, hq12, hfit, hb1⟩; rw [World.size_alloc] at hb1; have HB1 : Below w.heap.size w w1 := ((Below.refl _ _).alloc (Nat.le_refl _) _).trans (hb1.mono (by omega)); have hs1 := HB1.size; clear hb1)
    | (go_at_call 4; refine (insheet_any cv rv b1 b2 g rs qs w1 hcols hwds hro hr1 hr6 hrows hq12 hfit).mono ?_; rintro e w2 ⟨cu, ru, cs, b, gs, rfl, hC, hkd, hnm, hR, hgl, hfits, hb2⟩; obtain ⟨C1, C2, rfl⟩ := hC.len; obtain ⟨R1, R2, hru, _⟩ := own_slice hR.1; subst hru; have HSO := Lib.hid (sheet_ok hC hR hno hr1 hr6 hkd hnm (hgl ▸ hq12) hfits); have h12 : gs.length ≤ 12 := hgl ▸ hq12; have hs2 := hb2.size; have HB2 : Below w.heap.size w w2 := HB1.trans (hb2.mono hs1); clear hC hR hno hkd hnm hfits hb2 hcols hwds hro hrows hfit hgl hq12 hr1 hr6)
    | (go_at_call 6; refine (HP.out _).mono ?_; rintro e wz ⟨r, hr, rfl, rfl⟩; obtain ⟨D, HD⟩ : ∃ D, Hid (goalD cs gs ((r : Int) - 1) = D) := ⟨_, Lib.hid rfl⟩; have HDL := Lib.hid (HD.out ▸ goalD_len (cs := cs) (gs := gs) (col := (r : Int) - 1) h12))
    | (go_at_call 7; refine (goal_any _ _ cs b gs ((r : Int) - 1) _ (HSO.out.below ((Below.refl _ _).alloc (Nat.le_refl _) _))).mono ?_; rw [HD.out]; rintro e w3 ⟨lv, qv, rfl, hl, hq, hqk, hb3⟩; obtain ⟨L1, L2, L3, rfl⟩ := hl.form; obtain ⟨Q1, Q2, Q3, rfl⟩ := hq.form; have HQK := Lib.hid hqk; rw [World.size_alloc] at hb3; have hs3 := hb3.size; rw [World.size_alloc] at hs3; have hk3 := (hb3.block w2.heap.size (by omega)).trans (Blk.new w2 _ _); have y0 := (fun o => (World.cell?_alloc_lt w3 o ⟨w2.heap.size, 0, none⟩ (by show w2.heap.size < _; omega)).trans (Blk.cell hk3 0)); have y1 := (fun o => (World.cell?_alloc_lt w3 o ⟨w2.heap.size, 1, none⟩ (by show w2.heap.size < _; omega)).trans (Blk.cell hk3 1)); simp only [List.getElem?_toArray, List.getElem?_cons_zero, List.getElem?_cons_succ] at y0 y1; have HB3 : Below w.heap.size w w3 := (HB2.alloc HB2.size _).trans (hb3.mono (by omega)); have B23 : Below w2.heap.size w2 w3 := ((Below.refl _ _).alloc (Nat.le_refl _) _).trans (hb3.mono (by omega)); have HL3 := Lib.hid hl; have HQ3 := Lib.hid hq; clear hl hq hqk hb3 hk3)
    | (go_at_call 8; refine (of_goal_any _ _ cs b gs ((r : Int) - 1) _ (HSO.out.below (B23.alloc B23.size _))).mono ?_; rw [HD.out]; rintro e w4 ⟨lv', qv', rfl, hl, hq, _, hb4⟩; obtain ⟨M1, M2, M3, rfl⟩ := hl.form; obtain ⟨N1, N2, N3, rfl⟩ := hq.form; rw [World.size_alloc] at hb4; have hs4 := hb4.size; rw [World.size_alloc] at hs4; have HKG : Hid (Blk w4 w3.heap.size 38 #[.int .i64 D.a, .int .i64 D.n, .slice L1 L2 L3, .slice Q1 Q2 Q3]) := (hb4.block w3.heap.size (by omega)).trans (Blk.new w3 _ _); have B34 : Below w3.heap.size w3 w4 := ((Below.refl _ _).alloc (Nat.le_refl _) _).trans (hb4.mono (by omega)); have HL4 := Lib.hid hl; have HQ4 := Lib.hid hq; have hs34 := B34.size; clear hl hq hb4 y0 y1)
    | (go_at_call 9; refine (known_any _ (HK.out.below (((HB3.trans (B34.mono (by omega))).alloc (by omega) _)))).mono ?_; rintro e w5 ⟨rfl, hb5⟩; rw [World.size_alloc] at hb5; have hs5 := hb5.size; rw [World.size_alloc] at hs5; have kA : Blk w5 w3.heap.size 38 #[.int .i64 D.a, .int .i64 D.n, .slice L1 L2 L3, .slice Q1 Q2 Q3] := (hb5.block w3.heap.size (by omega)).trans (HKG.out.alloc _); have kB : Blk w5 w4.heap.size 38 #[.int .i64 D.a, .int .i64 D.n, .slice M1 M2 M3, .slice N1 N2 N3] := (hb5.block w4.heap.size (by omega)).trans (Blk.new w4 _ _); have a0 := kA.cell 0; have a1 := kA.cell 1; have a2 := kA.cell 2; have a3 := kA.cell 3; have b0 := kB.cell 0; have b1' := kB.cell 1; have b2' := kB.cell 2; have b3 := kB.cell 3; simp only [List.getElem?_toArray, List.getElem?_cons_zero, List.getElem?_cons_succ] at a0 a1 a2 a3 b0 b1' b2' b3; have B45 : Below w4.heap.size w4 w5 := ((Below.refl _ _).alloc (Nat.le_refl _) _).trans (hb5.mono (by omega)); have B35 : Below w3.heap.size w3 w5 := B34.trans (B45.mono hs34); have HB5 : Below w.heap.size w w5 := HB3.trans (B35.mono (by omega)); clear kA kB hb5)
    | (go_at_call 10; refine (sameints_any _ _ D.ns w5 (HL3.out.keep (KeepT.of_below B35)) (HL4.out.keep (KeepT.of_below B45)) HDL.out.1).mono ?_; rintro e w6 ⟨rfl, hb6⟩; have c3 := (hb6.cell (p := ⟨w3.heap.size, 3, none⟩) (by show w3.heap.size < _; omega)).trans a3; have d3 := (hb6.cell (p := ⟨w4.heap.size, 3, none⟩) (by show w4.heap.size < _; omega)).trans b3; have hs6 := hb6.size; have HB6 : Below w.heap.size w w6 := HB5.trans (hb6.mono HB5.size))
    | (go_at_call 11; refine (same_any _ _ D.fs w6 (HQ3.out.keep (KeepT.of_below (B35.trans (hb6.mono B35.size)))) (HQ4.out.keep (KeepT.of_below (B45.trans (hb6.mono B45.size)))) HDL.out.2 HQK.out).mono ?_; rintro e w7 ⟨rfl, hb7⟩))
  go_ret
  exact ⟨rfl, HB6.trans (hb7.mono HB6.size)⟩
end Go.Proofs.YtdlggegdlknkeaaGreatDoor.Gp
