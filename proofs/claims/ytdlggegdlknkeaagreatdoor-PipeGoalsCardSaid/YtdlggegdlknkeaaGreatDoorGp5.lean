/-
  The sheet that is made: the plain one.
-/
import Derived.Test.YtdlggegdlknkeaaGreatDoorGp4
namespace Go.Proofs.YtdlggegdlknkeaaGreatDoor.Gp
open Go Go.RowKit Ut

theorem infoRSheet : (Tryz.prog.info? 33).map (·.size) = some 2 := by kernel_rfl
set_option maxHeartbeats 4000000 in
set_option maxRecDepth 100000 in
theorem msheet_any (A1 A2 : Option Addr) (c1 c2 : Nat) (xs ys : List Int) (n : Int) (w : World) (hx : IntsIn w w.heap.size A1 xs) (hy : IntsIn w w.heap.size A2 ys) (hlx : xs.length ≤ 9223372036854775807) (hly : ys.length ≤ 9223372036854775807) :
    Calls Tryz.prog 5 #[.agg #[.slice A1 xs.length c1, .slice A2 ys.length c2, .int .i64 n]] w fun e w' => ∃ (cv rv : Value) (b1 b2 g : Nat) (rs : List (ByteArray × Nat)) (qs : List (List RC × Value)), e = .returned (.agg #[cv, rv]) ∧ RColsAt w' b1 cv g rs ∧ Blk w' g 9 wordsC ∧ rOk rs ∧ nOk rs ∧ 1 ≤ rs.length ∧ rs.length ≤ 6 ∧ RRows w' b2 rv qs ∧ qs.length ≤ 12 ∧ (∀ q ∈ qs, rowFits (rs.map (·.2)) q.1) ∧ Below w.heap.size w w' := by
  obtain ⟨i0, hi0, hz0, hz1, hz2⟩ := info_parts infoRC
  have HI := Lib.hid hi0
  have HZ0 := Lib.hid hz0
  have HZ1 := Lib.hid hz1
  have HZ2 := Lib.hid hz2
  obtain ⟨i1, hi1, hy0, hy1, hy2⟩ := info_parts infoRRow
  have HJ := Lib.hid hi1
  have HY0 := Lib.hid hy0
  have HY1 := Lib.hid hy1
  have HY2 := Lib.hid hy2
  clear hi0 hz0 hz1 hz2 hi1 hy0 hy1 hy2
  have HY := Lib.hid hy
  have HX : Hid (∀ o o', IntsIn ((w.alloc o).alloc o') ((w.alloc o).alloc o').heap.size A1 xs) := fun o o' => ((hx.alloc (Nat.le_refl _) o).alloc (by simp) o').more (by simp; omega)
  clear hx hy
  obtain ⟨p, HP⟩ : ∃ p : Nat, Hid (n % 13 = (p : Int) ∧ p < 13) := ⟨(n % 13).toNat, by have h1 := Int.emod_nonneg n (show (13 : Int) ≠ 0 by omega); have h2 := Int.emod_lt_of_pos n (show (0 : Int) < 13 by omega); exact Lib.hid ⟨by omega, by omega⟩⟩
  have HPK := Lib.hid (fun W => by have := pick_any n 13 W (by omega) (by omega); rw [HP.out.1] at this; exact this)
  have hp := HP.out.2
  go_enter Tryz.func5, Tryz.ntmps5
  go_wp2_with (first
    | (go_at_call 14; refine (mcols_any _ _ _ _ (HX.out _ _) hlx).mono ?_; rintro e w1 ⟨cv, rs, rfl, hcols, hwds, hrok, hnok, hr1, hr6, hb1⟩; obtain ⟨A3, c3, rfl, hc3⟩ := own_slice hcols))
  rw [show ∀ o o', ((w.alloc o).alloc o').heap.size = w.heap.size + 2 from fun _ _ => by simp] at hwds hcols hb1
  obtain ⟨g3, rfl, hg3a, hg3, hcells⟩ := own_cell hcols (by omega)
  have HC := Lib.hid hcols
  have HCC := Lib.hid hcells
  have HW := Lib.hid hwds
  have HB1 := Lib.hid hb1
  have HRO := Lib.hid hrok
  have HNO := Lib.hid hnok
  have hs1 := hb1.size
  rw [show ∀ o o', ((w.alloc o).alloc o').heap.size = w.heap.size + 2 from fun _ _ => by simp] at hs1
  have HBX : Hid (Blk w1 w.heap.size 24 #[.slice A1 xs.length c1, .slice A2 ys.length c2, .int .i64 n]) := (hb1.block w.heap.size (by omega)).trans ((Blk.new w _ _).alloc _)
  have HBR : Hid (Blk w1 (w.heap.size + 1) 33 #[.slice none 0 0, .slice none 0 0]) := (hb1.block (w.heap.size + 1) (by omega)).trans (Blk.new2 w _ _ _)
  have HBW : Hid (Below w.heap.size w w1) := (((Below.refl _ _).alloc (Nat.le_refl _) _).alloc (by simp) _).trans (hb1.mono (by omega))
  clear hcols hcells hwds hb1 hrok hnok hc3
  go_loopw [4, 5] (fun nv iv wr => ∃ (i m : Nat) (rv : Value) (qs : List (List RC × Value)), i ≤ p ∧ qs.length = i ∧ iv = .int .i64 i ∧ nv = .int .i64 m ∧ m ≤ i * 6 ∧ Hid (Blk wr w1.heap.size 33 #[.slice (some ⟨g3, 0, none⟩) rs.length c3, rv]) ∧ Hid (RRows wr (w1.heap.size + 1) rv qs) ∧ Hid (∀ q ∈ qs, rowFits (rs.map (·.2)) q.1) ∧ Hid (Below w1.heap.size w1 wr) ∧ w1.heap.size + 1 ≤ wr.heap.size) (fun _ i _ => p - (intOf i).toNat)
  case atStart => exact ⟨0, 0, _, [], Nat.zero_le _, rfl, rfl, rfl, Nat.le_refl _, Blk.new _ _ _, ⟨World.ownsRow_nil _ _ _ _, fun q hq => (by cases hq)⟩, (fun q hq => by cases hq), (Below.refl _ _).alloc (Nat.le_refl _) _, by simp⟩
  case round =>
    obtain ⟨i, m, rv, qs, hi, hql, rfl, rfl, hm, hblk, hrows, hfits, hbel, hsz⟩ := hrel
    have x2 : wr.cell? ⟨w.heap.size, 2, none⟩ = some (.int .i64 n) := (hbel.out.cell (p := ⟨w.heap.size, 2, none⟩) (by show w.heap.size < _; omega)).trans (HBX.out.cell 2)
    have t0 : wr.cell? ⟨w1.heap.size, 0, none⟩ = some (.slice (some ⟨g3, 0, none⟩) rs.length c3) := hblk.out.cell 0
    have t1 : wr.cell? ⟨w1.heap.size, 1, none⟩ = some rv := hblk.out.cell 1
    have ft := hblk.out.frozen
    by_cases hgo : i < p
    · go_wp2_with (go_at_call 6; refine (HPK.out _).mono ?_; rintro e w' ⟨rfl, rfl⟩)
      generalize wr = ws at *
      go_loopw [4, 6, 7] (fun nv rowv kv wr => ∃ (k m' : Nat) (ps : List (RC × List Value)), k ≤ rs.length ∧ ps.length = k ∧ kv = .int .i64 k ∧ nv = .int .i64 m' ∧ m' ≤ m + k ∧ Hid (wr.ownsRow ws.heap.size 58 5 rowv k (ps.map (·.2)).flatten) ∧ Hid (∀ q ∈ ps, RCell5 wr q.1 q.2) ∧ Hid (rfit (rs.map (·.2)) (ps.map (·.1))) ∧ Hid (Below ws.heap.size ws wr)) (fun _ _ k _ => rs.length - (intOf k).toNat)
      case atStart => exact ⟨0, m, [], Nat.zero_le _, rfl, rfl, rfl, Nat.le_refl _, World.ownsRow_nil _ _ _ _, (fun q hq => by cases hq), (fun i hi => absurd hi (Nat.not_lt_zero _)), Below.refl _ _⟩
      case round =>
        obtain ⟨k, m', ps, hk, hpl, rfl, rfl, hm', hown, hcs, hfit, hbi⟩ := hrel
        have HBI : Hid (Below w1.heap.size w1 wr) := hbel.out.trans (hbi.out.mono (by omega))
        have hszi := hbi.out.size
        have x1 : wr.cell? ⟨w.heap.size, 1, none⟩ = some (.slice A2 ys.length c2) := (HBI.out.cell (p := ⟨w.heap.size, 1, none⟩) (by show w.heap.size < _; omega)).trans (HBX.out.cell 1)
        have t0' : wr.cell? ⟨w1.heap.size, 0, none⟩ = some (.slice (some ⟨g3, 0, none⟩) rs.length c3) := (hbi.out.cell (p := ⟨w1.heap.size, 0, none⟩) (by show w1.heap.size < _; omega)).trans t0
        by_cases hgi : k < rs.length
        · have hat : ∀ j, j < 3 → ∀ u, (rcCells (w.heap.size + 2) rs[k])[j]? = some u → wr.cell? ⟨g3, k * 3 + j, none⟩ = some u := fun j hj u hu => (HBI.out.cell (p := ⟨g3, k * 3 + j, none⟩) hg3).trans (HCC.out _ _ ((rflat_at _ rs k hgi j hj).trans hu))
          obtain ⟨nm, kd, hrk⟩ : ∃ nm kd, rs[k] = (nm, kd) := ⟨_, _, rfl⟩
          have hkd5 : kd ≤ 5 := by have := HRO.out rs[k] (List.getElem_mem hgi); rw [hrk] at this; exact this
          have HKD : Hid (∃ (h : k < (rs.map (·.2)).length), (rs.map (·.2))[k] = kd) := ⟨by simpa using hgi, by rw [List.getElem_map, hrk]⟩
          rw [hrk] at hat
          have q0 := hat 0 (by omega) _ rfl
          have q1 := hat 1 (by omega) _ rfl
          have q2 := hat 2 (by omega) _ rfl
          rw [Nat.add_zero] at q0
          have q1' : wr.cell? ⟨g3, k * 3 + 1, none⟩ = some (.int .i64 (kindOf kd)) := q1
          have q2' : wr.cell? ⟨g3, k * 3 + 2, none⟩ = some (wdOf (w.heap.size + 2) kd) := q2
          obtain ⟨Aw, nw, cw, hwd⟩ : ∃ A n c, wdOf (w.heap.size + 2) kd = .slice A n c := by
            unfold wdOf
            split
            · exact ⟨_, _, _, rfl⟩
            · exact ⟨_, _, _, rfl⟩
          have HCELL := Lib.hid (fun z W => mcell_any nm (w.heap.size + 2) kd z W hkd5)
          rw [hwd] at q2' HCELL
          have ki : IntKind.i64.wrap (kindOf kd) = kindOf kd := by unfold kindOf; split <;> rfl
          clear hat hrk q1 q2
          have hys : m' < ys.length → ∃ ad, A2 = some ad ∧ wr.cell? (ad.add m') = some (.int .i64 (ys.getD m' 0)) := fun h => by
            obtain ⟨ad, h1, _, h2⟩ := IntsIn.at_ (Reads.below HY.out (HBW.out.trans (HBI.out.mono (by omega)))) h
            exact ⟨ad, h1, by rw [h2]; simp [h]⟩
          by_cases hmy : m' < ys.length
          · obtain ⟨ad, rfl, hcy⟩ := hys hmy
            go_wp2_with (first
              | (go_at_call 15; refine (HCELL.out _ _).mono ?_; rintro e w3 ⟨r, v, rfl, hrok, ⟨sA, sD, rfl, hfr⟩, hb3⟩; obtain ⟨B1, B2, B3, B4, B5, B6, he⟩ := hfr.form; obtain ⟨rfl, rfl⟩ : sA = .slice B1 B2 B3 ∧ sD = .slice B4 B5 B6 := (by simpa using he); have hs3 := hb3.size)
              | (at_builtin; refine wpList_append_own _ rfl _ _ 49 rfl ws.heap.size 58 i0 _ 5 72 Tryz.underlying49 HI.out HZ0.out HZ1.out HZ2.out rfl (by decide) _ k _ rfl ((own_below hown.out hb3).alloc _) ⟨w3.heap.size, 0, none⟩ 1 1 [.bool r.lk, .bool r.t.neg, .slice B1 B2 B3, .slice B4 B5 B6, .int .i64 r.wd] rfl rfl (new_read w3 _ _) (all_one rfl) (by unfold maxLen; omega) (by omega) (by simp; omega) ?_; intro v' w4 hown4 hgrow _hn))
            have hown5 := (own_below hown.out hb3).alloc (.cells #[.bool r.lk, .bool r.t.neg, .slice B1 B2 B3, .slice B4 B5 B6, .int .i64 r.wd] 58)
            have hsr : ws.heap.size ≤ wr.heap.size := hszi
            have hb4 : Below ws.heap.size ws w4 := ((hbi.out.trans (hb3.mono hsr)).alloc (by omega) _).grown hgrow (by simp; omega) (fun j hj => (own_base hown.out hj).1)
            have hD3 : KeepT 285 w3 w4 := (KeepT.of_below ((Below.refl _ _).alloc (Nat.le_refl _) _)).trans (KeepT.grown hgrow (own_type hown5) (by decide))
            have hD : KeepT 285 wr w4 := (KeepT.of_below hb3).trans hD3
            refine ⟨⟨k + 1, m' + 1, ps ++ [(r, [.bool r.lk, .bool r.t.neg, .slice B1 B2 B3, .slice B4 B5 B6, .int .i64 r.wd])], by omega, by simp [hpl], by go_num, by go_num, by omega, ?_, ?_, ?_, hb4⟩, by simp [intOf]; omega⟩
            · show World.ownsRow _ _ _ _ _ _ _
              rw [flat5_snoc]
              exact hown4
            · show ∀ q ∈ _, _
              intro q hq
              rcases List.mem_append.1 hq with hq | hq
              · exact (hcs.out q hq).keep hD
              · rw [List.mem_singleton.1 hq]
                exact ⟨_, _, rfl, hfr.keep hD3⟩
            · show rfit _ _
              rw [List.map_append]
              obtain ⟨hl, hkd'⟩ := HKD.out
              exact rfit_snoc hfit.out (by rw [List.length_map]; exact hpl) hl (by rw [hkd']; exact hrok)
          · go_wp2_with (first
              | (go_at_call 15; refine (HCELL.out _ _).mono ?_; rintro e w3 ⟨r, v, rfl, hrok, ⟨sA, sD, rfl, hfr⟩, hb3⟩; obtain ⟨B1, B2, B3, B4, B5, B6, he⟩ := hfr.form; obtain ⟨rfl, rfl⟩ : sA = .slice B1 B2 B3 ∧ sD = .slice B4 B5 B6 := (by simpa using he); have hs3 := hb3.size)
              | (at_builtin; refine wpList_append_own _ rfl _ _ 49 rfl ws.heap.size 58 i0 _ 5 72 Tryz.underlying49 HI.out HZ0.out HZ1.out HZ2.out rfl (by decide) _ k _ rfl ((own_below hown.out hb3).alloc _) ⟨w3.heap.size, 0, none⟩ 1 1 [.bool r.lk, .bool r.t.neg, .slice B1 B2 B3, .slice B4 B5 B6, .int .i64 r.wd] rfl rfl (new_read w3 _ _) (all_one rfl) (by unfold maxLen; omega) (by omega) (by simp; omega) ?_; intro v' w4 hown4 hgrow _hn))
            have hown5 := (own_below hown.out hb3).alloc (.cells #[.bool r.lk, .bool r.t.neg, .slice B1 B2 B3, .slice B4 B5 B6, .int .i64 r.wd] 58)
            have hsr : ws.heap.size ≤ wr.heap.size := hszi
            have hb4 : Below ws.heap.size ws w4 := ((hbi.out.trans (hb3.mono hsr)).alloc (by omega) _).grown hgrow (by simp; omega) (fun j hj => (own_base hown.out hj).1)
            have hD3 : KeepT 285 w3 w4 := (KeepT.of_below ((Below.refl _ _).alloc (Nat.le_refl _) _)).trans (KeepT.grown hgrow (own_type hown5) (by decide))
            have hD : KeepT 285 wr w4 := (KeepT.of_below hb3).trans hD3
            refine ⟨⟨k + 1, m' + 1, ps ++ [(r, [.bool r.lk, .bool r.t.neg, .slice B1 B2 B3, .slice B4 B5 B6, .int .i64 r.wd])], by omega, by simp [hpl], by go_num, by go_num, by omega, ?_, ?_, ?_, hb4⟩, by simp [intOf]; omega⟩
            · show World.ownsRow _ _ _ _ _ _ _
              rw [flat5_snoc]
              exact hown4
            · show ∀ q ∈ _, _
              intro q hq
              rcases List.mem_append.1 hq with hq | hq
              · exact (hcs.out q hq).keep hD
              · rw [List.mem_singleton.1 hq]
                exact ⟨_, _, rfl, hfr.keep hD3⟩
            · show rfit _ _
              rw [List.map_append]
              obtain ⟨hl, hkd'⟩ := HKD.out
              exact rfit_snoc hfit.out (by rw [List.length_map]; exact hpl) hl (by rw [hkd']; exact hrok)
        · have t1' : wr.cell? ⟨w1.heap.size, 1, none⟩ = some rv := (hbi.out.cell (p := ⟨w1.heap.size, 1, none⟩) (by show w1.heap.size < _; omega)).trans t1
          obtain ⟨A5, c5, hA5, _⟩ := own_slice hown.out
          subst hA5
          have hrow' : ws.ownsRow (w1.heap.size + 1) 49 1 rv i (qs.map (·.2)) := by rw [← hql]; exact hrows.out.1
          have hT : Blk ws w1.heap.size 33 #[.slice (some ⟨g3, 0, none⟩) rs.length c3, rv] := hblk.out
          go_wp2_with (at_builtin; refine wpList_append_own _ rfl _ _ 31 rfl (w1.heap.size + 1) 49 i1 _ 1 24 Tryz.underlying31 HJ.out HY0.out HY1.out HY2.out rfl (by decide) _ i _ rfl ((own_below hrow' hbi.out).alloc _) ⟨wr.heap.size, 0, none⟩ 1 1 [.slice A5 k c5] rfl rfl (new_read wr _ _) (all_one rfl) (by unfold maxLen; omega) (by omega) (by simp; omega) ?_; intro v' w4 hown4 hgrow _hn; obtain ⟨A6, c6, rfl, _⟩ := own_slice hown4; have hT4 : Blk w4 w1.heap.size 33 #[.slice (some ⟨g3, 0, none⟩) rs.length c3, rv] := ((Blk.keep hT hbi.out).alloc _).grown hgrow (fun e => by have := (own_base hrow' e.symm).1; omega); have ft4 := hT4.frozen; have t4c := hT4.cell 1; simp only [List.getElem?_toArray, List.getElem?_cons_zero, List.getElem?_cons_succ] at t4c)
          have hown5 := (own_below hrow' hbi.out).alloc (.cells #[.slice A5 k c5] 49)
          have hkr : k = rs.length := by omega
          have hal : Below wr.heap.size wr (wr.alloc (.cells #[.slice A5 k c5] 49)) := (Below.refl _ _).alloc (Nat.le_refl _) _
          have K1 : ∀ t, t ≠ 49 → t ≠ 33 → KeepT t wr (w4.setCell ⟨w1.heap.size, 1, none⟩ (.slice A6 (i + 1) c6)) := fun t h1 h2 => ((KeepT.of_below hal).trans (KeepT.grown hgrow (own_type hown5) (Ne.symm h1))).trans (KeepT.setCell hT4 (Ne.symm h2) _)
          have K2 : ∀ t, t ≠ 49 → t ≠ 33 → KeepT t ws (w4.setCell ⟨w1.heap.size, 1, none⟩ (.slice A6 (i + 1) c6)) := fun t h1 h2 => (KeepT.of_below hbi.out).trans (K1 t h1 h2)
          have hB : Below w1.heap.size w1 (w4.setCell ⟨w1.heap.size, 1, none⟩ (.slice A6 (i + 1) c6)) := ((HBI.out.alloc (by omega) _).grown hgrow (by simp; omega) (fun j hj => by have := (own_base hrow' hj).1; omega)).setCell (Nat.le_refl _) _
          have hs4 := hgrow.size
          rw [World.size_alloc] at hs4
          refine ⟨⟨i + 1, m', .slice A6 (i + 1) c6, qs ++ [(ps.map (·.1), .slice A5 k c5)], by omega, by simp [hql], by go_num, rfl, by omega, hT4.set_ 1 _, ⟨?_, ?_⟩, ?_, hB, by have := ((Below.refl 0 w4).setCell (p := ⟨w1.heap.size, 1, none⟩) (Nat.zero_le _) (.slice A6 (i + 1) c6)).size; omega⟩, by simp [intOf]; omega⟩
          · have h5 := own_keepT hown4 (KeepT.setCell hT4 (by decide) (.slice A6 (i + 1) c6) (i := 1))
            rw [List.length_append, hql, List.map_append]
            exact h5
          · intro q hq
            rcases List.mem_append.1 hq with hq | hq
            · exact (hrows.out.2 q hq).keep (K2 _ (by decide) (by decide)) (K2 _ (by decide) (by decide))
            · rw [List.mem_singleton.1 hq]
              refine RRow.keep (w := wr) ⟨ws.heap.size, ps, rfl, ?_, hcs.out⟩ (K1 _ (by decide) (by decide)) (K1 _ (by decide) (by decide))
              rw [hpl]
              exact hown.out
          · show ∀ q ∈ _, _
            intro q hq
            rcases List.mem_append.1 hq with hq | hq
            · exact hfits.out q hq
            · rw [List.mem_singleton.1 hq]
              exact ⟨by simp [hpl, hkr], hfit.out⟩
    · have y0 : wr.cell? ⟨w.heap.size + 1, 0, none⟩ = some (.slice none 0 0) := (hbel.out.cell (p := ⟨w.heap.size + 1, 0, none⟩) (by show w.heap.size + 1 < _; omega)).trans (HBR.out.cell 0)
      have y1 : wr.cell? ⟨w.heap.size + 1, 1, none⟩ = some (.slice none 0 0) := (hbel.out.cell (p := ⟨w.heap.size + 1, 1, none⟩) (by show w.heap.size + 1 < _; omega)).trans (HBR.out.cell 1)
      have hbr : Blk wr (w.heap.size + 1) 33 #[.slice none 0 0, .slice none 0 0] := (hbel.out.block (w.heap.size + 1) (by omega)).trans HBR.out
      have fr := hbr.frozen
      obtain ⟨A4, c4, hA4, hc4⟩ := own_slice hrows.out.1
      subst hA4
      go_wp2_with (go_at_call 6; refine (HPK.out _).mono ?_; rintro e w' ⟨rfl, rfl⟩)
      have hip : i = p := by omega
      have hR1 := hbr.set_ 0 (.slice (some ⟨g3, 0, none⟩) rs.length c3)
      have K : ∀ t, t ≠ 33 → KeepT t wr ((wr.setCell ⟨w.heap.size + 1, 0, none⟩ (.slice (some ⟨g3, 0, none⟩) rs.length c3)).setCell ⟨w.heap.size + 1, 1, none⟩ (.slice A4 i c4)) := fun t h => (KeepT.setCell hbr (Ne.symm h) _).trans (KeepT.setCell hR1 (Ne.symm h) _)
      have K1 : ∀ t, t ≠ 33 → KeepT t w1 ((wr.setCell ⟨w.heap.size + 1, 0, none⟩ (.slice (some ⟨g3, 0, none⟩) rs.length c3)).setCell ⟨w.heap.size + 1, 1, none⟩ (.slice A4 i c4)) := fun t h => (KeepT.of_below hbel.out).trans (K t h)
      have hrr := hrows.out.keep (K _ (by decide)) (K _ (by decide)) (K _ (by decide))
      rw [hql] at hrr
      refine bodyPost_ret (results_row rfl _ _ (w.heap.size + 1) _ _ _ rfl (hR1.set_ 1 (.slice A4 i c4)) Tryz.underlying33 rfl infoRSheet) rfl ⟨_, _, _, _, _, rs, qs, rfl, own_keepT HC.out (K1 _ (by decide)), (K1 _ (by decide) _ _ _ HW.out).trans HW.out, HRO.out, HNO.out, hr1, hr6, hrr, by omega, hfits.out, ?_⟩
      exact ((HBW.out.trans (hbel.out.mono (by omega))).setCell (by show w.heap.size ≤ w.heap.size + 1; omega) _).setCell (by show w.heap.size ≤ w.heap.size + 1; omega) _
end Go.Proofs.YtdlggegdlknkeaaGreatDoor.Gp
