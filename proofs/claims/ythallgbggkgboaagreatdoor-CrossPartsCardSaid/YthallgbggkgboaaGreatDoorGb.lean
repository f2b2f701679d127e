/-
  The sheet that is made: the plain one. A row's cells, as the program's. The sheet, as the program's.
-/
import Derived.Test.YthallgbggkgboaaGreatDoorGa
import Derived.Deep.RegionLaw
namespace Go.Proofs.YthallgbggkgboaaGreatDoor.Gp
open Go Go.RowKit Ut

theorem infoRSheet : (Tryz.prog.info? 34).map (·.size) = some 2 := by kernel_rfl
set_option maxHeartbeats 4000000 in
set_option maxRecDepth 100000 in
theorem msheet_any (A1 A2 : Option Addr) (c1 c2 : Nat) (xs ys : List Int) (n : Int) (w : World) (hx : IntsIn w w.heap.size A1 xs) (hy : IntsIn w w.heap.size A2 ys) (hlx : xs.length ≤ 9223372036854775807) (hly : ys.length ≤ 9223372036854775807) :
    Calls Tryz.prog 5 #[.agg #[.slice A1 xs.length c1, .slice A2 ys.length c2, .int .i64 n]] w fun e w' => ∃ (cv rv : Value) (b1 b2 g : Nat) (rs : List (ByteArray × Nat)) (qs : List (List RC × Value)), e = .returned (.agg #[cv, rv]) ∧ RColsAt w' b1 cv g rs ∧ Blk w' g 9 wordsC ∧ rOk rs ∧ nOk rs ∧ 1 ≤ rs.length ∧ rs.length ≤ 6 ∧ RRows w' b2 rv qs ∧ qs.length ≤ 12 ∧ (∀ q ∈ qs, rowFits (rs.map (·.2)) q.1) ∧ Below w.heap.size w w' := by
  obtain ⟨i0, hi0, hz0, hz1, hz2⟩ := info_parts infoRC
  have HI := Lib.hid hi0
  have HZ0 := Lib.hid hz0
  have HZ1 := Lib.hid hz1
  have HZ2 := Lib.hid hz2
  obtain ⟨i1, hi1, hy0, hy1, hy2⟩ := info_parts infoRRow
  have HJ := Lib.hid hi1
  have HY0 := Lib.hid hy0
  have HY1 := Lib.hid hy1
  have HY2 := Lib.hid hy2
  clear hi0 hz0 hz1 hz2 hi1 hy0 hy1 hy2
  have HY := Lib.hid hy
  have HX : Hid (∀ o o', IntsIn ((w.alloc o).alloc o') ((w.alloc o).alloc o').heap.size A1 xs) := fun o o' => ((hx.alloc (Nat.le_refl _) o).alloc (by simp) o').more (by simp; omega)
  clear hx hy
  obtain ⟨p, HP⟩ : ∃ p : Nat, Hid (n % 13 = (p : Int) ∧ p < 13) := ⟨(n % 13).toNat, by have h1 := Int.emod_nonneg n (show (13 : Int) ≠ 0 by omega); have h2 := Int.emod_lt_of_pos n (show (0 : Int) < 13 by omega); exact Lib.hid ⟨by omega, by omega⟩⟩
  have HPK := Lib.hid (fun W => by have := pick_any n 13 W (by omega) (by omega); rw [HP.out.1] at this; exact this)
  have hp := HP.out.2
  go_enter Tryz.func5, Tryz.ntmps5
  go_wp2_with (first
    | (go_at_call 13; refine (mcols_any _ _ _ _ (HX.out _ _) hlx).mono ?_; rintro e w1 ⟨cv, rs, rfl, hcols, hwds, hrok, hnok, hr1, hr6, hb1⟩; obtain ⟨A3, c3, rfl, hc3⟩ := own_slice hcols))
  rw [show ∀ o o', ((w.alloc o).alloc o').heap.size = w.heap.size + 2 from fun _ _ => by simp] at hwds hcols hb1
  obtain ⟨g3, rfl, hg3a, hg3, hcells⟩ := own_cell hcols (by omega)
  have HC := Lib.hid hcols
  have HCC := Lib.hid hcells
  have HW := Lib.hid hwds
  have HB1 := Lib.hid hb1
  have HRO := Lib.hid hrok
  have HNO := Lib.hid hnok
  have hs1 := hb1.size
  rw [show ∀ o o', ((w.alloc o).alloc o').heap.size = w.heap.size + 2 from fun _ _ => by simp] at hs1
  have HBX : Hid (Blk w1 w.heap.size 24 #[.slice A1 xs.length c1, .slice A2 ys.length c2, .int .i64 n]) := (hb1.block w.heap.size (by omega)).trans ((Blk.new w _ _).alloc _)
  have HBR : Hid (Blk w1 (w.heap.size + 1) 34 #[.slice none 0 0, .slice none 0 0]) := (hb1.block (w.heap.size + 1) (by omega)).trans (Blk.new2 w _ _ _)
  have HBW : Hid (Below w.heap.size w w1) := (((Below.refl _ _).alloc (Nat.le_refl _) _).alloc (by simp) _).trans (hb1.mono (by omega))
  clear hcols hcells hwds hb1 hrok hnok hc3
  go_loopw [4, 5] (fun nv iv wr => ∃ (i m : Nat) (rv : Value) (qs : List (List RC × Value)), i ≤ p ∧ qs.length = i ∧ iv = .int .i64 i ∧ nv = .int .i64 m ∧ m ≤ i * 6 ∧ Hid (Blk wr w1.heap.size 34 #[.slice (some ⟨g3, 0, none⟩) rs.length c3, rv]) ∧ Hid (RRows wr (w1.heap.size + 1) rv qs) ∧ Hid (∀ q ∈ qs, rowFits (rs.map (·.2)) q.1) ∧ Hid (Below w1.heap.size w1 wr) ∧ w1.heap.size + 1 ≤ wr.heap.size) (fun _ i _ => p - (intOf i).toNat)
  case atStart => exact ⟨0, 0, _, [], Nat.zero_le _, rfl, rfl, rfl, Nat.le_refl _, Blk.new _ _ _, ⟨World.ownsRow_nil _ _ _ _, fun q hq => (by cases hq)⟩, (fun q hq => by cases hq), (Below.refl _ _).alloc (Nat.le_refl _) _, by simp⟩
  case round =>
    obtain ⟨i, m, rv, qs, hi, hql, rfl, rfl, hm, hblk, hrows, hfits, hbel, hsz⟩ := hrel
    have x2 : wr.cell? ⟨w.heap.size, 2, none⟩ = some (.int .i64 n) := (hbel.out.cell (p := ⟨w.heap.size, 2, none⟩) (by show w.heap.size < _; omega)).trans (HBX.out.cell 2)
    have t0 : wr.cell? ⟨w1.heap.size, 0, none⟩ = some (.slice (some ⟨g3, 0, none⟩) rs.length c3) := hblk.out.cell 0
    have t1 : wr.cell? ⟨w1.heap.size, 1, none⟩ = some rv := hblk.out.cell 1
    have ft := hblk.out.frozen
    by_cases hgo : i < p
    · go_wp2_with (go_at_call 6; refine (HPK.out _).mono ?_; rintro e w' ⟨rfl, rfl⟩)
      generalize wr = ws at *
      go_loopw [4, 6, 7] (fun nv rowv kv wr => ∃ (k m' : Nat) (ps : List (RC × List Value)), k ≤ rs.length ∧ ps.length = k ∧ kv = .int .i64 k ∧ nv = .int .i64 m' ∧ m' ≤ m + k ∧ Hid (wr.ownsRow ws.heap.size 59 5 rowv k (ps.map (·.2)).flatten) ∧ Hid (∀ q ∈ ps, RCell5 wr q.1 q.2) ∧ Hid (rfit (rs.map (·.2)) (ps.map (·.1))) ∧ Hid (Below ws.heap.size ws wr)) (fun _ _ k _ => rs.length - (intOf k).toNat)
      case atStart => exact ⟨0, m, [], Nat.zero_le _, rfl, rfl, rfl, Nat.le_refl _, World.ownsRow_nil _ _ _ _, (fun q hq => by cases hq), (fun i hi => absurd hi (Nat.not_lt_zero _)), Below.refl _ _⟩
      case round =>
        obtain ⟨k, m', ps, hk, hpl, rfl, rfl, hm', hown, hcs, hfit, hbi⟩ := hrel
        have HBI : Hid (Below w1.heap.size w1 wr) := hbel.out.trans (hbi.out.mono (by omega))
        have hszi := hbi.out.size
        have x1 : wr.cell? ⟨w.heap.size, 1, none⟩ = some (.slice A2 ys.length c2) := (HBI.out.cell (p := ⟨w.heap.size, 1, none⟩) (by show w.heap.size < _; omega)).trans (HBX.out.cell 1)
        have t0' : wr.cell? ⟨w1.heap.size, 0, none⟩ = some (.slice (some ⟨g3, 0, none⟩) rs.length c3) := (hbi.out.cell (p := ⟨w1.heap.size, 0, none⟩) (by show w1.heap.size < _; omega)).trans t0
        by_cases hgi : k < rs.length
        · have hat : ∀ j, j < 3 → ∀ u, (rcCells (w.heap.size + 2) rs[k])[j]? = some u → wr.cell? ⟨g3, k * 3 + j, none⟩ = some u := fun j hj u hu => (HBI.out.cell (p := ⟨g3, k * 3 + j, none⟩) hg3).trans (HCC.out _ _ ((rflat_at _ rs k hgi j hj).trans hu))
          obtain ⟨nm, kd, hrk⟩ : ∃ nm kd, rs[k] = (nm, kd) := ⟨_, _, rfl⟩
          have hkd5 : kd ≤ 5 := by have := HRO.out rs[k] (List.getElem_mem hgi); rw [hrk] at this; exact this
          have HKD : Hid (∃ (h : k < (rs.map (·.2)).length), (rs.map (·.2))[k] = kd) := ⟨by simpa using hgi, by rw [List.getElem_map, hrk]⟩
          rw [hrk] at hat
          have q0 := hat 0 (by omega) _ rfl
          have q1 := hat 1 (by omega) _ rfl
          have q2 := hat 2 (by omega) _ rfl
          rw [Nat.add_zero] at q0
          have q1' : wr.cell? ⟨g3, k * 3 + 1, none⟩ = some (.int .i64 (kindOf kd)) := q1
          have q2' : wr.cell? ⟨g3, k * 3 + 2, none⟩ = some (wdOf (w.heap.size + 2) kd) := q2
          obtain ⟨Aw, nw, cw, hwd⟩ : ∃ A n c, wdOf (w.heap.size + 2) kd = .slice A n c := by
            unfold wdOf
            split
            · exact ⟨_, _, _, rfl⟩
            · exact ⟨_, _, _, rfl⟩
          have HCELL := Lib.hid (fun z W => mcell_any nm (w.heap.size + 2) kd z W hkd5)
          rw [hwd] at q2' HCELL
          have ki : IntKind.i64.wrap (kindOf kd) = kindOf kd := by unfold kindOf; split <;> rfl
          clear hat hrk q1 q2
          have hys : m' < ys.length → ∃ ad, A2 = some ad ∧ wr.cell? (ad.add m') = some (.int .i64 (ys.getD m' 0)) := fun h => by
            obtain ⟨ad, h1, _, h2⟩ := IntsIn.at_ (Reads.below HY.out (HBW.out.trans (HBI.out.mono (by omega)))) h
            exact ⟨ad, h1, by rw [h2]; simp [h]⟩
          by_cases hmy : m' < ys.length
          · obtain ⟨ad, rfl, hcy⟩ := hys hmy
            go_wp2_with (first
              | (go_at_call 14; refine (HCELL.out _ _).mono ?_; rintro e w3 ⟨r, v, rfl, hrok, ⟨sA, sD, rfl, hfr⟩, hb3⟩; obtain ⟨B1, B2, B3, B4, B5, B6, he⟩ := hfr.form; obtain ⟨rfl, rfl⟩ : sA = .slice B1 B2 B3 ∧ sD = .slice B4 B5 B6 := (by simpa using he); have hs3 := hb3.size)
              | (at_builtin; refine wpList_append_own _ rfl _ _ 50 rfl ws.heap.size 59 i0 _ 5 72 Tryz.underlying50 HI.out HZ0.out HZ1.out HZ2.out rfl (by decide) _ k _ rfl ((own_below hown.out hb3).alloc _) ⟨w3.heap.size, 0, none⟩ 1 1 [.bool r.lk, .bool r.t.neg, .slice B1 B2 B3, .slice B4 B5 B6, .int .i64 r.wd] rfl rfl (new_read w3 _ _) (all_one rfl) (by unfold maxLen; omega) (by omega) (by simp; omega) ?_; intro v' w4 hown4 hgrow _hn))
            have hown5 := (own_below hown.out hb3).alloc (.cells #[.bool r.lk, .bool r.t.neg, .slice B1 B2 B3, .slice B4 B5 B6, .int .i64 r.wd] 59)
            have hsr : ws.heap.size ≤ wr.heap.size := hszi
            have hb4 : Below ws.heap.size ws w4 := ((hbi.out.trans (hb3.mono hsr)).alloc (by omega) _).grown hgrow (by simp; omega) (fun j hj => (own_base hown.out hj).1)
            have hD3 : KeepT 195 w3 w4 := (KeepT.of_below ((Below.refl _ _).alloc (Nat.le_refl _) _)).trans (KeepT.grown hgrow (own_type hown5) (by decide))
            have hD : KeepT 195 wr w4 := (KeepT.of_below hb3).trans hD3
            refine ⟨⟨k + 1, m' + 1, ps ++ [(r, [.bool r.lk, .bool r.t.neg, .slice B1 B2 B3, .slice B4 B5 B6, .int .i64 r.wd])], by omega, by simp [hpl], by go_num, by go_num, by omega, ?_, ?_, ?_, hb4⟩, by simp [intOf]; omega⟩
            · show World.ownsRow _ _ _ _ _ _ _
              rw [flat5_snoc]
              exact hown4
            · show ∀ q ∈ _, _
              intro q hq
              rcases List.mem_append.1 hq with hq | hq
              · exact (hcs.out q hq).keep hD
              · rw [List.mem_singleton.1 hq]
                exact ⟨_, _, rfl, hfr.keep hD3⟩
            · show rfit _ _
              rw [List.map_append]
              obtain ⟨hl, hkd'⟩ := HKD.out
              exact rfit_snoc hfit.out (by rw [List.length_map]; exact hpl) hl (by rw [hkd']; exact hrok)
          · go_wp2_with (first
              | (go_at_call 14; refine (HCELL.out _ _).mono ?_; rintro e w3 ⟨r, v, rfl, hrok, ⟨sA, sD, rfl, hfr⟩, hb3⟩; obtain ⟨B1, B2, B3, B4, B5, B6, he⟩ := hfr.form; obtain ⟨rfl, rfl⟩ : sA = .slice B1 B2 B3 ∧ sD = .slice B4 B5 B6 := (by simpa using he); have hs3 := hb3.size)
              | (at_builtin; refine wpList_append_own _ rfl _ _ 50 rfl ws.heap.size 59 i0 _ 5 72 Tryz.underlying50 HI.out HZ0.out HZ1.out HZ2.out rfl (by decide) _ k _ rfl ((own_below hown.out hb3).alloc _) ⟨w3.heap.size, 0, none⟩ 1 1 [.bool r.lk, .bool r.t.neg, .slice B1 B2 B3, .slice B4 B5 B6, .int .i64 r.wd] rfl rfl (new_read w3 _ _) (all_one rfl) (by unfold maxLen; omega) (by omega) (by simp; omega) ?_; intro v' w4 hown4 hgrow _hn))
            have hown5 := (own_below hown.out hb3).alloc (.cells #[.bool r.lk, .bool r.t.neg, .slice B1 B2 B3, .slice B4 B5 B6, .int .i64 r.wd] 59)
            have hsr : ws.heap.size ≤ wr.heap.size := hszi
            have hb4 : Below ws.heap.size ws w4 := ((hbi.out.trans (hb3.mono hsr)).alloc (by omega) _).grown hgrow (by simp; omega) (fun j hj => (own_base hown.out hj).1)
            have hD3 : KeepT 195 w3 w4 := (KeepT.of_below ((Below.refl _ _).alloc (Nat.le_refl _) _)).trans (KeepT.grown hgrow (own_type hown5) (by decide))
            have hD : KeepT 195 wr w4 := (KeepT.of_below hb3).trans hD3
            refine ⟨⟨k + 1, m' + 1, ps ++ [(r, [.bool r.lk, .bool r.t.neg, .slice B1 B2 B3, .slice B4 B5 B6, .int .i64 r.wd])], by omega, by simp [hpl], by go_num, by go_num, by omega, ?_, ?_, ?_, hb4⟩, by simp [intOf]; omega⟩
            · show World.ownsRow _ _ _ _ _ _ _
              rw [flat5_snoc]
              exact hown4
            · show ∀ q ∈ _, _
              intro q hq
              rcases List.mem_append.1 hq with hq | hq
              · exact (hcs.out q hq).keep hD
              · rw [List.mem_singleton.1 hq]
                exact ⟨_, _, rfl, hfr.keep hD3⟩
            · show rfit _ _
              rw [List.map_append]
              obtain ⟨hl, hkd'⟩ := HKD.out
              exact rfit_snoc hfit.out (by rw [List.length_map]; exact hpl) hl (by rw [hkd']; exact hrok)
        · have t1' : wr.cell? ⟨w1.heap.size, 1, none⟩ = some rv := (hbi.out.cell (p := ⟨w1.heap.size, 1, none⟩) (by show w1.heap.size < _; omega)).trans t1
          obtain ⟨A5, c5, hA5, _⟩ := own_slice hown.out
          subst hA5
          have hrow' : ws.ownsRow (w1.heap.size + 1) 50 1 rv i (qs.map (·.2)) := by rw [← hql]; exact hrows.out.1
          have hT : Blk ws w1.heap.size 34 #[.slice (some ⟨g3, 0, none⟩) rs.length c3, rv] := hblk.out
          go_wp2_with (at_builtin; refine wpList_append_own _ rfl _ _ 32 rfl (w1.heap.size + 1) 50 i1 _ 1 24 Tryz.underlying32 HJ.out HY0.out HY1.out HY2.out rfl (by decide) _ i _ rfl ((own_below hrow' hbi.out).alloc _) ⟨wr.heap.size, 0, none⟩ 1 1 [.slice A5 k c5] rfl rfl (new_read wr _ _) (all_one rfl) (by unfold maxLen; omega) (by omega) (by simp; omega) ?_; intro v' w4 hown4 hgrow _hn; obtain ⟨A6, c6, rfl, _⟩ := own_slice hown4; have hT4 : Blk w4 w1.heap.size 34 #[.slice (some ⟨g3, 0, none⟩) rs.length c3, rv] := ((Blk.keep hT hbi.out).alloc _).grown hgrow (fun e => by have := (own_base hrow' e.symm).1; omega); have ft4 := hT4.frozen; have t4c := hT4.cell 1; simp only [List.getElem?_toArray, List.getElem?_cons_zero, List.getElem?_cons_succ] at t4c)
          have hown5 := (own_below hrow' hbi.out).alloc (.cells #[.slice A5 k c5] 50)
          have hkr : k = rs.length := by omega
          have hal : Below wr.heap.size wr (wr.alloc (.cells #[.slice A5 k c5] 50)) := (Below.refl _ _).alloc (Nat.le_refl _) _
          have K1 : ∀ t, t ≠ 50 → t ≠ 34 → KeepT t wr (w4.setCell ⟨w1.heap.size, 1, none⟩ (.slice A6 (i + 1) c6)) := fun t h1 h2 => ((KeepT.of_below hal).trans (KeepT.grown hgrow (own_type hown5) (Ne.symm h1))).trans (KeepT.setCell hT4 (Ne.symm h2) _)
          have K2 : ∀ t, t ≠ 50 → t ≠ 34 → KeepT t ws (w4.setCell ⟨w1.heap.size, 1, none⟩ (.slice A6 (i + 1) c6)) := fun t h1 h2 => (KeepT.of_below hbi.out).trans (K1 t h1 h2)
          have hB : Below w1.heap.size w1 (w4.setCell ⟨w1.heap.size, 1, none⟩ (.slice A6 (i + 1) c6)) := ((HBI.out.alloc (by omega) _).grown hgrow (by simp; omega) (fun j hj => by have := (own_base hrow' hj).1; omega)).setCell (Nat.le_refl _) _
          have hs4 := hgrow.size
          rw [World.size_alloc] at hs4
          refine ⟨⟨i + 1, m', .slice A6 (i + 1) c6, qs ++ [(ps.map (·.1), .slice A5 k c5)], by omega, by simp [hql], by go_num, rfl, by omega, hT4.set_ 1 _, ⟨?_, ?_⟩, ?_, hB, by have := ((Below.refl 0 w4).setCell (p := ⟨w1.heap.size, 1, none⟩) (Nat.zero_le _) (.slice A6 (i + 1) c6)).size; omega⟩, by simp [intOf]; omega⟩
          · have h5 := own_keepT hown4 (KeepT.setCell hT4 (by decide) (.slice A6 (i + 1) c6) (i := 1))
            rw [List.length_append, hql, List.map_append]
            exact h5
          · intro q hq
            rcases List.mem_append.1 hq with hq | hq
            · exact (hrows.out.2 q hq).keep (K2 _ (by decide) (by decide)) (K2 _ (by decide) (by decide))
            · rw [List.mem_singleton.1 hq]
              refine RRow.keep (w := wr) ⟨ws.heap.size, ps, rfl, ?_, hcs.out⟩ (K1 _ (by decide) (by decide)) (K1 _ (by decide) (by decide))
              rw [hpl]
              exact hown.out
          · show ∀ q ∈ _, _
            intro q hq
            rcases List.mem_append.1 hq with hq | hq
            · exact hfits.out q hq
            · rw [List.mem_singleton.1 hq]
              exact ⟨by simp [hpl, hkr], hfit.out⟩
    · have y0 : wr.cell? ⟨w.heap.size + 1, 0, none⟩ = some (.slice none 0 0) := (hbel.out.cell (p := ⟨w.heap.size + 1, 0, none⟩) (by show w.heap.size + 1 < _; omega)).trans (HBR.out.cell 0)
      have y1 : wr.cell? ⟨w.heap.size + 1, 1, none⟩ = some (.slice none 0 0) := (hbel.out.cell (p := ⟨w.heap.size + 1, 1, none⟩) (by show w.heap.size + 1 < _; omega)).trans (HBR.out.cell 1)
      have hbr : Blk wr (w.heap.size + 1) 34 #[.slice none 0 0, .slice none 0 0] := (hbel.out.block (w.heap.size + 1) (by omega)).trans HBR.out
      have fr := hbr.frozen
      obtain ⟨A4, c4, hA4, hc4⟩ := own_slice hrows.out.1
      subst hA4
      go_wp2_with (go_at_call 6; refine (HPK.out _).mono ?_; rintro e w' ⟨rfl, rfl⟩)
      have hip : i = p := by omega
      have hR1 := hbr.set_ 0 (.slice (some ⟨g3, 0, none⟩) rs.length c3)
      have K : ∀ t, t ≠ 34 → KeepT t wr ((wr.setCell ⟨w.heap.size + 1, 0, none⟩ (.slice (some ⟨g3, 0, none⟩) rs.length c3)).setCell ⟨w.heap.size + 1, 1, none⟩ (.slice A4 i c4)) := fun t h => (KeepT.setCell hbr (Ne.symm h) _).trans (KeepT.setCell hR1 (Ne.symm h) _)
      have K1 : ∀ t, t ≠ 34 → KeepT t w1 ((wr.setCell ⟨w.heap.size + 1, 0, none⟩ (.slice (some ⟨g3, 0, none⟩) rs.length c3)).setCell ⟨w.heap.size + 1, 1, none⟩ (.slice A4 i c4)) := fun t h => (KeepT.of_below hbel.out).trans (K t h)
      have hrr := hrows.out.keep (K _ (by decide)) (K _ (by decide)) (K _ (by decide))
      rw [hql] at hrr
      refine bodyPost_ret (results_row rfl _ _ (w.heap.size + 1) _ _ _ rfl (hR1.set_ 1 (.slice A4 i c4)) Tryz.underlying34 rfl infoRSheet) rfl ⟨_, _, _, _, _, rs, qs, rfl, own_keepT HC.out (K1 _ (by decide)), (K1 _ (by decide) _ _ _ HW.out).trans HW.out, HRO.out, HNO.out, hr1, hr6, hrr, by omega, hfits.out, ?_⟩
      exact ((HBW.out.trans (hbel.out.mono (by omega))).setCell (by show w.heap.size ≤ w.heap.size + 1; omega) _).setCell (by show w.heap.size ≤ w.heap.size + 1; omega) _
end Go.Proofs.YthallgbggkgboaaGreatDoor.Gp
namespace Go.Proofs.YthallgbggkgboaaGreatDoor.Gp
open Go Go.RowKit Ut

/- A cell of the program: does it lack, its fraction, its word. -/
structure PC where
  lk : Bool
  neg : Bool
  n : Int
  s : ByteArray
  d : Int
  s' : ByteArray
  wd : Nat
def PC.q (c : PC) : Value := .agg #[.bool c.neg, .int .u64 c.n, .string c.s, .int .u64 c.d, .string c.s']
def PC.cells (c : PC) : List Value := [.bool c.lk, .bool c.neg, .int .u64 c.n, .string c.s, .int .u64 c.d, .string c.s', .int .i64 c.wd]
def pcOk (kd : Nat) (c : PC) : Prop := QOk c.q ∧ ((c.lk = true ∧ c.q = qzV ∧ c.wd = 0) ∨ (c.lk = false ∧ kd = 0 ∧ c.wd = 0) ∨ (c.lk = false ∧ kd ≠ 0 ∧ c.q = qzV ∧ c.wd < kd))
def pflat (cs : List PC) : List Value := cs.flatMap PC.cells
def PRow (w : World) (base : Nat) (v : Value) (cs : List PC) : Prop := w.ownsRow base 102 7 v cs.length (pflat cs)
def pfit (ks : List Nat) (cs : List PC) : Prop := ∀ (i : Nat) (h : i < cs.length) (h' : i < ks.length), pcOk ks[i] cs[i]
def pFits (ks : List Nat) (cs : List PC) : Prop := cs.length = ks.length ∧ pfit ks cs
theorem pfit_snoc {ks : List Nat} {rs : List PC} {r : PC} (h : pfit ks rs) {k : Nat} (hk : rs.length = k) (hl : k < ks.length) (hr : pcOk ks[k] r) : pfit ks (rs ++ [r]) := fun i hi hi' => by
  by_cases hl : i < rs.length
  · rw [List.getElem_append_left hl]; exact h i hl hi'
  · have e : i = rs.length := by simp at hi; omega
    subst e
    rw [List.getElem_append_right (Nat.le_refl _)]
    simp only [Nat.sub_self, List.getElem_cons_zero]
    subst hk; exact hr
theorem pflat_snoc (cs : List PC) (c : PC) : pflat (cs ++ [c]) = pflat cs ++ c.cells := by unfold pflat; simp
theorem infoPC : (Tryz.prog.info? 102).map (fun i => (i.zero, i.size, i.bytes)) = some (some (.agg #[.bool false, .bool false, .int .u64 0, .string ⟨#[]⟩, .int .u64 0, .string ⟨#[]⟩, .int .i64 0]), 7, 72) := by kernel_rfl
theorem q_form {f : Value} (h : QOk f) (lk : Bool) (wd : Nat) : ∃ c : PC, f = c.q ∧ c.lk = lk ∧ c.wd = wd := by
  obtain ⟨h1, _⟩ := h
  have key : ∀ v : Value, isQ v = true → ∃ a b c d e, v = .agg #[.bool a, .int .u64 b, .string c, .int .u64 d, .string e] := fun v hv => by
    unfold isQ at hv
    split at hv
    · exact ⟨_, _, _, _, _, rfl⟩
    · cases hv
  obtain ⟨a, b, c, d, e, rfl⟩ := key f h1
  exact ⟨⟨lk, a, b, c, d, e, wd⟩, rfl, rfl, rfl⟩
theorem in_rc {kd : Nat} {r : RC} {v : Value} (w : World) (hok : rcOk kd r) (h : FracAt w r.t v) : Calls Tryz.prog 26 #[v] w fun e w' => ∃ c : PC, e = .returned (.agg #[.bool c.neg, .int .u64 c.n, .string c.s, .int .u64 c.d, .string c.s']) ∧ c.lk = r.lk ∧ c.wd = r.wd ∧ pcOk kd c ∧ Below w.heap.size w w' := by
  have z : r.t = patZ → Calls Tryz.prog 26 #[v] w fun e w' => ∃ c : PC, e = .returned c.q ∧ c.q = qzV ∧ c.lk = r.lk ∧ c.wd = r.wd ∧ QOk c.q ∧ Below w.heap.size w w' := fun e => by
    rw [e] at h
    refine (inz_any w h).mono ?_
    rintro e w' ⟨rfl, hb⟩
    obtain ⟨c, h1, h2, h3⟩ := q_form qz_ok r.lk r.wd
    exact ⟨c, by rw [h1], h1.symm, h2, h3, by rw [← h1]; exact qz_ok, hb⟩
  rcases hok with ⟨h1, h2, h3⟩ | ⟨h1, h2, h3, h4⟩ | ⟨h1, h2, h3, h4⟩
  · refine (z h2).mono ?_
    rintro e w' ⟨c, rfl, hq, e1, e2, hk, hb⟩
    exact ⟨c, rfl, e1, e2, ⟨hk, .inl ⟨e1.trans h1, hq, e2.trans h3⟩⟩, hb⟩
  · refine (in_any w h h3).mono ?_
    rintro e w' ⟨f, rfl, hk, hb⟩
    obtain ⟨c, rfl, e1, e2⟩ := q_form hk r.lk r.wd
    exact ⟨c, rfl, e1, e2, ⟨hk, .inr (.inl ⟨e1.trans h1, h2, e2.trans h4⟩)⟩, hb⟩
  · refine (z h3).mono ?_
    rintro e w' ⟨c, rfl, hq, e1, e2, hk, hb⟩
    exact ⟨c, rfl, e1, e2, ⟨hk, .inr (.inr ⟨e1.trans h1, h2, hq, by rw [e2]; exact h4⟩)⟩, hb⟩
theorem flatten_at {n : Nat} : ∀ (l : List (List Value)), (∀ x ∈ l, x.length = n) → ∀ (i : Nat) (h : i < l.length) (j : Nat), j < n → l.flatten[i * n + j]? = l[i][j]?
  | [], _, i, h, _, _ => by simp at h
  | x :: l, hx, i, h, j, hj => by
    rw [List.flatten_cons]
    have h7 := hx x (by simp)
    cases i with
    | zero => rw [Nat.zero_mul, Nat.zero_add, List.getElem?_append_left (by omega)]; rfl
    | succ i =>
      rw [List.getElem?_append_right (by rw [Nat.succ_mul]; omega), List.getElem_cons_succ, ← flatten_at l (fun y hy => hx y (by simp [hy])) i (by simpa using h) j hj]
      congr 1
      rw [Nat.succ_mul]
      omega

set_option maxHeartbeats 4000000 in
set_option maxRecDepth 100000 in
theorem incells_any (v : Value) (rs : List RC) (ks : List Nat) (w : World) (hv : RRow w v rs) (hf : rowFits ks rs) (h6 : ks.length ≤ 6) :
    Calls Tryz.prog 12 #[v] w fun e w' => ∃ (u : Value) (cs : List PC), e = .returned u ∧ PRow w' w.heap.size u cs ∧ pFits ks cs ∧ Below w.heap.size w w' := by
  obtain ⟨base, ps, rfl, hown, hps⟩ := hv
  obtain ⟨hlen, hfit⟩ := hf
  rw [List.length_map] at hlen
  obtain ⟨A, c, rfl, hcap⟩ := own_slice hown
  have hxs : ∀ x ∈ ps.map (·.2), x.length = 5 := fun x hx => by
    obtain ⟨p, hp, rfl⟩ := List.mem_map.1 hx
    obtain ⟨sA, sD, e, _⟩ := hps p hp
    rw [e]; rfl
  obtain ⟨i0, hi0, hz0, hz1, hz2⟩ := info_parts infoPC
  have HI := Lib.hid hi0
  have HZ0 := Lib.hid hz0
  have HZ1 := Lib.hid hz1
  have HZ2 := Lib.hid hz2
  have HO := Lib.hid hown
  have HP := Lib.hid hps
  have HF := Lib.hid hfit
  have HX := Lib.hid hxs
  have HL := Lib.hid hlen
  clear hi0 hz0 hz1 hz2 hown hps hfit hxs hlen
  go_enter Tryz.func12, Tryz.ntmps12
  go_wp2
  go_loopw [3, 4] (fun v i wr => ∃ (k : Nat) (cs : List PC), k ≤ ps.length ∧ cs.length = k ∧ i = .int .i64 k ∧ Hid (wr.ownsRow w.heap.size 102 7 v k (pflat cs)) ∧ Hid (pfit ks cs) ∧ Hid (Below w.heap.size w wr)) (fun _ i _ => ps.length - (intOf i).toNat)
  case atStart => exact ⟨0, [], Nat.zero_le _, rfl, rfl, World.ownsRow_nil _ _ _ _, (fun i hi => absurd hi (Nat.not_lt_zero _)), Below.refl _ _⟩
  case round =>
    obtain ⟨k, cs, hk, hcl, rfl, hown, hpf, hbel⟩ := hrel
    have h6' : k ≤ 6 := Nat.le_trans hk (HL.out ▸ h6)
    by_cases hgo : k < ps.length
    · obtain ⟨g, rfl, _, hg, hcl'⟩ := own_cell HO.out (by omega)
      obtain ⟨⟨r, l⟩, hpk⟩ : ∃ p, ps[k] = p := ⟨_, rfl⟩
      have hmem : (r, l) ∈ ps := hpk ▸ List.getElem_mem hgo
      obtain ⟨sA, sD, hl, hfr⟩ := HP.out _ hmem
      have hl : l = [.bool r.lk, .bool r.t.neg, sA, sD, .int .i64 r.wd] := hl
      subst hl
      have hfr : FracAt w r.t (.agg #[.bool r.t.neg, sA, sD]) := hfr
      obtain ⟨B1, B2, B3, B4, B5, B6, he⟩ := hfr.form
      obtain ⟨rfl, rfl⟩ : sA = .slice B1 B2 B3 ∧ sD = .slice B4 B5 B6 := by simpa using he
      have hat : ∀ j, j < 5 → ∀ u, ([.bool r.lk, .bool r.t.neg, .slice B1 B2 B3, .slice B4 B5 B6, .int .i64 r.wd] : List Value)[j]? = some u → wr.cell? ⟨g, k * 5 + j, none⟩ = some u := fun j hj u hu => (hbel.out.cell (p := ⟨g, k * 5 + j, none⟩) hg).trans (hcl' _ _ ((flatten_at _ HX.out k (by simpa using hgo) j hj).trans (by rw [List.getElem_map, hpk]; exact hu)))
      have q0 := hat 0 (by omega) _ rfl
      have q1 := hat 1 (by omega) _ rfl
      have q2 := hat 2 (by omega) _ rfl
      have q3 := hat 3 (by omega) _ rfl
      have q4 := hat 4 (by omega) _ rfl
      rw [Nat.add_zero] at q0
      have hks : k < ks.length := HL.out ▸ hgo
      have hok : rcOk ks[k] r := by have := HF.out k (by simpa using hgo) hks; rw [List.getElem_map, hpk] at this; exact this
      have HIN := Lib.hid (fun (W : World) (h : FracAt W r.t (.agg #[.bool r.t.neg, .slice B1 B2 B3, .slice B4 B5 B6])) => in_rc (kd := ks[k]) W hok h)
      have HFR : Hid (FracAt wr.drew r.t (.agg #[.bool r.t.neg, .slice B1 B2 B3, .slice B4 B5 B6])) := hfr.keep (KeepT.of_below hbel.out.drew)
      have hszw := hbel.out.size
      have hgw : g < wr.heap.size := by omega
      clear hat hcl' hfr he hmem
      go_wp2
      go_region_held3 (fun w' => w'.cell? ⟨g, k * 5, none⟩ = some (.bool r.lk) ∧ w'.cell? ⟨g, k * 5 + 1, none⟩ = some (.bool r.t.neg) ∧ w'.cell? ⟨g, k * 5 + 2, none⟩ = some (.slice B1 B2 B3) ∧ w'.cell? ⟨g, k * 5 + 3, none⟩ = some (.slice B4 B5 B6) ∧ w'.cell? ⟨g, k * 5 + 4, none⟩ = some (.int .i64 r.wd)) (simp [*, World.cell?_alloc_some])
        (first
          | (go_at_call 26; refine (HIN.out _ HFR.out).mono ?_; rintro e w1 ⟨c, rfl, hc1, hc2, hcok, hb1⟩; have HB1 : Below wr.heap.size wr w1 := (Below.refl _ _).drew.trans hb1; have hs1 := HB1.size; have x0 : w1.cell? ⟨g, k * 5, none⟩ = some (.bool r.lk) := (HB1.cell (p := ⟨g, k * 5, none⟩) hgw).trans q0; have x1 : w1.cell? ⟨g, k * 5 + 1, none⟩ = some (.bool r.t.neg) := (HB1.cell (p := ⟨g, k * 5 + 1, none⟩) hgw).trans q1; have x2 : w1.cell? ⟨g, k * 5 + 2, none⟩ = some (.slice B1 B2 B3) := (HB1.cell (p := ⟨g, k * 5 + 2, none⟩) hgw).trans q2; have x3 : w1.cell? ⟨g, k * 5 + 3, none⟩ = some (.slice B4 B5 B6) := (HB1.cell (p := ⟨g, k * 5 + 3, none⟩) hgw).trans q3; have x4 : w1.cell? ⟨g, k * 5 + 4, none⟩ = some (.int .i64 r.wd) := (HB1.cell (p := ⟨g, k * 5 + 4, none⟩) hgw).trans q4)
          | (refine step_own _ rfl _ _ 48 rfl w.heap.size 102 i0 _ 7 72 Tryz.underlying48 HI.out HZ0.out HZ1.out HZ2.out rfl (by decide) _ k _ rfl (own_below hown.out (HB1.alloc hs1 _)) ⟨w1.heap.size, 0, none⟩ 1 1 [.bool r.lk, .bool c.neg, .int .u64 c.n, .string c.s, .int .u64 c.d, .string c.s', .int .i64 r.wd] rfl rfl (new_read w1 _ _) (all_one rfl) (by unfold maxLen; omega) (by omega) (by simp; omega) ?_; intro v' w4 hown4 hgrow; have HB4 : Below w.heap.size w w4 := ((hbel.out.trans (HB1.mono hszw)).alloc (by omega) _).grown hgrow (by simp; omega) (fun j hj => (own_base hown.out hj).1); have HB5 : Below w.heap.size wr w4 := ((HB1.mono hszw).alloc (by omega) _).grown hgrow (by simp; omega) (fun j hj => (own_base hown.out hj).1); have y0 : w4.cell? ⟨g, k * 5, none⟩ = some (.bool r.lk) := (HB5.cell (p := ⟨g, k * 5, none⟩) hg).trans q0; have y1 : w4.cell? ⟨g, k * 5 + 1, none⟩ = some (.bool r.t.neg) := (HB5.cell (p := ⟨g, k * 5 + 1, none⟩) hg).trans q1; have y2 : w4.cell? ⟨g, k * 5 + 2, none⟩ = some (.slice B1 B2 B3) := (HB5.cell (p := ⟨g, k * 5 + 2, none⟩) hg).trans q2; have y3 : w4.cell? ⟨g, k * 5 + 3, none⟩ = some (.slice B4 B5 B6) := (HB5.cell (p := ⟨g, k * 5 + 3, none⟩) hg).trans q3; have y4 : w4.cell? ⟨g, k * 5 + 4, none⟩ = some (.int .i64 r.wd) := (HB5.cell (p := ⟨g, k * 5 + 4, none⟩) hg).trans q4))
      all_goals go_wp2
      all_goals
        have e : ([.bool r.lk, .bool c.neg, .int .u64 c.n, .string c.s, .int .u64 c.d, .string c.s', .int .i64 r.wd] : List Value) = c.cells := by unfold PC.cells; rw [hc1, hc2]
        refine ⟨⟨k + 1, cs ++ [c], by omega, by simp [hcl], by go_num, ?_, ?_, HB4⟩, by simp [intOf]; omega⟩
        · show World.ownsRow _ _ _ _ _ _ _
          rw [pflat_snoc, ← e]
          exact hown4
        · exact pfit_snoc hpf.out hcl hks hcok
    · obtain ⟨A3, c3, hA3, _⟩ := own_slice hown.out
      subst hA3
      have hkn : k = ps.length := by omega
      go_wp2
      go_ret
      exact ⟨_, cs, rfl, by unfold PRow; rw [hcl]; exact hown.out, ⟨by rw [hcl, hkn]; exact HL.out, hpf.out⟩, hbel.out⟩
end Go.Proofs.YthallgbggkgboaaGreatDoor.Gp
namespace Go.Proofs.YthallgbggkgboaaGreatDoor.Gp
open Go Go.RowKit Ut

def PRows (w : World) (base : Nat) (v : Value) (gs : List (List PC × Value)) : Prop := w.ownsRow base 48 1 v gs.length (gs.map (·.2)) ∧ ∀ q ∈ gs, ∃ b, PRow w b q.2 q.1
theorem infoPRow : (Tryz.prog.info? 48).map (fun i => (i.zero, i.size, i.bytes)) = some (some (.slice none 0 0), 1, 24) := by kernel_rfl
theorem infoPSheet : (Tryz.prog.info? 29).map (·.size) = some 2 := by kernel_rfl
theorem ofKind.keepT {kd : Nat} {w w' : World} {v : Value} (h : ofKind kd w v) (hk : KeepT 9 w w') : ofKind kd w' v := by
  unfold ofKind at h ⊢
  by_cases h0 : kd = 0
  · rw [if_pos h0] at h ⊢; exact h
  · rw [if_neg h0] at h ⊢
    obtain ⟨base, h⟩ := h
    exact ⟨base, own_keepT h hk⟩
theorem ColsAt.keepT {w w' : World} {v : Value} {cs : List CI} (h : ColsAt w v cs) (h1 : KeepT 9 w w') (h2 : KeepT 39 w w') : ColsAt w' v cs := by
  obtain ⟨⟨base, h3⟩, h4⟩ := h
  exact ⟨⟨base, own_keepT h3 h2⟩, fun c hc => ⟨(h4 c hc).1, (h4 c hc).2.keepT h1⟩⟩

theorem step_go {P : Program} {ops : Array Oper} {o : Oper} {a : Act} {w : World} {K : Act → World → Prop} {Q : Exit → Act → World → Prop} {E : Prop} (hgd : o.guard = none) (f : FuncId) (args : Array Value)
    (hrun : (execOp a.eval o).run P w = .ok (.enter f args) w) (h : Calls P f args w fun e w' => ∃ v, e = .returned v ∧ K (a.put o.dst v) w') :
    if Region.wanted o (yielded ops a.tmps) = true then Oper.wp P o a w K Q else E := by
  have hw : Region.wanted o (yielded ops a.tmps) = true := by simp [Region.wanted, hgd]
  rw [if_pos hw]
  unfold Oper.wp
  rw [hrun, Oper.upon_enter]
  refine h.mono fun e w' hh => ?_
  obtain ⟨v, rfl, hk⟩ := hh
  exact hk
set_option maxHeartbeats 4000000 in
set_option maxRecDepth 100000 in
theorem insheet_any (cv rv : Value) (b1 b2 g : Nat) (rs : List (ByteArray × Nat)) (qs : List (List RC × Value)) (w : World) (hc : RColsAt w b1 cv g rs) (hw : Blk w g 9 wordsC) (hro : rOk rs) (hr1 : 1 ≤ rs.length) (hr6 : rs.length ≤ 6) (hq : RRows w b2 rv qs) (hq12 : qs.length ≤ 12) (hfit : ∀ q ∈ qs, rowFits (rs.map (·.2)) q.1) :
    Calls Tryz.prog 4 #[.agg #[cv, rv]] w fun e w' => ∃ (cu ru : Value) (cs : List CI) (b : Nat) (gs : List (List PC × Value)), e = .returned (.agg #[cu, ru]) ∧ ColsAt w' cu cs ∧ cs.map CI.kd = rs.map (·.2) ∧ cs.map CI.nm = rs.map (·.1) ∧ PRows w' b ru gs ∧ gs.length = qs.length ∧ (∀ q ∈ gs, pFits (rs.map (·.2)) q.1) ∧ Below w.heap.size w w' := by
  obtain ⟨i1, hi1, hy0, hy1, hy2⟩ := info_parts infoPRow
  have HJ := Lib.hid hi1
  have HY0 := Lib.hid hy0
  have HY1 := Lib.hid hy1
  have HY2 := Lib.hid hy2
  clear hi1 hy0 hy1 hy2
  obtain ⟨A1, n1, hcv, _⟩ := own_slice hc
  subst hcv
  obtain ⟨A2, n2, hrv, _⟩ := own_slice hq.1
  subst hrv
  have HC : Hid (∀ o o', RColsAt ((w.alloc o).alloc o') b1 (.slice A1 rs.length n1) g rs ∧ Blk ((w.alloc o).alloc o') g 9 wordsC) := fun o o' => ⟨own_below hc (((Below.refl _ _).alloc (Nat.le_refl _) _).alloc (by simp) _), (hw.alloc _).alloc _⟩
  have HQ := Lib.hid hq
  have HF := Lib.hid hfit
  have hk6 : (rs.map (·.2)).length ≤ 6 := by rw [List.length_map]; exact hr6
  have HK6 := Lib.hid hk6
  clear hc hw hq hfit hk6
  go_enter Tryz.func4, Tryz.ntmps4
  go_wp2_with (first
    | (go_at_call 11; refine (incols_any _ _ _ _ _ (HC.out _ _).1 (HC.out _ _).2 hro hr1 hr6).mono ?_; rintro e w1 ⟨cu, cs, rfl, hcols, hkd, hnm, hb1⟩; obtain ⟨A3, c3, rfl⟩ := hcols.len))
  rw [show ∀ o o', ((w.alloc o).alloc o').heap.size = w.heap.size + 2 from fun _ _ => by simp] at hb1
  have hs1 := hb1.size
  rw [show ∀ o o', ((w.alloc o).alloc o').heap.size = w.heap.size + 2 from fun _ _ => by simp] at hs1
  have HCO := Lib.hid hcols
  have HKD := Lib.hid hkd
  have HNM := Lib.hid hnm
  have HBX : Hid (Blk w1 w.heap.size 34 #[.slice A1 rs.length n1, .slice A2 qs.length n2]) := (hb1.block w.heap.size (by omega)).trans ((Blk.new w _ _).alloc _)
  have HBR : Hid (Blk w1 (w.heap.size + 1) 29 #[.slice none 0 0, .slice none 0 0]) := (hb1.block (w.heap.size + 1) (by omega)).trans (Blk.new2 w _ _ _)
  have HBW : Hid (Below w.heap.size w w1) := (((Below.refl _ _).alloc (Nat.le_refl _) _).alloc (by simp) _).trans (hb1.mono (by omega))
  clear hcols hkd hnm hb1
  go_loopw [4] (fun iv wr => ∃ (i : Nat) (ru : Value) (gs : List (List PC × Value)), i ≤ qs.length ∧ gs.length = i ∧ iv = .int .i64 i ∧ Hid (Blk wr w1.heap.size 29 #[.slice A3 cs.length c3, ru]) ∧ Hid (PRows wr (w1.heap.size + 1) ru gs) ∧ Hid (∀ q ∈ gs, pFits (rs.map (·.2)) q.1) ∧ Hid (Below w1.heap.size w1 wr) ∧ w1.heap.size + 1 ≤ wr.heap.size) (fun i _ => qs.length - (intOf i).toNat)
  case atStart => exact ⟨0, _, [], Nat.zero_le _, rfl, rfl, Blk.new _ _ _, ⟨World.ownsRow_nil _ _ _ _, fun q hq => (by cases hq)⟩, (fun q hq => by cases hq), (Below.refl _ _).alloc (Nat.le_refl _) _, by simp⟩
  case round =>
    obtain ⟨i, ru, gs, hi, hgl, rfl, hblk, hrows, hfits, hbel, hsz⟩ := hrel
    have x1 : wr.cell? ⟨w.heap.size, 1, none⟩ = some (.slice A2 qs.length n2) := (hbel.out.cell (p := ⟨w.heap.size, 1, none⟩) (by show w.heap.size < _; omega)).trans (HBX.out.cell 1)
    have t0 : wr.cell? ⟨w1.heap.size, 0, none⟩ = some (.slice A3 cs.length c3) := hblk.out.cell 0
    have t1 : wr.cell? ⟨w1.heap.size, 1, none⟩ = some ru := hblk.out.cell 1
    obtain ⟨A4, c4, hA4, hc4⟩ := own_slice hrows.out.1
    rw [hgl] at hA4
    subst hA4
    by_cases hgo : i < qs.length
    · have hQw : RRows wr b2 (.slice A2 qs.length n2) qs := HQ.out.keep (KeepT.of_below (HBW.out.trans (hbel.out.mono (by omega)))) (KeepT.of_below (HBW.out.trans (hbel.out.mono (by omega)))) (KeepT.of_below (HBW.out.trans (hbel.out.mono (by omega))))
      obtain ⟨g4, rfl, _, hg4, hcl⟩ := own_cell hQw.1 (by omega)
      obtain ⟨⟨rc, qv⟩, hqi⟩ : ∃ q, qs[i] = q := ⟨_, rfl⟩
      have hmem : (rc, qv) ∈ qs := hqi ▸ List.getElem_mem hgo
      have z0 : wr.cell? ⟨g4, i, none⟩ = some qv := hcl i _ (by rw [List.getElem?_map, List.getElem?_eq_getElem hgo, hqi]; rfl)
      have hrow : RRow wr qv rc := hQw.2 _ hmem
      have hrf : rowFits (rs.map (·.2)) rc := HF.out _ hmem
      obtain ⟨_, ps4, _, ho, _⟩ := id hrow
      obtain ⟨A5, c5, hqv, _⟩ := own_slice ho
      subst hqv
      have HCALL : Hid (∀ W, Below wr.heap.size wr W → Calls Tryz.prog 12 #[.slice A5 _ c5] W fun e w' => ∃ (u : Value) (cs : List PC), e = .returned u ∧ PRow w' W.heap.size u cs ∧ pFits (rs.map (·.2)) cs ∧ Below W.heap.size W w') := fun W hW => incells_any _ _ _ W (hrow.keep (KeepT.of_below hW) (KeepT.of_below hW)) hrf HK6.out
      have hrow' : wr.ownsRow (w1.heap.size + 1) 48 1 (.slice A4 i c4) i (gs.map (·.2)) := by have := hrows.out.1; rw [hgl] at this; exact this
      have hT : Blk wr w1.heap.size 29 #[.slice A3 cs.length c3, .slice A4 i c4] := hblk.out
      clear hcl hQw ho hrow hrf hqi hmem
      go_wp2
      go_region_law (first
        | (refine step_go rfl 12 #[.slice A5 ps4.length c5] (by kernel_rfl) ?_; refine (HCALL.out wr.drew (Below.refl _ _).drew).mono ?_; rintro e w2 ⟨u, pcs, rfl, hpr, hpf, hb2⟩; obtain ⟨A6, c6, hu, _⟩ := own_slice hpr; subst hu; have HB2 : Below wr.heap.size wr w2 := (Below.refl _ _).drew.trans hb2; have hs2 := HB2.size; have z1 : w2.cell? ⟨w1.heap.size, 1, none⟩ = some (.slice A4 i c4) := (HB2.cell (p := ⟨w1.heap.size, 1, none⟩) (by show w1.heap.size < _; omega)).trans t1; have z2 : ∀ o, (w2.alloc o).cell? ⟨w1.heap.size, 1, none⟩ = some (.slice A4 i c4) := (fun o => (World.cell?_alloc_lt w2 o _ (by show w1.heap.size < _; omega)).trans z1); refine ⟨_, rfl, ?_⟩)
        | (refine step_own _ rfl _ _ 27 rfl (w1.heap.size + 1) 48 i1 _ 1 24 Tryz.underlying27 HJ.out HY0.out HY1.out HY2.out rfl (by decide) _ i _ rfl (own_below hrow' (HB2.alloc hs2 _)) ⟨w2.heap.size, 0, none⟩ 1 1 [.slice A6 pcs.length c6] rfl rfl (new_read w2 _ _) (all_one rfl) (by unfold maxLen; omega) (by omega) (by simp; omega) ?_; intro v' w4 hown4 hgrow; obtain ⟨A7, c7, hv', _⟩ := own_slice hown4; subst hv'; have hT4 : Blk w4 w1.heap.size 29 #[.slice A3 cs.length c3, .slice A4 i c4] := ((Blk.keep hT HB2).alloc _).grown hgrow (fun e => by have := (own_base hrow' e.symm).1; omega); have ft4 := hT4.frozen; have t4c := hT4.cell 1; simp only [List.getElem?_toArray, List.getElem?_cons_zero, List.getElem?_cons_succ] at t4c))
      all_goals go_wp2
      all_goals
        have hown5 := own_below hrow' (HB2.alloc hs2 (.cells #[.slice A6 pcs.length c6] 48))
        have hal : Below w2.heap.size w2 (w2.alloc (.cells #[.slice A6 pcs.length c6] 48)) := (Below.refl _ _).alloc (Nat.le_refl _) _
        have K1 : ∀ t, t ≠ 48 → t ≠ 29 → KeepT t w2 (w4.setCell ⟨w1.heap.size, 1, none⟩ (.slice A7 (i + 1) c7)) := fun t h1 h2 => ((KeepT.of_below hal).trans (KeepT.grown hgrow (own_type hown5) (Ne.symm h1))).trans (KeepT.setCell hT4 (Ne.symm h2) _)
        have K2 : ∀ t, t ≠ 48 → t ≠ 29 → KeepT t wr (w4.setCell ⟨w1.heap.size, 1, none⟩ (.slice A7 (i + 1) c7)) := fun t h1 h2 => (KeepT.of_below HB2).trans (K1 t h1 h2)
        have hB : Below w1.heap.size w1 (w4.setCell ⟨w1.heap.size, 1, none⟩ (.slice A7 (i + 1) c7)) := (((hbel.out.trans (HB2.mono (by omega))).alloc (by omega) _).grown hgrow (by simp; omega) (fun j hj => by have := (own_base hrow' hj).1; omega)).setCell (Nat.le_refl _) _
        have hs4 := hgrow.size
        rw [World.size_alloc] at hs4
        refine ⟨⟨i + 1, .slice A7 (i + 1) c7, gs ++ [(pcs, .slice A6 pcs.length c6)], by omega, by simp [hgl], by go_num, hT4.set_ 1 _, ⟨?_, ?_⟩, ?_, hB, by have := ((Below.refl 0 w4).setCell (p := ⟨w1.heap.size, 1, none⟩) (Nat.zero_le _) (.slice A7 (i + 1) c7)).size; omega⟩, by simp [intOf]; omega⟩
        · have h5 := own_keepT hown4 (KeepT.setCell hT4 (by decide) (.slice A7 (i + 1) c7) (i := 1))
          rw [List.length_append, hgl, List.map_append]
          exact h5
        · intro q hq
          rcases List.mem_append.1 hq with hq | hq
          · obtain ⟨b, hb⟩ := hrows.out.2 q hq
            exact ⟨b, own_keepT hb (K2 _ (by decide) (by decide))⟩
          · rw [List.mem_singleton.1 hq]
            exact ⟨_, own_keepT hpr (K1 _ (by decide) (by decide))⟩
        · show ∀ q ∈ _, _
          intro q hq
          rcases List.mem_append.1 hq with hq | hq
          · exact hfits.out q hq
          · rw [List.mem_singleton.1 hq]; exact hpf
    · have y0 : wr.cell? ⟨w.heap.size + 1, 0, none⟩ = some (.slice none 0 0) := (hbel.out.cell (p := ⟨w.heap.size + 1, 0, none⟩) (by show w.heap.size + 1 < _; omega)).trans (HBR.out.cell 0)
      have y1 : wr.cell? ⟨w.heap.size + 1, 1, none⟩ = some (.slice none 0 0) := (hbel.out.cell (p := ⟨w.heap.size + 1, 1, none⟩) (by show w.heap.size + 1 < _; omega)).trans (HBR.out.cell 1)
      have hbr : Blk wr (w.heap.size + 1) 29 #[.slice none 0 0, .slice none 0 0] := (hbel.out.block (w.heap.size + 1) (by omega)).trans HBR.out
      have fr := hbr.frozen
      go_wp2
      have hip : i = qs.length := by omega
      have hR1 := hbr.set_ 0 (.slice A3 cs.length c3)
      have K : ∀ t, t ≠ 29 → KeepT t wr ((wr.setCell ⟨w.heap.size + 1, 0, none⟩ (.slice A3 cs.length c3)).setCell ⟨w.heap.size + 1, 1, none⟩ (.slice A4 i c4)) := fun t h => (KeepT.setCell hbr (Ne.symm h) _).trans (KeepT.setCell hR1 (Ne.symm h) _)
      have K1 : ∀ t, t ≠ 29 → KeepT t w1 ((wr.setCell ⟨w.heap.size + 1, 0, none⟩ (.slice A3 cs.length c3)).setCell ⟨w.heap.size + 1, 1, none⟩ (.slice A4 i c4)) := fun t h => (KeepT.of_below hbel.out).trans (K t h)
      refine bodyPost_ret (results_row rfl _ _ (w.heap.size + 1) _ _ _ rfl (hR1.set_ 1 (.slice A4 i c4)) Tryz.underlying29 rfl infoPSheet) rfl ⟨_, _, cs, w1.heap.size + 1, gs, rfl, HCO.out.keepT (K1 _ (by decide)) (K1 _ (by decide)), HKD.out, HNM.out, ⟨?_, fun q hq => ?_⟩, hgl.trans hip, hfits.out, ?_⟩
      · have h := own_keepT hrows.out.1 (K _ (by decide))
        exact h
      · obtain ⟨b, hb⟩ := hrows.out.2 q hq
        exact ⟨b, own_keepT hb (K _ (by decide))⟩
      · exact ((HBW.out.trans (hbel.out.mono (by omega))).setCell (by show w.heap.size ≤ w.heap.size + 1; omega) _).setCell (by show w.heap.size ≤ w.heap.size + 1; omega) _
end Go.Proofs.YthallgbggkgboaaGreatDoor.Gp
