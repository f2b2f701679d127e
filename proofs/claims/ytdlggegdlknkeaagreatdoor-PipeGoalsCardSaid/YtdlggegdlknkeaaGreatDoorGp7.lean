/-
  The sheet, as the program's.
-/
import Derived.Test.YtdlggegdlknkeaaGreatDoorGp6
import Derived.Deep.RegionLaw
namespace Go.Proofs.YtdlggegdlknkeaaGreatDoor.Gp
open Go Go.RowKit Ut

def PRows (w : World) (base : Nat) (v : Value) (gs : List (List PC × Value)) : Prop := w.ownsRow base 47 1 v gs.length (gs.map (·.2)) ∧ ∀ q ∈ gs, ∃ b, PRow w b q.2 q.1
theorem infoPRow : (Tryz.prog.info? 47).map (fun i => (i.zero, i.size, i.bytes)) = some (some (.slice none 0 0), 1, 24) := by kernel_rfl
theorem infoPSheet : (Tryz.prog.info? 28).map (·.size) = some 2 := by kernel_rfl
theorem ofKind.keepT {kd : Nat} {w w' : World} {v : Value} (h : ofKind kd w v) (hk : KeepT 9 w w') : ofKind kd w' v := by
  unfold ofKind at h ⊢
  by_cases h0 : kd = 0
  · rw [if_pos h0] at h ⊢; exact h
  · rw [if_neg h0] at h ⊢
    obtain ⟨base, h⟩ := h
    exact ⟨base, own_keepT h hk⟩
theorem ColsAt.keepT {w w' : World} {v : Value} {cs : List CI} (h : ColsAt w v cs) (h1 : KeepT 9 w w') (h2 : KeepT 64 w w') : ColsAt w' v cs := by
  obtain ⟨⟨base, h3⟩, h4⟩ := h
  exact ⟨⟨base, own_keepT h3 h2⟩, fun c hc => ⟨(h4 c hc).1, (h4 c hc).2.keepT h1⟩⟩

theorem step_go {P : Program} {ops : Array Oper} {o : Oper} {a : Act} {w : World} {K : Act → World → Prop} {Q : Exit → Act → World → Prop} {E : Prop} (hgd : o.guard = none) (f : FuncId) (args : Array Value)
    (hrun : (execOp a.eval o).run P w = .ok (.enter f args) w) (h : Calls P f args w fun e w' => ∃ v, e = .returned v ∧ K (a.put o.dst v) w') :
    if Region.wanted o (yielded ops a.tmps) = true then Oper.wp P o a w K Q else E := by
  have hw : Region.wanted o (yielded ops a.tmps) = true := by simp [Region.wanted, hgd]
  rw [if_pos hw]
  unfold Oper.wp
  rw [hrun, Oper.upon_enter]
  refine h.mono fun e w' hh => ?_
  obtain ⟨v, rfl, hk⟩ := hh
  exact hk
set_option maxHeartbeats 4000000 in
set_option maxRecDepth 100000 in
theorem insheet_any (cv rv : Value) (b1 b2 g : Nat) (rs : List (ByteArray × Nat)) (qs : List (List RC × Value)) (w : World) (hc : RColsAt w b1 cv g rs) (hw : Blk w g 9 wordsC) (hro : rOk rs) (hr1 : 1 ≤ rs.length) (hr6 : rs.length ≤ 6) (hq : RRows w b2 rv qs) (hq12 : qs.length ≤ 12) (hfit : ∀ q ∈ qs, rowFits (rs.map (·.2)) q.1) :
    Calls Tryz.prog 4 #[.agg #[cv, rv]] w fun e w' => ∃ (cu ru : Value) (cs : List CI) (b : Nat) (gs : List (List PC × Value)), e = .returned (.agg #[cu, ru]) ∧ ColsAt w' cu cs ∧ cs.map CI.kd = rs.map (·.2) ∧ cs.map CI.nm = rs.map (·.1) ∧ PRows w' b ru gs ∧ gs.length = qs.length ∧ (∀ q ∈ gs, pFits (rs.map (·.2)) q.1) ∧ Below w.heap.size w w' := by
  obtain ⟨i1, hi1, hy0, hy1, hy2⟩ := info_parts infoPRow
  have HJ := Lib.hid hi1
  have HY0 := Lib.hid hy0
  have HY1 := Lib.hid hy1
  have HY2 := Lib.hid hy2
  clear hi1 hy0 hy1 hy2
  obtain ⟨A1, n1, hcv, _⟩ := own_slice hc
  subst hcv
  obtain ⟨A2, n2, hrv, _⟩ := own_slice hq.1
  subst hrv
  have HC : Hid (∀ o o', RColsAt ((w.alloc o).alloc o') b1 (.slice A1 rs.length n1) g rs ∧ Blk ((w.alloc o).alloc o') g 9 wordsC) := fun o o' => ⟨own_below hc (((Below.refl _ _).alloc (Nat.le_refl _) _).alloc (by simp) _), (hw.alloc _).alloc _⟩
  have HQ := Lib.hid hq
  have HF := Lib.hid hfit
  have hk6 : (rs.map (·.2)).length ≤ 6 := by rw [List.length_map]; exact hr6
  have HK6 := Lib.hid hk6
  clear hc hw hq hfit hk6
  go_enter Tryz.func4, Tryz.ntmps4
  go_wp2_with (first
    | (go_at_call 12; refine (incols_any _ _ _ _ _ (HC.out _ _).1 (HC.out _ _).2 hro hr1 hr6).mono ?_; rintro e w1 ⟨cu, cs, rfl, hcols, hkd, hnm, hb1⟩; obtain ⟨A3, c3, rfl⟩ := hcols.len))
  rw [show ∀ o o', ((w.alloc o).alloc o').heap.size = w.heap.size + 2 from fun _ _ => by simp] at hb1
  have hs1 := hb1.size
  rw [show ∀ o o', ((w.alloc o).alloc o').heap.size = w.heap.size + 2 from fun _ _ => by simp] at hs1
  have HCO := Lib.hid hcols
  have HKD := Lib.hid hkd
  have HNM := Lib.hid hnm
  have HBX : Hid (Blk w1 w.heap.size 33 #[.slice A1 rs.length n1, .slice A2 qs.length n2]) := (hb1.block w.heap.size (by omega)).trans ((Blk.new w _ _).alloc _)
  have HBR : Hid (Blk w1 (w.heap.size + 1) 28 #[.slice none 0 0, .slice none 0 0]) := (hb1.block (w.heap.size + 1) (by omega)).trans (Blk.new2 w _ _ _)
  have HBW : Hid (Below w.heap.size w w1) := (((Below.refl _ _).alloc (Nat.le_refl _) _).alloc (by simp) _).trans (hb1.mono (by omega))
  clear hcols hkd hnm hb1
  go_loopw [4] (fun iv wr => ∃ (i : Nat) (ru : Value) (gs : List (List PC × Value)), i ≤ qs.length ∧ gs.length = i ∧ iv = .int .i64 i ∧ Hid (Blk wr w1.heap.size 28 #[.slice A3 cs.length c3, ru]) ∧ Hid (PRows wr (w1.heap.size + 1) ru gs) ∧ Hid (∀ q ∈ gs, pFits (rs.map (·.2)) q.1) ∧ Hid (Below w1.heap.size w1 wr) ∧ w1.heap.size + 1 ≤ wr.heap.size) (fun i _ => qs.length - (intOf i).toNat)
  case atStart => exact ⟨0, _, [], Nat.zero_le _, rfl, rfl, Blk.new _ _ _, ⟨World.ownsRow_nil _ _ _ _, fun q hq => (by cases hq)⟩, (fun q hq => by cases hq), (Below.refl _ _).alloc (Nat.le_refl _) _, by simp⟩
  case round =>
    obtain ⟨i, ru, gs, hi, hgl, rfl, hblk, hrows, hfits, hbel, hsz⟩ := hrel
    have x1 : wr.cell? ⟨w.heap.size, 1, none⟩ = some (.slice A2 qs.length n2) := (hbel.out.cell (p := ⟨w.heap.size, 1, none⟩) (by show w.heap.size < _; omega)).trans (HBX.out.cell 1)
    have t0 : wr.cell? ⟨w1.heap.size, 0, none⟩ = some (.slice A3 cs.length c3) := hblk.out.cell 0
    have t1 : wr.cell? ⟨w1.heap.size, 1, none⟩ = some ru := hblk.out.cell 1
    obtain ⟨A4, c4, hA4, hc4⟩ := own_slice hrows.out.1
    rw [hgl] at hA4
    subst hA4
    by_cases hgo : i < qs.length
    · have hQw : RRows wr b2 (.slice A2 qs.length n2) qs := HQ.out.keep (KeepT.of_below (HBW.out.trans (hbel.out.mono (by omega)))) (KeepT.of_below (HBW.out.trans (hbel.out.mono (by omega)))) (KeepT.of_below (HBW.out.trans (hbel.out.mono (by omega))))
      obtain ⟨g4, rfl, _, hg4, hcl⟩ := own_cell hQw.1 (by omega)
      obtain ⟨⟨rc, qv⟩, hqi⟩ : ∃ q, qs[i] = q := ⟨_, rfl⟩
      have hmem : (rc, qv) ∈ qs := hqi ▸ List.getElem_mem hgo
      have z0 : wr.cell? ⟨g4, i, none⟩ = some qv := hcl i _ (by rw [List.getElem?_map, List.getElem?_eq_getElem hgo, hqi]; rfl)
      have hrow : RRow wr qv rc := hQw.2 _ hmem
      have hrf : rowFits (rs.map (·.2)) rc := HF.out _ hmem
      obtain ⟨_, ps4, _, ho, _⟩ := id hrow
      obtain ⟨A5, c5, hqv, _⟩ := own_slice ho
      subst hqv
      have HCALL : Hid (∀ W, Below wr.heap.size wr W → Calls Tryz.prog 13 #[.slice A5 _ c5] W fun e w' => ∃ (u : Value) (cs : List PC), e = .returned u ∧ PRow w' W.heap.size u cs ∧ pFits (rs.map (·.2)) cs ∧ Below W.heap.size W w') := fun W hW => incells_any _ _ _ W (hrow.keep (KeepT.of_below hW) (KeepT.of_below hW)) hrf HK6.out
      have hrow' : wr.ownsRow (w1.heap.size + 1) 47 1 (.slice A4 i c4) i (gs.map (·.2)) := by have := hrows.out.1; rw [hgl] at this; exact this
      have hT : Blk wr w1.heap.size 28 #[.slice A3 cs.length c3, .slice A4 i c4] := hblk.out
      clear hcl hQw ho hrow hrf hqi hmem
      go_wp2
      go_region_law (first
        | (refine step_go rfl 13 #[.slice A5 ps4.length c5] (by kernel_rfl) ?_; refine (HCALL.out wr.drew (Below.refl _ _).drew).mono ?_; rintro e w2 ⟨u, pcs, rfl, hpr, hpf, hb2⟩; obtain ⟨A6, c6, hu, _⟩ := own_slice hpr; subst hu; have HB2 : Below wr.heap.size wr w2 := (Below.refl _ _).drew.trans hb2; have hs2 := HB2.size; have z1 : w2.cell? ⟨w1.heap.size, 1, none⟩ = some (.slice A4 i c4) := (HB2.cell (p := ⟨w1.heap.size, 1, none⟩) (by show w1.heap.size < _; omega)).trans t1; have z2 : ∀ o, (w2.alloc o).cell? ⟨w1.heap.size, 1, none⟩ = some (.slice A4 i c4) := (fun o => (World.cell?_alloc_lt w2 o _ (by show w1.heap.size < _; omega)).trans z1); refine ⟨_, rfl, ?_⟩)
        | (refine step_own _ rfl _ _ 26 rfl (w1.heap.size + 1) 47 i1 _ 1 24 Tryz.underlying26 HJ.out HY0.out HY1.out HY2.out rfl (by decide) _ i _ rfl (own_below hrow' (HB2.alloc hs2 _)) ⟨w2.heap.size, 0, none⟩ 1 1 [.slice A6 pcs.length c6] rfl rfl (new_read w2 _ _) (all_one rfl) (by unfold maxLen; omega) (by omega) (by simp; omega) ?_; intro v' w4 hown4 hgrow; obtain ⟨A7, c7, hv', _⟩ := own_slice hown4; subst hv'; have hT4 : Blk w4 w1.heap.size 28 #[.slice A3 cs.length c3, .slice A4 i c4] := ((Blk.keep hT HB2).alloc _).grown hgrow (fun e => by have := (own_base hrow' e.symm).1; omega); have ft4 := hT4.frozen; have t4c := hT4.cell 1; simp only [List.getElem?_toArray, List.getElem?_cons_zero, List.getElem?_cons_succ] at t4c))
      all_goals go_wp2
      all_goals
        have hown5 := own_below hrow' (HB2.alloc hs2 (.cells #[.slice A6 pcs.length c6] 47))
        have hal : Below w2.heap.size w2 (w2.alloc (.cells #[.slice A6 pcs.length c6] 47)) := (Below.refl _ _).alloc (Nat.le_refl _) _
        have K1 : ∀ t, t ≠ 47 → t ≠ 28 → KeepT t w2 (w4.setCell ⟨w1.heap.size, 1, none⟩ (.slice A7 (i + 1) c7)) := fun t h1 h2 => ((KeepT.of_below hal).trans (KeepT.grown hgrow (own_type hown5) (Ne.symm h1))).trans (KeepT.setCell hT4 (Ne.symm h2) _)
        have K2 : ∀ t, t ≠ 47 → t ≠ 28 → KeepT t wr (w4.setCell ⟨w1.heap.size, 1, none⟩ (.slice A7 (i + 1) c7)) := fun t h1 h2 => (KeepT.of_below HB2).trans (K1 t h1 h2)
        have hB : Below w1.heap.size w1 (w4.setCell ⟨w1.heap.size, 1, none⟩ (.slice A7 (i + 1) c7)) := (((hbel.out.trans (HB2.mono (by omega))).alloc (by omega) _).grown hgrow (by simp; omega) (fun j hj => by have := (own_base hrow' hj).1; omega)).setCell (Nat.le_refl _) _
        have hs4 := hgrow.size
        rw [World.size_alloc] at hs4
        refine ⟨⟨i + 1, .slice A7 (i + 1) c7, gs ++ [(pcs, .slice A6 pcs.length c6)], by omega, by simp [hgl], by go_num, hT4.set_ 1 _, ⟨?_, ?_⟩, ?_, hB, by have := ((Below.refl 0 w4).setCell (p := ⟨w1.heap.size, 1, none⟩) (Nat.zero_le _) (.slice A7 (i + 1) c7)).size; omega⟩, by simp [intOf]; omega⟩
        · have h5 := own_keepT hown4 (KeepT.setCell hT4 (by decide) (.slice A7 (i + 1) c7) (i := 1))
          rw [List.length_append, hgl, List.map_append]
          exact h5
        · intro q hq
          rcases List.mem_append.1 hq with hq | hq
          · obtain ⟨b, hb⟩ := hrows.out.2 q hq
            exact ⟨b, own_keepT hb (K2 _ (by decide) (by decide))⟩
          · rw [List.mem_singleton.1 hq]
            exact ⟨_, own_keepT hpr (K1 _ (by decide) (by decide))⟩
        · show ∀ q ∈ _, _
          intro q hq
          rcases List.mem_append.1 hq with hq | hq
          · exact hfits.out q hq
          · rw [List.mem_singleton.1 hq]; exact hpf
    · have y0 : wr.cell? ⟨w.heap.size + 1, 0, none⟩ = some (.slice none 0 0) := (hbel.out.cell (p := ⟨w.heap.size + 1, 0, none⟩) (by show w.heap.size + 1 < _; omega)).trans (HBR.out.cell 0)
      have y1 : wr.cell? ⟨w.heap.size + 1, 1, none⟩ = some (.slice none 0 0) := (hbel.out.cell (p := ⟨w.heap.size + 1, 1, none⟩) (by show w.heap.size + 1 < _; omega)).trans (HBR.out.cell 1)
      have hbr : Blk wr (w.heap.size + 1) 28 #[.slice none 0 0, .slice none 0 0] := (hbel.out.block (w.heap.size + 1) (by omega)).trans HBR.out
      have fr := hbr.frozen
      go_wp2
      have hip : i = qs.length := by omega
      have hR1 := hbr.set_ 0 (.slice A3 cs.length c3)
      have K : ∀ t, t ≠ 28 → KeepT t wr ((wr.setCell ⟨w.heap.size + 1, 0, none⟩ (.slice A3 cs.length c3)).setCell ⟨w.heap.size + 1, 1, none⟩ (.slice A4 i c4)) := fun t h => (KeepT.setCell hbr (Ne.symm h) _).trans (KeepT.setCell hR1 (Ne.symm h) _)
      have K1 : ∀ t, t ≠ 28 → KeepT t w1 ((wr.setCell ⟨w.heap.size + 1, 0, none⟩ (.slice A3 cs.length c3)).setCell ⟨w.heap.size + 1, 1, none⟩ (.slice A4 i c4)) := fun t h => (KeepT.of_below hbel.out).trans (K t h)
      refine bodyPost_ret (results_row rfl _ _ (w.heap.size + 1) _ _ _ rfl (hR1.set_ 1 (.slice A4 i c4)) Tryz.underlying28 rfl infoPSheet) rfl ⟨_, _, cs, w1.heap.size + 1, gs, rfl, HCO.out.keepT (K1 _ (by decide)) (K1 _ (by decide)), HKD.out, HNM.out, ⟨?_, fun q hq => ?_⟩, hgl.trans hip, hfits.out, ?_⟩
      · have h := own_keepT hrows.out.1 (K _ (by decide))
        exact h
      · obtain ⟨b, hb⟩ := hrows.out.2 q hq
        exact ⟨b, own_keepT hb (K _ (by decide))⟩
      · exact ((HBW.out.trans (hbel.out.mono (by omega))).setCell (by show w.heap.size ≤ w.heap.size + 1; omega) _).setCell (by show w.heap.size ≤ w.heap.size + 1; omega) _
end Go.Proofs.YtdlggegdlknkeaaGreatDoor.Gp
