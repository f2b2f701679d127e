/-
  The columns that are made: as the program's.
-/
import Derived.Test.YtdlggegdlknkeaaGreatDoorGp1
namespace Go.Proofs.YtdlggegdlknkeaaGreatDoor.Gp
open Go Go.RowKit Ut

set_option maxHeartbeats 4000000 in
set_option maxRecDepth 100000 in
theorem incols_any (v : Value) (g base : Nat) (rs : List (ByteArray × Nat)) (w : World) (hv : RColsAt w base v g rs) (hw : Blk w g 9 wordsC) (hok : rOk rs) (h1 : 1 ≤ rs.length) (h6 : rs.length ≤ 6) :
    Calls Tryz.prog 12 #[v] w fun e w' => ∃ (u : Value) (cs : List CI), e = .returned u ∧ ColsAt w' u cs ∧ cs.map CI.kd = rs.map (·.2) ∧ cs.map CI.nm = rs.map (·.1) ∧ Below w.heap.size w w' := by
  obtain ⟨A, c, rfl, _⟩ := own_slice hv
  obtain ⟨g1, rfl, _, hg1, hcl⟩ := own_cell hv (by omega)
  have HV := Lib.hid hcl
  have HW := Lib.hid hw
  have HOK := Lib.hid hok
  obtain ⟨i0, hi0, hz0, hz1, hz2⟩ := info_parts infoCol
  have HI := Lib.hid hi0
  have HZ0 := Lib.hid hz0
  have HZ1 := Lib.hid hz1
  have HZ2 := Lib.hid hz2
  obtain ⟨i1, hi1, hy0, hy1, hy2⟩ := info_parts infoStr
  have HJ := Lib.hid hi1
  have HY0 := Lib.hid hy0
  have HY1 := Lib.hid hy1
  have HY2 := Lib.hid hy2
  clear hi0 hz0 hz1 hz2 hi1 hy0 hy1 hy2 hv hw hok hcl
  go_enter Tryz.func12, Tryz.ntmps12
  go_wp2
  go_loopw [3, 4] (fun v i wr => ∃ (k : Nat) (cs : List CI), k ≤ rs.length ∧ cs.length = k ∧ i = .int .i64 k ∧ Hid (cs.map CI.kd = (rs.map (·.2)).take k) ∧ Hid (cs.map CI.nm = (rs.map (·.1)).take k) ∧ Hid (wr.ownsRow w.heap.size 64 3 v k (flat cs)) ∧ Hid (∀ c ∈ cs, c.kd ≤ 5 ∧ ofKind c.kd wr c.wd) ∧ Below w.heap.size w wr) (fun _ i _ => rs.length - (intOf i).toNat)
  case atStart => exact ⟨0, [], Nat.zero_le _, rfl, rfl, rfl, rfl, (World.ownsRow_nil _ _ _ _), (fun q hq => by cases hq), Below.refl _ _⟩
  case round =>
    obtain ⟨k, cs, hk, hcl, rfl, hkd, hnm, hown, hall, hbel⟩ := hrel
    have hsz := hbel.size
    by_cases hgo : k < rs.length
    · have at' : ∀ j, j < 3 → ∀ u, (rcCells g rs[k])[j]? = some u → wr.cell? ⟨g1, k * 3 + j, none⟩ = some u := fun j hj u hu => (hbel.cell (p := ⟨g1, k * 3 + j, none⟩) hg1).trans (HV.out _ _ ((rflat_at g rs k hgo j hj).trans hu))
      obtain ⟨nm, kd, hrk⟩ : ∃ nm kd, rs[k] = (nm, kd) := ⟨_, _, rfl⟩
      have hkd5 : kd ≤ 5 := by have := HOK.out rs[k] (List.getElem_mem hgo); rw [hrk] at this; exact this
      have HRK := Lib.hid hrk
      rw [hrk] at at'
      have c0 := at' 0 (by omega) _ rfl
      have c1 := at' 1 (by omega) _ rfl
      have c2 := at' 2 (by omega) _ rfl
      rw [Nat.add_zero] at c0
      clear at' hrk
      have HB := Lib.hid hbel
      clear hbel
      have hkd' : Hid ((rs.map (·.2)).take (k + 1) = (rs.map (·.2)).take k ++ [kd]) := by
        show _ = _
        have hl : k < (rs.map (·.2)).length := by simpa using hgo
        rw [List.take_succ_eq_append_getElem hl, List.getElem_map, HRK.out]
      have hnm' : Hid ((rs.map (·.1)).take (k + 1) = (rs.map (·.1)).take k ++ [nm]) := by
        show _ = _
        have hl : k < (rs.map (·.1)).length := by simpa using hgo
        rw [List.take_succ_eq_append_getElem hl, List.getElem_map, HRK.out]
      have hsl : Hid (wr.ownsRow w.heap.size 64 3 u3 k (flat cs)) := hown
      by_cases h0 : kd = 0
      · subst h0
        have c1' : wr.cell? ⟨g1, k * 3 + 1, none⟩ = some (.int .i64 1) := c1
        have c2' : wr.cell? ⟨g1, k * 3 + 2, none⟩ = some (.slice none 0 0) := c2
        clear c1 c2
        have hgw : g1 < wr.heap.size := by omega
        go_wp2
        go_region_held3 (fun w' => w'.cell? ⟨g1, k * 3, none⟩ = some (.string nm) ∧ w'.cell? ⟨g1, k * 3 + 1, none⟩ = some (.int .i64 1) ∧ w'.cell? ⟨g1, k * 3 + 2, none⟩ = some (.slice none 0 0)) (simp [*, World.cell?_alloc_some])
          (first
            | (refine step_own_none _ rfl _ _ 60 rfl wr.heap.size 9 i1 1 Tryz.underlying60 HJ.out _ 0 [] rfl (own_nil0 wr _) rfl ?_)
            | (refine step_own _ rfl _ _ 25 rfl w.heap.size 64 i0 _ 3 48 Tryz.underlying25 HI.out HZ0.out HZ1.out HZ2.out rfl (by decide) _ k _ rfl (own_below hsl.out ((((Below.refl _ _).alloc (Nat.le_refl _) _).alloc (by simp) _).drew)) ⟨wr.heap.size + 1, 0, none⟩ 1 1 [.string nm, .int .i64 1, .slice (some ⟨wr.heap.size, 0, none⟩) 0 0] rfl rfl (fun j u hu => new_read2 wr _ _ _ j u hu) (all_one rfl) (by unfold maxLen; omega) (by omega) (by simp; omega) ?_; intro v' w4 hown4 hgrow; have hb4 : Below w.heap.size w w4 := (((HB.out.alloc hsz _).alloc (by simp; omega) _).drew).grown hgrow (by simp; omega) (fun j hj => (own_base hsl.out hj).1); have x0 : w4.cell? ⟨g1, k * 3, none⟩ = some (.string nm) := (hb4.cell (p := ⟨g1, k * 3, none⟩) hg1).trans ((HB.out.cell (p := ⟨g1, k * 3, none⟩) hg1).symm.trans c0); have x1 : w4.cell? ⟨g1, k * 3 + 1, none⟩ = some (.int .i64 1) := (hb4.cell (p := ⟨g1, k * 3 + 1, none⟩) hg1).trans ((HB.out.cell (p := ⟨g1, k * 3 + 1, none⟩) hg1).symm.trans c1'); have x2 : w4.cell? ⟨g1, k * 3 + 2, none⟩ = some (.slice none 0 0) := (hb4.cell (p := ⟨g1, k * 3 + 2, none⟩) hg1).trans ((HB.out.cell (p := ⟨g1, k * 3 + 2, none⟩) hg1).symm.trans c2'); have HB4 := Lib.hid hb4; have HO4 := Lib.hid hown4; have HG4 := Lib.hid hgrow; clear hb4 hown4 hgrow))
        all_goals go_wp2
        all_goals
          refine ⟨⟨k + 1, cs ++ [⟨nm, 0, .slice (some ⟨wr.heap.size, 0, none⟩) 0 0⟩], by omega, by simp [hcl], by go_num, ?_, ?_, ?_, ?_, HB4.out⟩, by simp [intOf]; omega⟩
          · show _ = _
            rw [List.map_append, hkd.out, hkd'.out]; rfl
          · show _ = _
            rw [List.map_append, hnm.out, hnm'.out]; rfl
          · show World.ownsRow _ _ _ _ _ _ _
            rw [flat_snoc]
            exact HO4.out
          · show ∀ c ∈ _, _
            intro q hq
            rcases List.mem_append.1 hq with hq | hq
            · have hd : Below wr.heap.size wr (((wr.alloc (.cells #[] 9)).alloc (.cells #[.string nm, .int .i64 1, .slice (some ⟨wr.heap.size, 0, none⟩) 0 0] 64)).drew) := ((((Below.refl _ _).alloc (Nat.le_refl _) _).alloc (by simp) _).drew)
              exact ⟨(hall.out q hq).1, ((hall.out q hq).2.below hd).grown HG4.out (own_type (own_below hsl.out hd))⟩
            · rw [List.mem_singleton.1 hq]
              exact ⟨Nat.zero_le _, by unfold ofKind; rw [if_pos rfl]; exact ⟨_, _, rfl⟩⟩
      · have c1' : wr.cell? ⟨g1, k * 3 + 1, none⟩ = some (.int .i64 2) := by
          rw [c1]; unfold kindOf; rw [if_neg h0]
        have c2' : wr.cell? ⟨g1, k * 3 + 2, none⟩ = some (.slice (some ⟨g, 0, none⟩) kd 5) := by
          rw [c2, if_neg h0]
        clear c1 c2
        have hgw : g1 < wr.heap.size := by omega
        have hgl := HW.out.lt
        have hgl2 : g < wr.heap.size := by omega
        have HWr := Lib.hid (show Blk wr g 9 wordsC from (HB.out.block g hgl).trans HW.out)
        go_wp2
        go_region_held3 (fun w' => w'.cell? ⟨g1, k * 3, none⟩ = some (.string nm) ∧ w'.cell? ⟨g1, k * 3 + 1, none⟩ = some (.int .i64 2) ∧ w'.cell? ⟨g1, k * 3 + 2, none⟩ = some (.slice (some ⟨g, 0, none⟩) kd 5)) (simp [*, World.cell?_alloc_some])
          (first
            | (refine step_own _ rfl _ _ 60 rfl wr.heap.size 9 i1 _ 1 16 Tryz.underlying60 HJ.out HY0.out HY1.out HY2.out rfl (by decide) _ 0 [] rfl (own_nil0 wr _) ⟨g, 0, none⟩ kd 5 ((wds.take kd).map sv) rfl (words_length hkd5) (words_read (((((Below.refl wr.heap.size wr).alloc (Nat.le_refl _) _).drew).block g hgl2).trans HWr.out)) (words_one kd) (by unfold maxLen; omega) (by omega) (by simp) ?_; intro v1 w1 hown1 hgrow1; rw [Nat.zero_add, List.nil_append] at hown1; obtain ⟨A1, cx, rfl, _⟩ := own_slice hown1; have hb1 : Below wr.heap.size wr w1 := (((Below.refl _ _).alloc (Nat.le_refl _) _).drew).grown hgrow1 (by simp) (fun j hj => by have hj : some wr.heap.size = some j := hj; injection hj with hj; omega); have x0 : w1.cell? ⟨g1, k * 3, none⟩ = some (.string nm) := (hb1.cell (p := ⟨g1, k * 3, none⟩) hgw).trans c0; have x1 : w1.cell? ⟨g1, k * 3 + 1, none⟩ = some (.int .i64 2) := (hb1.cell (p := ⟨g1, k * 3 + 1, none⟩) hgw).trans c1'; have x2 : w1.cell? ⟨g1, k * 3 + 2, none⟩ = some (.slice (some ⟨g, 0, none⟩) kd 5) := (hb1.cell (p := ⟨g1, k * 3 + 2, none⟩) hgw).trans c2'; have hgw1 : g1 < w1.heap.size := Nat.lt_of_lt_of_le hgw hb1.size; have hs1 := hb1.size; have HB1 := Lib.hid hb1; have HO1 := Lib.hid hown1; clear hb1 hown1 hgrow1)
            | (refine step_own _ rfl _ _ 25 rfl w.heap.size 64 i0 _ 3 48 Tryz.underlying25 HI.out HZ0.out HZ1.out HZ2.out rfl (by decide) _ k _ rfl (own_below hsl.out (HB1.out.alloc HB1.out.size _)) ⟨w1.heap.size, 0, none⟩ 1 1 [.string nm, .int .i64 2, .slice A1 kd cx] rfl rfl (fun j u hu => new_read w1 _ _ j u hu) (all_one rfl) (by unfold maxLen; omega) (by omega) (by simp; omega) ?_; intro v' w4 hown4 hgrow; have hb4 : Below w.heap.size w w4 := ((HB.out.trans (HB1.out.mono hsz)).alloc (by omega) _).grown hgrow (by simp; omega) (fun j hj => (own_base hsl.out hj).1); have y0 : w4.cell? ⟨g1, k * 3, none⟩ = some (.string nm) := (hb4.cell (p := ⟨g1, k * 3, none⟩) hg1).trans ((HB.out.cell (p := ⟨g1, k * 3, none⟩) hg1).symm.trans c0); have y1 : w4.cell? ⟨g1, k * 3 + 1, none⟩ = some (.int .i64 2) := (hb4.cell (p := ⟨g1, k * 3 + 1, none⟩) hg1).trans ((HB.out.cell (p := ⟨g1, k * 3 + 1, none⟩) hg1).symm.trans c1'); have y2 : w4.cell? ⟨g1, k * 3 + 2, none⟩ = some (.slice (some ⟨g, 0, none⟩) kd 5) := (hb4.cell (p := ⟨g1, k * 3 + 2, none⟩) hg1).trans ((HB.out.cell (p := ⟨g1, k * 3 + 2, none⟩) hg1).symm.trans c2'); have HB4 := Lib.hid hb4; have HO4 := Lib.hid hown4; have HG4 := Lib.hid hgrow; clear hb4 hown4 hgrow)
            | (trace_state; fail))
        all_goals go_wp2
        all_goals
          refine ⟨⟨k + 1, cs ++ [⟨nm, kd, .slice A1 kd cx⟩], by omega, by simp [hcl], by go_num, ?_, ?_, ?_, ?_, HB4.out⟩, by simp [intOf]; omega⟩
          · show _ = _
            rw [List.map_append, hkd.out, hkd'.out]; rfl
          · show _ = _
            rw [List.map_append, hnm.out, hnm'.out]; rfl
          · show World.ownsRow _ _ _ _ _ _ _
            rw [flat_snoc]
            have e : CI.cells ⟨nm, kd, .slice A1 kd cx⟩ = [.string nm, .int .i64 2, .slice A1 kd cx] := by
              unfold CI.cells kindOf
              rw [if_neg (by show ¬ kd = 0; exact h0)]
            rw [e]
            exact HO4.out
          · show ∀ c ∈ _, _
            intro q hq
            have hd := HB1.out.alloc HB1.out.size (.cells #[.string nm, .int .i64 2, .slice A1 kd cx] 64)
            rcases List.mem_append.1 hq with hq | hq
            · exact ⟨(hall.out q hq).1, ((hall.out q hq).2.below hd).grown HG4.out (own_type (own_below hsl.out hd))⟩
            · rw [List.mem_singleton.1 hq]
              refine ⟨hkd5, ?_⟩
              have hwa : WordsAt w1 kd (.slice A1 kd cx) := ⟨wr.heap.size, HO1.out⟩
              have hwb : ofKind kd w1 (.slice A1 kd cx) := by unfold ofKind; rw [if_neg h0]; exact hwa
              exact (hwb.below ((Below.refl _ _).alloc (Nat.le_refl _) _)).grown HG4.out (own_type (own_below hsl.out hd))
    · obtain ⟨A3, c3, hA3, _⟩ := own_slice hown.out
      subst hA3
      have hkn : k = rs.length := by omega
      have HB := Lib.hid hbel
      clear hbel
      go_wp2
      go_ret
      refine ⟨_, cs, rfl, ⟨⟨w.heap.size, by rw [hcl]; exact hown.out⟩, hall.out⟩, ?_, ?_, HB.out⟩
      · rw [hkd.out, List.take_of_length_le (by rw [List.length_map]; omega)]
      · rw [hnm.out, List.take_of_length_le (by rw [List.length_map]; omega)]
end Go.Proofs.YtdlggegdlknkeaaGreatDoor.Gp
