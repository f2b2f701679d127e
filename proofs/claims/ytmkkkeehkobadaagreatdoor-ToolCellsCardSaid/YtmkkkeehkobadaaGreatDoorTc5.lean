/-
  The plain Cells: its contract.
-/
import Derived.Test.YtmkkkeehkobadaaGreatDoorTc4
namespace Go.Proofs.YtmkkkeehkobadaaGreatDoor.Tc
open Go Go.RowKit Ut

theorem idx_bound : ∀ (l : List (List UInt8)) (t : List UInt8) (i j : Nat), idx t l i = some j → j < i + l.length
  | [], t, i, j, h => by simp [idx] at h
  | a :: l, t, i, j, h => by
    unfold idx at h
    split at h
    · injection h with h; subst h; simp
    · have := idx_bound l t (i + 1) j h; simp; omega
theorem idx_lt {t : List UInt8} {n j : Nat} (h : idx t (wds.take n) 0 = some j) : j < 1000 := by
  have h1 := idx_bound _ _ _ _ h
  have h2 : (wds.take n).length ≤ 5 := by rw [List.length_take]; exact Nat.min_le_right _ _
  omega
set_option maxHeartbeats 4000000 in
set_option maxRecDepth 100000 in
theorem scells_any (v : Value) (cs : List CI) (ts : List (List UInt8)) (s : ByteArray) (w : World) (hc : ColsAt w v cs) (hn : ts ≠ []) (hC : ∀ t ∈ ts, NoC t) (ht : ∀ t ∈ ts, t ∈ texts) (hs : s.data.toList = join ts) (hl : s.size ≤ 1000000) (_hk : ts.length ≤ 1000) (hk2 : cs.length ≤ 1000) :
    Calls Tryz.prog 8 #[v, .string s] w fun e w' => ∃ (u : Value), e = .returned (.tuple #[u, .int .i64 (toolP cs ts).2]) ∧ CellsOf w' w.heap.size u (toolP cs ts).1 ∧ Below w.heap.size w w' := by
  obtain ⟨A, c, rfl⟩ := hc.len
  have HC := Lib.hid hc
  have HS := Lib.hid (show ∀ W, Calls Tryz.prog 13 #[.string s, .int .u8 44] W fun e w' => ∃ (v : Value) (bs : List ByteArray), e = .returned v ∧ w'.ownsRow W.heap.size 9 1 v bs.length (bs.map Value.string) ∧ bs.map (·.data.toList) = ts ∧ Below W.heap.size W w' by
    intro W
    refine (cut_any s W hl).mono ?_
    rintro e w' ⟨v, bs, h1, h2, h3, h4⟩
    exact ⟨v, bs, h1, h2, by rw [h3, hs, cuts_join ts hn hC], h4⟩)
  have HT := Lib.hid ht
  obtain ⟨i0, hi0, hz0, hz1, hz2⟩ := info_parts infoCell
  have HI := Lib.hid hi0
  have HZ0 := Lib.hid hz0
  have HZ1 := Lib.hid hz1
  have HZ2 := Lib.hid hz2
  clear hi0 hz0 hz1 hz2 hc hs hC hn ht
  by_cases hlen : ts.length = cs.length
  · have HL := Lib.hid hlen
    have HR := Lib.hid (show toolP cs ts = runP (pairs cs ts) from if_pos hlen)
    rw [HR.out]
    have hlen' : cs.length = ts.length := hlen.symm
    clear hlen
    go_enter Tryz.func8, Tryz.ntmps8
    go_wp2_with (go_at_call 13; refine (HS.out _).mono ?_; rintro e w1 ⟨v1, bs, rfl, hrow, hbs, hb1⟩; obtain ⟨A1, c1, rfl, hc1⟩ := own_slice hrow; have hbl : bs.length = cs.length := by rw [hlen', ← hbs, List.length_map])
    have HROW := Lib.hid hrow
    have HBS := Lib.hid hbs
    clear hrow hbs
    have hsz1 := hb1.size
    have hc1' : bs.length ≤ c1 := hc1
    rw [hbl] at hc1'
    go_loopw [7, 8] (fun v i wr => ∃ k : Nat, k ≤ cs.length ∧ i = .int .i64 k ∧ Hid (okTo cs ts k) ∧ Hid (CellsOf wr w1.heap.size v (outs cs ts k)) ∧ Below w1.heap.size w1 wr) (fun _ i _ => cs.length - (intOf i).toNat)
    case atStart => exact ⟨0, Nat.zero_le _, rfl, (fun q hq => by simp at hq), (World.ownsRow_nil _ _ _ _), Below.refl _ _⟩
    case round =>
      obtain ⟨k, hk, rfl, hok, hown, hbel⟩ := hrel
      have hsz := hbel.size
      have hbw : Below w.heap.size w wr := hb1.trans (hbel.mono hsz1)
      by_cases hgo : k < cs.length
      · have hgo2 : k < ts.length := by omega
        have hgo3 : k < bs.length := by omega
        obtain ⟨g, hA, hg, c0, c1', c2⟩ := (HC.out.below hbw).at_ hgo
        subst hA
        obtain ⟨g1, hA1, hg1b, hg1, hcl⟩ := own_cell (own_below HROW.out hbel) (by omega)
        subst hA1
        have hbk : bs[k] = ⟨⟨ts[k]⟩⟩ := by
          have e : (bs.map (·.data.toList))[k]? = ts[k]? := by rw [HBS.out]
          rw [List.getElem?_map, List.getElem?_eq_getElem hgo3, List.getElem?_eq_getElem hgo2] at e
          injection e with e
          exact bytes_inj e
        have d0 : wr.cell? ⟨g1, k, none⟩ = some (.string ⟨⟨ts[k]⟩⟩) := by
          refine hcl k _ ?_
          rw [List.getElem?_map, List.getElem?_eq_getElem hgo3, hbk]; rfl
        have HT1 := HT.out ts[k] (List.getElem_mem hgo2)
        have HCOL := HC.out.2 cs[k] (List.getElem_mem hgo)
        have HWR := Lib.hid (HCOL.2.below hbw)
        have HK5 := Lib.hid HCOL.1
        clear hcl HCOL
        obtain ⟨er, HE⟩ : ∃ er, Hid ((cellP cs[k].kd ts[k]).2 = er) := ⟨_, Lib.hid rfl⟩
        have HB := Lib.hid hbel
        have HBW := Lib.hid hbw
        have HOUTN := Lib.hid (outs_length HL.out hk)
        have hown' : Hid (wr.ownsRow w1.heap.size 46 7 u7 k (outs cs ts k).flatten) := by
          have := hown.out
          unfold CellsOf at this
          rw [HOUTN.out] at this
          exact this
        clear hbel hbw hown
        have HT1 := Lib.hid (HT.out ts[k] (List.getElem_mem hgo2))
        rcases Classical.em (ts[k] = [63]) with hq | hq
        · have hq2 : (ts[k] == [63]) = true := by rw [hq]; rfl
          have HE0 := Lib.hid (show (cellP cs[k].kd ts[k]).2 = 0 by unfold cellP; rw [if_pos hq])
          have HP := Lib.hid (show (cellP cs[k].kd ts[k]).1 = cl7 true false 0 0 0 by unfold cellP; rw [if_pos hq]; rfl)
          clear hq
          go_wp2_with (at_builtin; refine wpList_append_own _ rfl _ _ 33 rfl w1.heap.size 46 i0 _ 7 72 Tryz.underlying33 HI.out HZ0.out HZ1.out HZ2.out rfl (by decide) _ k _ rfl (hown'.out.alloc _) ⟨wr.heap.size, 0, none⟩ 1 1 (cl7 true false 0 0 0) rfl rfl (new_read wr _ _) (all_one rfl) (by unfold maxLen; omega) (by omega) (by simp; omega) ?_; intro v' w4 hown4 hgrow _hn)
          have hb4 : Below w1.heap.size w1 w4 := (HB.out.alloc hsz _).grown hgrow (by simp; omega) (fun j hj => (own_base hown'.out hj).1)
          refine ⟨⟨k + 1, by omega, by go_num, okTo_succ hgo hgo2 hok.out HE0.out, ?_, hb4⟩, by simp [intOf]; omega⟩
          show World.ownsRow _ _ _ _ _ _ _
          rw [outs_succ hgo hgo2, List.length_append, HOUTN.out, List.flatten_append, HP.out]
          simpa [cl7] using hown4
        · have hq2 : (ts[k] == [63]) = false := by simpa using hq
          have HQ := Lib.hid hq
          clear hq
          rcases Nat.eq_zero_or_pos cs[k].kd with h0 | h0
          · have hkk : kindOf cs[k].kd = 1 := by rw [h0]; rfl
            have HPA := Lib.hid (fun W => parse_any W HT1.out)
            rcases hnq : numQ ts[k] with _ | q
            · have HPP := Lib.hid (show parseP ts[k] = .tuple ⟨[.agg ⟨[.bool false, .int .u64 0, .string ⟨⟨[]⟩⟩, .int .u64 0, .string ⟨⟨[]⟩⟩]⟩, .bool false]⟩ by unfold parseP; rw [hnq]; rfl)
              have HF := HPA.out
              rw [HPP.out] at HF
              replace HF := Lib.hid HF
              have HE2 := Lib.hid (show (cellP cs[k].kd ts[k]).2 = 2 by unfold cellP; rw [if_neg HQ.out, if_pos h0, hnq])
              rw [hkk] at c1'
              clear hnq h0 hkk
              go_wp2_with (go_at_call 14; refine (HF.out _).mono ?_; rintro e w3 ⟨rfl, hb3⟩; have hsz3 := hb3.size; have HB3 := Lib.hid hb3; clear hb3)
              have e := runP_err (pairs cs ts) k _ (pairs_at hgo hgo2) hok.out (by rw [HE2.out]; decide)
              rw [HE2.out] at e
              go_ret2
              rw [e]
              refine ⟨.slice none 0 0, rfl, World.ownsRow_nil _ _ _ _, ?_⟩
              exact (HBW.out.trans (HB3.out.mono HBW.out.size)).alloc (by have := HBW.out.size; omega) _
            · have hqm := numQ_mem hnq
              obtain ⟨ng, nn, dd, rfl⟩ : ∃ ng nn dd, q = qv ng nn dd := by
                simp only [qs, List.mem_cons, List.not_mem_nil, or_false] at hqm
                rcases hqm with rfl | rfl | rfl | rfl <;> exact ⟨_, _, _, rfl⟩
              have HPP := Lib.hid (show parseP ts[k] = .tuple ⟨[.agg ⟨[.bool ng, .int .u64 nn, .string ⟨⟨[]⟩⟩, .int .u64 dd, .string ⟨⟨[]⟩⟩]⟩, .bool true]⟩ by unfold parseP; rw [hnq]; rfl)
              have HF := HPA.out
              rw [HPP.out] at HF
              replace HF := Lib.hid HF
              have HE0 := Lib.hid (show (cellP cs[k].kd ts[k]).2 = 0 by unfold cellP; rw [if_neg HQ.out, if_pos h0, hnq])
              have HP := Lib.hid (show (cellP cs[k].kd ts[k]).1 = cl7 false ng nn dd 0 by unfold cellP; rw [if_neg HQ.out, if_pos h0, hnq]; rfl)
              rw [hkk] at c1'
              clear hnq h0 hkk hqm
              go_wp2_with (first
                | (go_at_call 14; refine (HF.out _).mono ?_; rintro e w3 ⟨rfl, hb3⟩; have hsz3 := hb3.size; have HB3 := Lib.hid hb3; clear hb3)
                | (at_builtin; refine wpList_append_own _ rfl _ _ 33 rfl w1.heap.size 46 i0 _ 7 72 Tryz.underlying33 HI.out HZ0.out HZ1.out HZ2.out rfl (by decide) _ k _ rfl (((own_below hown'.out HB3.out).alloc _).alloc _) ⟨w3.heap.size + 1, 0, none⟩ 1 1 (cl7 false ng nn dd 0) rfl rfl (new_read2 w3 _ _ _) (all_one rfl) (by unfold maxLen; omega) (by omega) (by simp; omega) ?_; intro v' w4 hown4 hgrow _hn))
              have hb3 : Below w1.heap.size w1 w3 := HB.out.trans (HB3.out.mono hsz)
              have hb4 : Below w1.heap.size w1 w4 := ((hb3.alloc hb3.size _).alloc (by have := hb3.size; simp; omega) _).grown hgrow (by have := hb3.size; simp; omega) (fun j hj => (own_base hown'.out hj).1)
              refine ⟨⟨k + 1, by omega, by go_num, okTo_succ hgo hgo2 hok.out HE0.out, ?_, hb4⟩, by simp [intOf]; omega⟩
              show World.ownsRow _ _ _ _ _ _ _
              rw [outs_succ hgo hgo2, List.length_append, HOUTN.out, List.flatten_append, HP.out]
              simpa [cl7] using hown4
          · have hkk : kindOf cs[k].kd = 2 := if_neg (by omega)
            have HWW := Lib.hid (show WordsAt wr cs[k].kd cs[k].wd by have := HWR.out; unfold ofKind at this; rwa [if_neg (by omega)] at this)
            have HF := Lib.hid (fun W (h : WordsAt W cs[k].kd cs[k].wd) => which_any cs[k].kd cs[k].wd W h0 HK5.out h HT1.out)
            rw [hkk] at c1'
            rcases hix : idx ts[k] (wds.take cs[k].kd) 0 with _ | ix
            · have HPP := Lib.hid (show whichP cs[k].kd ts[k] = 0 by unfold whichP; rw [hix])
              have HF := HF.out
              rw [HPP.out] at HF
              replace HF := Lib.hid HF
              have HE2 := Lib.hid (show (cellP cs[k].kd ts[k]).2 = 11 by unfold cellP; rw [if_neg HQ.out, if_neg (by omega), hix])
              clear hix h0 hkk
              go_wp2
              go_region_with (go_at_call 15; refine (HF.out wr.drew HWW.out).mono ?_; rintro e w3 ⟨rfl, hb3⟩; have hsz3 : wr.heap.size ≤ w3.heap.size := hb3.size; have HB3 := Lib.hid hb3; clear hb3)
              all_goals go_wp2
              all_goals
                have e := runP_err (pairs cs ts) k _ (pairs_at hgo hgo2) hok.out (by rw [HE2.out]; decide)
                rw [HE2.out] at e
                go_ret2
                rw [e]
                exact ⟨.slice none 0 0, rfl, World.ownsRow_nil _ _ _ _, HBW.out.drew.trans (HB3.out.mono HBW.out.size)⟩
            · have HPP := Lib.hid (show whichP cs[k].kd ts[k] = (ix : Int) + 1 by unfold whichP; rw [hix])
              have HF := HF.out
              rw [HPP.out] at HF
              replace HF := Lib.hid HF
              have HE0 := Lib.hid (show (cellP cs[k].kd ts[k]).2 = 0 by unfold cellP; rw [if_neg HQ.out, if_neg (by omega), hix])
              have HP := Lib.hid (show (cellP cs[k].kd ts[k]).1 = cl7 false false 0 0 ix by unfold cellP; rw [if_neg HQ.out, if_neg (by omega), hix]; rfl)
              have hix5 : ix < 1000 := idx_lt hix
              clear hix h0 hkk
              go_wp2
              go_region_with (go_at_call 15; refine (HF.out wr.drew HWW.out).mono ?_; rintro e w3 ⟨rfl, hb3⟩; have hsz3 : wr.heap.size ≤ w3.heap.size := hb3.size; have HB3 := Lib.hid hb3; clear hb3)
              all_goals go_wp2_with (at_builtin; refine wpList_append_own _ rfl _ _ 33 rfl w1.heap.size 46 i0 _ 7 72 Tryz.underlying33 HI.out HZ0.out HZ1.out HZ2.out rfl (by decide) _ k _ rfl ((own_below (w := wr.drew) hown'.out HB3.out).alloc _) ⟨w3.heap.size, 0, none⟩ 1 1 (cl7 false false 0 0 ix) rfl rfl (new_read w3 _ _) (all_one rfl) (by unfold maxLen; omega) (by omega) (by simp; omega) ?_; intro v' w4 hown4 hgrow _hn)
              all_goals
                have hb3 : Below w1.heap.size w1 w3 := HB.out.drew.trans (HB3.out.mono hsz)
                have hb4 : Below w1.heap.size w1 w4 := (hb3.alloc hb3.size _).grown hgrow (by have := hb3.size; simp; omega) (fun j hj => (own_base hown'.out hj).1)
                refine ⟨⟨k + 1, by omega, by go_num, okTo_succ hgo hgo2 hok.out HE0.out, ?_, hb4⟩, by simp [intOf]; omega⟩
                show World.ownsRow _ _ _ _ _ _ _
                rw [outs_succ hgo hgo2, List.length_append, HOUTN.out, List.flatten_append, HP.out]
                simpa [cl7] using hown4
      · have hkn : k = cs.length := by omega
        have e := runP_ok (pairs cs ts) (fun q hq => hok.out q (by rw [List.take_of_length_le (by rw [pairs_length HL.out]; omega)]; exact hq))
        have ho : outs cs ts k = (pairs cs ts).map fun p => (cellP p.1 p.2).1 := by
          unfold outs
          rw [List.take_of_length_le (by rw [pairs_length HL.out]; omega)]
        have HO := Lib.hid (show CellsOf wr w1.heap.size u7 ((pairs cs ts).map fun p => (cellP p.1 p.2).1) by rw [← ho]; exact hown.out)
        have HE := Lib.hid e
        clear e ho hown
        go_wp2
        go_ret2
        rw [HE.out]
        exact ⟨_, rfl, own_less HO.out hsz1, hbw⟩
  · have HR := Lib.hid (show toolP cs ts = ([], 5) from if_neg hlen)
    rw [HR.out]
    have hne : Hid (((ts.length : Int) != (cs.length : Int)) = true) := by show _ = _; simp; omega
    go_enter Tryz.func8, Tryz.ntmps8
    go_wp2_with (go_at_call 13; refine (HS.out _).mono ?_; rintro e w1 ⟨v1, bs, rfl, hrow, hbs, hb1⟩; obtain ⟨A1, c1, rfl, hc1⟩ := own_slice hrow; have hbl : bs.length = ts.length := by rw [← hbs, List.length_map])
    go_ret2
    exact ⟨.slice none 0 0, rfl, World.ownsRow_nil _ _ _ _, hb1⟩
end Go.Proofs.YtmkkkeehkobadaaGreatDoor.Tc
