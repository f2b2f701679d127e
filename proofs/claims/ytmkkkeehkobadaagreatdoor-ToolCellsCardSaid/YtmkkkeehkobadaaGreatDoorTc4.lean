/-
  tool's Cells: its contract.
-/
import Derived.Test.YtmkkkeehkobadaaGreatDoorTc3
namespace Go.Proofs.YtmkkkeehkobadaaGreatDoor.Tc
open Go Go.RowKit Ut

theorem bytes_inj {a b : ByteArray} (h : a.data.toList = b.data.toList) : a = b := by
  obtain ⟨⟨l⟩⟩ := a
  obtain ⟨⟨m⟩⟩ := b
  exact congrArg (fun l => (⟨⟨l⟩⟩ : ByteArray)) h
theorem infoCell : (Tryz.prog.info? 46).map (fun i => (i.zero, i.size, i.bytes)) = some (some (.agg #[.bool false, .bool false, .int .u64 0, .string ⟨#[]⟩, .int .u64 0, .string ⟨#[]⟩, .int .i64 0]), 7, 72) := by kernel_rfl
def pairs (cs : List CI) (ts : List (List UInt8)) : List (Nat × List UInt8) := (cs.map CI.kd).zip ts
theorem pairs_at {cs : List CI} {ts : List (List UInt8)} {k : Nat} (h1 : k < cs.length) (h2 : k < ts.length) : (pairs cs ts)[k]? = some (cs[k].kd, ts[k]) := by
  unfold pairs
  rw [List.getElem?_zip_eq_some]
  constructor
  · simp [h1]
  · simp [h2]
theorem pairs_length {cs : List CI} {ts : List (List UInt8)} (h : ts.length = cs.length) : (pairs cs ts).length = cs.length := by
  unfold pairs; simp; omega
def outs (cs : List CI) (ts : List (List UInt8)) (k : Nat) : List (List Value) := ((pairs cs ts).take k).map fun p => (cellP p.1 p.2).1
theorem outs_length {cs : List CI} {ts : List (List UInt8)} (h : ts.length = cs.length) {k : Nat} (hk : k ≤ cs.length) : (outs cs ts k).length = k := by
  unfold outs; rw [List.length_map, List.length_take, pairs_length h]; omega
theorem outs_succ {cs : List CI} {ts : List (List UInt8)} {k : Nat} (h1 : k < cs.length) (h2 : k < ts.length) : outs cs ts (k + 1) = outs cs ts k ++ [(cellP cs[k].kd ts[k]).1] := by
  unfold outs
  have h := pairs_at h1 h2
  obtain ⟨hl, he⟩ := List.getElem?_eq_some_iff.1 h
  rw [List.take_succ_eq_append_getElem hl, List.map_append, he]; rfl
def okTo (cs : List CI) (ts : List (List UInt8)) (k : Nat) : Prop := ∀ q ∈ (pairs cs ts).take k, (cellP q.1 q.2).2 = 0
theorem okTo_succ {cs : List CI} {ts : List (List UInt8)} {k : Nat} (h1 : k < cs.length) (h2 : k < ts.length) (h : okTo cs ts k) (he : (cellP cs[k].kd ts[k]).2 = 0) : okTo cs ts (k + 1) := by
  have h' := pairs_at h1 h2
  obtain ⟨hl, hq⟩ := List.getElem?_eq_some_iff.1 h'
  intro q hm
  rw [List.take_succ_eq_append_getElem hl, hq] at hm
  rcases List.mem_append.1 hm with hm | hm
  · exact h q hm
  · rw [List.mem_singleton.1 hm]; exact he
def toolP (cs : List CI) (ts : List (List UInt8)) : List (List Value) × Int := if ts.length = cs.length then runP (pairs cs ts) else ([], 5)
def cl7 (b c : Bool) (n d : Int) (i : Nat) : List Value := [.bool b, .bool c, .int .u64 n, .string ⟨⟨[]⟩⟩, .int .u64 d, .string ⟨⟨[]⟩⟩, .int .i64 i]
theorem new_read2 (w : World) (o : Obj) (t : TypeId) (us : List Value) : ∀ j u, us[j]? = some u → ((w.alloc o).alloc (.cells ⟨us⟩ t)).cell? ((⟨w.heap.size + 1, 0, none⟩ : Addr).add j) = some u := by
  have h := new_read (w.alloc o) t us
  rw [show (w.alloc o).heap.size = w.heap.size + 1 by simp] at h
  exact h
def CellsOf (w : World) (base : Nat) (v : Value) (l : List (List Value)) : Prop := w.ownsRow base 46 7 v l.length l.flatten

set_option maxHeartbeats 4000000 in
set_option maxRecDepth 100000 in
theorem cells_any (v : Value) (cs : List CI) (ts : List (List UInt8)) (s : ByteArray) (w : World) (hc : ColsAt w v cs) (hn : ts ≠ []) (hC : ∀ t ∈ ts, NoC t) (ht : ∀ t ∈ ts, t ∈ texts) (hs : s.data.toList = join ts) (hl : s.size ≤ 1000000) (hm : MaxAt w) (_hk : ts.length ≤ 1000) (hk2 : cs.length ≤ 1000) :
    Calls Tryz.prog 7 #[v, .string s] w fun e w' => ∃ (u : Value), e = .returned (.tuple #[u, .int .i64 (toolP cs ts).2]) ∧ CellsOf w' w.heap.size u (toolP cs ts).1 ∧ Below w.heap.size w w' := by
  obtain ⟨A, c, rfl⟩ := hc.len
  have HC := Lib.hid hc
  have HS := Lib.hid (fun W (h : MaxAt W) => split_any hn hC hs hl W h)
  have HT := Lib.hid ht
  obtain ⟨i0, hi0, hz0, hz1, hz2⟩ := info_parts infoCell
  have HI := Lib.hid hi0
  have HZ0 := Lib.hid hz0
  have HZ1 := Lib.hid hz1
  have HZ2 := Lib.hid hz2
  clear hi0 hz0 hz1 hz2 hc hs hC hn ht
  by_cases hlen : ts.length = cs.length
  · have HL := Lib.hid hlen
    have HR := Lib.hid (show toolP cs ts = runP (pairs cs ts) from if_pos hlen)
    rw [HR.out]
    have hlen' : cs.length = ts.length := hlen.symm
    clear hlen
    go_enter Tryz.func7, Tryz.ntmps7
    go_wp2_with (go_at_call 11; refine (HS.out _ hm).mono ?_; rintro e w1 ⟨v1, bs, rfl, hrow, hbs, hb1⟩; obtain ⟨A1, c1, rfl, hc1⟩ := own_slice hrow; have hbl : bs.length = cs.length := by rw [hlen', ← hbs, List.length_map])
    have HROW := Lib.hid hrow
    have HBS := Lib.hid hbs
    clear hrow hbs
    have hsz1 := hb1.size
    have hc1' : bs.length ≤ c1 := hc1
    rw [hbl] at hc1'
    go_loopw [7, 21] (fun v i wr => ∃ k : Nat, k ≤ cs.length ∧ i = .int .i64 k ∧ Hid (okTo cs ts k) ∧ Hid (CellsOf wr w1.heap.size v (outs cs ts k)) ∧ Below w1.heap.size w1 wr) (fun _ i _ => cs.length - (intOf i).toNat)
    case atStart => exact ⟨0, Nat.zero_le _, rfl, (fun q hq => by simp at hq), (World.ownsRow_nil _ _ _ _), Below.refl _ _⟩
    case round =>
      obtain ⟨k, hk, rfl, hok, hown, hbel⟩ := hrel
      have hsz := hbel.size
      have hbw : Below w.heap.size w wr := hb1.trans (hbel.mono hsz1)
      by_cases hgo : k < cs.length
      · have hgo2 : k < ts.length := by omega
        have hgo3 : k < bs.length := by omega
        obtain ⟨g, hA, hg, c0, c1', c2⟩ := (HC.out.below hbw).at_ hgo
        subst hA
        obtain ⟨g1, hA1, hg1b, hg1, hcl⟩ := own_cell (own_below HROW.out hbel) (by omega)
        subst hA1
        have hbk : bs[k] = ⟨⟨ts[k]⟩⟩ := by
          have e : (bs.map (·.data.toList))[k]? = ts[k]? := by rw [HBS.out]
          rw [List.getElem?_map, List.getElem?_eq_getElem hgo3, List.getElem?_eq_getElem hgo2] at e
          injection e with e
          exact bytes_inj e
        have d0 : wr.cell? ⟨g1, k, none⟩ = some (.string ⟨⟨ts[k]⟩⟩) := by
          refine hcl k _ ?_
          rw [List.getElem?_map, List.getElem?_eq_getElem hgo3, hbk]; rfl
        have HT1 := HT.out ts[k] (List.getElem_mem hgo2)
        have HCOL := HC.out.2 cs[k] (List.getElem_mem hgo)
        have HCALL := Lib.hid (fun W (h : ofKind cs[k].kd W cs[k].wd) => cell_any cs[k].nm cs[k].kd cs[k].wd W HCOL.1 h HT1)
        have HWR := Lib.hid (HCOL.2.below hbw)
        clear hcl HT1 HCOL
        obtain ⟨b, c', n, d, ix, hp, hq⟩ := cellP_parts cs[k].kd ts[k]
        obtain ⟨er, HE⟩ : ∃ er, Hid ((cellP cs[k].kd ts[k]).2 = er) := ⟨_, Lib.hid rfl⟩
        have HEr := cellP_err cs[k].kd ts[k]
        rw [HE.out] at HEr
        have HP := Lib.hid hp
        have HQ := Lib.hid hq
        have HF := HCALL.out
        rw [hp, HE.out] at HF
        replace HF := Lib.hid HF
        have HB := Lib.hid hbel
        have HBW := Lib.hid hbw
        have HOUTN := Lib.hid (outs_length HL.out hk)
        have hown' : Hid (wr.ownsRow w1.heap.size 46 7 u7 k (outs cs ts k).flatten) := by
          have := hown.out
          unfold CellsOf at this
          rw [HOUTN.out] at this
          exact this
        generalize cs[k].wd = wd at *
        generalize cs[k].nm = nm at *
        clear hp hq hbel hbw hown HCALL
        go_wp2_with (first
          | (go_at_call 12; refine (HF.out _ HWR.out).mono ?_; rintro e w3 ⟨rfl, hb3⟩; have hsz3 := hb3.size; have HB3 := Lib.hid hb3; clear hb3)
          | (at_builtin; refine wpList_append_own _ rfl _ _ 33 rfl w1.heap.size 46 i0 _ 7 72 Tryz.underlying33 HI.out HZ0.out HZ1.out HZ2.out rfl (by decide) _ k _ rfl (((own_below hown'.out HB3.out).alloc _).alloc _) ⟨w3.heap.size + 1, 0, none⟩ 1 1 (cl7 b c' n d ix) rfl rfl (new_read2 w3 _ _ _) (all_one rfl) (by unfold maxLen; omega) (by omega) (by simp; omega) ?_; intro v' w4 hown4 hgrow _hn))
        · have hne : ¬ er = 0 := by
            have h : (er != 0) = true := by assumption
            simpa using h
          have e := runP_err (pairs cs ts) k _ (pairs_at hgo hgo2) hok.out (by rw [HE.out]; exact hne)
          rw [HE.out] at e
          go_ret2
          rw [e]
          refine ⟨.slice none 0 0, rfl, World.ownsRow_nil _ _ _ _, ?_⟩
          exact (HBW.out.trans (HB3.out.mono HBW.out.size)).alloc (by have := HBW.out.size; omega) _
        · have h0 : er = 0 := by
            have h : (er != 0) = false := by assumption
            simpa using h
          have hb3 : Below w1.heap.size w1 w3 := HB.out.trans (HB3.out.mono hsz)
          have hb4 : Below w1.heap.size w1 w4 := ((hb3.alloc hb3.size _).alloc (by have := hb3.size; simp; omega) _).grown hgrow (by have := hb3.size; simp; omega) (fun j hj => (own_base hown'.out hj).1)
          refine ⟨⟨k + 1, by omega, by go_num, okTo_succ hgo hgo2 hok.out (by rw [HE.out]; exact h0), ?_, hb4⟩, by simp [intOf]; omega⟩
          show World.ownsRow _ _ _ _ _ _ _
          rw [outs_succ hgo hgo2, List.length_append, HOUTN.out, List.flatten_append, HP.out]
          simpa [cl7] using hown4
      · have hkn : k = cs.length := by omega
        have e := runP_ok (pairs cs ts) (fun q hq => hok.out q (by rw [List.take_of_length_le (by rw [pairs_length HL.out]; omega)]; exact hq))
        have ho : outs cs ts k = (pairs cs ts).map fun p => (cellP p.1 p.2).1 := by
          unfold outs
          rw [List.take_of_length_le (by rw [pairs_length HL.out]; omega)]
        have HO := Lib.hid (show CellsOf wr w1.heap.size u7 ((pairs cs ts).map fun p => (cellP p.1 p.2).1) by rw [← ho]; exact hown.out)
        have HE := Lib.hid e
        clear e ho hown
        go_wp2
        go_ret2
        rw [HE.out]
        exact ⟨_, rfl, own_less HO.out hsz1, hbw⟩
  · have HR := Lib.hid (show toolP cs ts = ([], 5) from if_neg hlen)
    rw [HR.out]
    have hne : Hid (((ts.length : Int) != (cs.length : Int)) = true) := by show _ = _; simp; omega
    go_enter Tryz.func7, Tryz.ntmps7
    go_wp2_with (go_at_call 11; refine (HS.out _ hm).mono ?_; rintro e w1 ⟨v1, bs, rfl, hrow, hbs, hb1⟩; obtain ⟨A1, c1, rfl, hc1⟩ := own_slice hrow; have hbl : bs.length = ts.length := by rw [← hbs, List.length_map])
    go_ret2
    exact ⟨.slice none 0 0, rfl, World.ownsRow_nil _ _ _ _, hb1⟩
end Go.Proofs.YtmkkkeehkobadaaGreatDoor.Tc
