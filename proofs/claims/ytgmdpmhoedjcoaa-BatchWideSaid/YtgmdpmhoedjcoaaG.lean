/-
  The reference's Groups: its contract: the groups are those of 'Pl.form'.
-/
import Derived.Test.YtgmdpmhoedjcoaaG0
namespace Go.Proofs.Ytgmdpmhoedjcoaa
open Go.RowKit

def RefG (w w' : World) (v : Value) (gs : List Pl.Grp) : Prop :=
  ∃ l : List Item, l.map (·.1) = gs ∧ w'.ownsRow w.heap.size 44 2 v l.length (flatP l) ∧ GOwn w' w.heap.size l ∧ Below w.heap.size w w'
def GRel (w wr : World) (ts : List Int) (M : Nat) (wait : Int) (i : Nat) (v : Value) : Prop :=
  (i = 0 ∧ v = .slice none 0 0 ∧ Below w.heap.size w wr) ∨ ∃ l fr cnt a, 0 < cnt ∧ GMid w wr ts M wait i v l fr cnt a (Pl.timeOf ts M wait fr i)

theorem mid_cap {w wr : World} {ts : List Int} {M : Nat} {wait : Int} {i : Nat} {v a : Value} {l : List Item} {fr cnt : Nat} {tm : Int} (h : GMid w wr ts M wait i v l fr cnt a tm) :
    ∃ g cap, v = .slice (some ⟨g, 0, none⟩) (l.length + 1) cap ∧ l.length + 1 ≤ cap ∧ wr.cell? ⟨g, l.length * 2, none⟩ = some a ∧ wr.cell? ⟨g, l.length * 2 + 1, none⟩ = some (.int .i64 tm) ∧
      wr.frozen? ⟨g, l.length * 2, none⟩ = false ∧ wr.frozen? ⟨g, l.length * 2 + 1, none⟩ = false ∧ g < wr.heap.size := by
  obtain ⟨g, cap, hv, _, hlt⟩ := h.own.form (by omega)
  subst hv
  refine ⟨g, cap, rfl, ?_, ?_, ?_, h.own.frozenAt _, h.own.frozenAt _, hlt⟩
  · rcases h.own.2 with ⟨h, _⟩ | ⟨g', cap', cur, h, _, _, hc, _⟩
    · cases h
    · injection h with _ _ h; subst h; exact hc
  · rw [h.own.cellAt _ (by omega), List.getElem?_append_right (by rw [flatP_length]; omega), flatP_length]; simp
  · rw [h.own.cellAt _ (by omega), List.getElem?_append_right (by rw [flatP_length]; omega), flatP_length]; simp
theorem mid_last {w wr : World} {ts : List Int} {M : Nat} {wait : Int} {i : Nat} {v a : Value} {l : List Item} {fr cnt : Nat} {tm : Int} (h : GMid w wr ts M wait i v l fr cnt a tm) (hc : 0 < cnt) :
    ∃ g cap, a = .slice (some ⟨g, 0, none⟩) cnt cap ∧ wr.cell? ⟨g, 0, none⟩ = some (.int .i64 (fr : Int)) := by
  obtain ⟨g, cap, hv, _, hlt⟩ := h.last.form hc
  subst hv
  refine ⟨g, cap, rfl, ?_⟩
  rw [h.last.cellAt 0 (by omega)]
  simp [seqV, hc]

theorem two_new1 (wd : World) (x y : Value) (t : TypeId) : ∀ j u, [x, y][j]? = some u → (wd.alloc (.cells #[x, y] t)).cell? (Addr.add ⟨wd.heap.size, 0, none⟩ j) = some u := by
  intro j u h
  have hb := Blk.new wd t #[x, y]
  match j, h with
  | 0, h => rw [show Addr.add ⟨wd.heap.size, 0, none⟩ 0 = ⟨wd.heap.size, 0, none⟩ by rfl, hb.cell]; simpa using h
  | 1, h => rw [show Addr.add ⟨wd.heap.size, 0, none⟩ 1 = ⟨wd.heap.size, 1, none⟩ by rfl, hb.cell]; simpa using h
theorem mid_grown {w wr w1 : World} {ts : List Int} {M : Nat} {wait : Int} {i : Nat} {v a : Value} {l : List Item} {fr cnt : Nat} {tm : Int} {o : Obj} {g cap : Nat} (h : GMid w wr ts M wait i v l fr cnt a tm)
    (hg : (wr.alloc o).grownBy w1 a.ownBlock) (hv : v = .slice (some ⟨g, 0, none⟩) (l.length + 1) cap) :
    w1.cell? ⟨g, l.length * 2, none⟩ = some a ∧ w1.frozen? ⟨g, l.length * 2, none⟩ = false := by
  have hva : v.ownBlock = none ∨ v.ownBlock ≠ a.ownBlock := own_types_ne h.own h.last (by decide)
  have own1 := (h.own.alloc o).kept hg hva
  rw [hv] at own1
  refine ⟨?_, own1.frozenAt _⟩
  rw [own1.cellAt _ (by omega), List.getElem?_append_right (by rw [flatP_length]; omega), flatP_length]; simp
theorem time_full {ts : List Int} {M : Nat} {wait : Int} {fr cnt i : Nat} (hs : fr + cnt = i) (hf : cnt + 1 = M) (hi : i < ts.length) : Pl.timeOf ts M wait fr (i + 1) = ts[i] := by
  unfold Pl.timeOf
  rw [if_pos (by omega), show i + 1 - 1 = i by omega]
  simp [hi]
theorem time_part {ts : List Int} {M : Nat} {wait : Int} {fr cnt i : Nat} (hs : fr + cnt = i) (hf : cnt ≠ M) (hi : fr < ts.length) : Pl.timeOf ts M wait fr i = ts[fr] + wait := by
  unfold Pl.timeOf
  rw [if_neg (by omega)]
  simp [hi]

set_option maxHeartbeats 4000000 in
set_option maxRecDepth 100000 in
theorem groups_any (A : Option Addr) (c : Nat) (ts : List Int) (M : Nat) (wait : Int) (w : World) (hx : IntsIn w w.heap.size A ts) (hok : Pl.okUpto ts ts.length = true) (hl : ts.length ≤ 65536) (hM1 : 1 ≤ M) (_hM2 : M ≤ 300) (hw1 : 0 ≤ wait) (hw2 : wait ≤ 1073741824) :
    Calls Try.prog 13 #[.slice A ts.length c, .int .i64 (M : Int), .int .i64 wait] w fun e w' => ∃ v, e = .returned v ∧ RefG w w' v (Pl.form ts M wait 0) := by
  have HX := Lib.hid hx
  have HOK := Lib.hid hok
  clear hx hok
  obtain ⟨i0, hi0, hz0, hz1, hz2⟩ := info_parts Try.infoInt
  have HI := Lib.hid hi0
  have HZ0 := Lib.hid hz0
  have HZ1 := Lib.hid hz1
  have HZ2 := Lib.hid hz2
  clear hi0 hz0 hz1 hz2
  obtain ⟨i1, hi1, hz3, hz4, hz5⟩ := info_parts Try.infoRefGroup
  have HI1 := Lib.hid hi1
  have HZ3 := Lib.hid hz3
  have HZ4 := Lib.hid hz4
  have HZ5 := Lib.hid hz5
  clear hi1 hz3 hz4 hz5
  go_enter Try.func13, Try.ntmps13
  go_wp2
  go_loopw [7, 8] (fun v k wr => ∃ i : Nat, i ≤ ts.length ∧ k = .int .i64 i ∧ Hid (GRel w wr ts M wait i v)) (fun _ k _ => ts.length - (intOf k).toNat)
  case atStart => exact ⟨0, Nat.zero_le _, rfl, .inl ⟨rfl, rfl, Below.refl _ _⟩⟩
  case round =>
    obtain ⟨i, hi, rfl, hrel⟩ := hrel
    by_cases hlt : i < ts.length
    · have hb := Pl.ok_bounds HOK.out hlt
      rw [show ts.getD i 0 = ts[i] by simp [hlt]] at hb
      obtain ⟨hb1, hb2⟩ := hb
      rcases hrel.out with ⟨h0, rfl, hbel⟩ | ⟨l, fr, cnt, a, hcnt, hmid⟩
      · clear hrel
        have H0 := Lib.hid h0
        clear h0
        obtain ⟨ad, rfl, _, hc⟩ := IntsIn.at_ (Reads.below HX.out hbel) hlt
        have hei : i < Pl.endOf ts M wait i := (Pl.endOf_le ts M wait i hlt).1
        go_wp2
        go_quiet (fail)
        have hbel : Below w.heap.size w (wr.drewN nq) := ⟨hbel.os, hbel.tape, hbel.output, hbel.size, hbel.block⟩
        have hc : (wr.drewN nq).cell? (ad.add i) = some (.int .i64 ts[i]) := hc
        generalize wr.drewN nq = wd at hbel hc ⊢
        have hsz0 := hbel.size
        by_cases hfull : 0 + 1 = M
        · have hfb : (((0 : Nat) : Int) + 1 == (M : Int)) = true := beq_iff_eq.2 (by omega)
          have hfb1 : ((1 : Int) == (M : Int)) = true := beq_iff_eq.2 (by omega)
          have htf := Lib.hid (time_full (wait := wait) (Nat.add_zero i) hfull hlt)
          clear hfull
          go_wp2_with (first | (at_builtin; refine wpList_append_own _ rfl (.tmp 50) (.tmp 58) 34 rfl w.heap.size 44 i1 _ 2 32 Try.underlying34 HI1.out HZ3.out HZ4.out HZ5.out rfl (by decide) _ 0 [] rfl (World.ownsRow_nil _ _ _ _) ⟨wd.heap.size, 0, none⟩ 1 1 [.slice none 0 0, .int .i64 (ts[i] + wait)] rfl rfl (two_new1 _ _ _ _) (two_one _ _ _ _) (by unfold maxLen; omega) (by omega) (by simp; omega) ?_; intro v' w1 hown' hgrow _hn; have hmid := GMid.start (ts := ts) (M := M) (wait := wait) hbel v' [] (World.ownsRow_nil _ _ _ _) (fun p hp => by simp at hp) (by rw [H0.out]; rfl) hlt (Nat.zero_le _) hown' hgrow; obtain ⟨g, cap, hv', hcap, ca, ct, fa, ft, hgl⟩ := mid_cap hmid; subst hv'; simp only [List.length_nil, Nat.zero_mul, Nat.zero_add] at hcap ca ct fa ft; have hsz1 := hmid.bel.size; have HM := Lib.hid hmid; clear hmid hown' hgrow _hn) | (at_builtin; refine wpList_append_own_at _ rfl (.tmp 68) (.tmp 70) 22 rfl w.heap.size 3 i0 _ 1 8 Try.underlying22 HI.out HZ0.out HZ1.out HZ2.out rfl (by decide) _ 0 _ rfl (HM.out.last.alloc _) ⟨w1.heap.size, 0, none⟩ 1 1 [.int .i64 (i : Int)] rfl rfl (one_new _ _ _) (one_one _) (by unfold maxLen; omega) (by omega) (by simp; omega) ?_; intro a' w3 hown3 hgrow3 _hn3 hat3; obtain ⟨ga, cpa, rfl, _, _⟩ := hown3.form (Nat.succ_pos _); obtain ⟨hmg1, hmg2⟩ := mid_grown HM.out hgrow3 rfl; have hmid2 := HM.out.push hei hown3 hgrow3 hat3 rfl; simp only [List.length_nil, Nat.zero_mul] at hmg1 hmg2; obtain ⟨g2, cap2, ev, _, _, c3, _, f3, _⟩ := mid_cap hmid2; cases ev; simp only [List.length_nil, Nat.zero_mul, Nat.zero_add] at c3 f3; obtain ⟨ad3, e3, _, hc3⟩ := IntsIn.at_ (Reads.below HX.out hmid2.bel) hlt; cases e3; simp only [List.length_nil, Nat.zero_mul] at hc3; have HM2 := Lib.hid hmid2; clear hown3 hgrow3 _hn3 hat3 hmid2))
          go_roundw
          case rel => exact ⟨i + 1, by omega, by go_num, .inr ⟨[], i, 0 + 1, _, Nat.succ_pos _, by rw [htf.out]; exact HM2.out.time rfl⟩⟩
          case measure => simp [intOf]; omega
        · have hfb : (((0 : Nat) : Int) + 1 == (M : Int)) = false := beq_eq_false_iff_ne.2 (by omega)
          have hfb1 : ((1 : Int) == (M : Int)) = false := beq_eq_false_iff_ne.2 (by omega)
          have htf := Lib.hid (time_part (wait := wait) (cnt := 0 + 1) (show i + (0 + 1) = i + 1 by omega) hfull hlt)
          clear hfull
          go_wp2_with (first | (at_builtin; refine wpList_append_own _ rfl (.tmp 50) (.tmp 58) 34 rfl w.heap.size 44 i1 _ 2 32 Try.underlying34 HI1.out HZ3.out HZ4.out HZ5.out rfl (by decide) _ 0 [] rfl (World.ownsRow_nil _ _ _ _) ⟨wd.heap.size, 0, none⟩ 1 1 [.slice none 0 0, .int .i64 (ts[i] + wait)] rfl rfl (two_new1 _ _ _ _) (two_one _ _ _ _) (by unfold maxLen; omega) (by omega) (by simp; omega) ?_; intro v' w1 hown' hgrow _hn; have hmid := GMid.start (ts := ts) (M := M) (wait := wait) hbel v' [] (World.ownsRow_nil _ _ _ _) (fun p hp => by simp at hp) (by rw [H0.out]; rfl) hlt (Nat.zero_le _) hown' hgrow; obtain ⟨g, cap, hv', hcap, ca, ct, fa, ft, hgl⟩ := mid_cap hmid; subst hv'; simp only [List.length_nil, Nat.zero_mul, Nat.zero_add] at hcap ca ct fa ft; have hsz1 := hmid.bel.size; have HM := Lib.hid hmid; clear hmid hown' hgrow _hn) | (at_builtin; refine wpList_append_own_at _ rfl (.tmp 68) (.tmp 70) 22 rfl w.heap.size 3 i0 _ 1 8 Try.underlying22 HI.out HZ0.out HZ1.out HZ2.out rfl (by decide) _ 0 _ rfl (HM.out.last.alloc _) ⟨w1.heap.size, 0, none⟩ 1 1 [.int .i64 (i : Int)] rfl rfl (one_new _ _ _) (one_one _) (by unfold maxLen; omega) (by omega) (by simp; omega) ?_; intro a' w3 hown3 hgrow3 _hn3 hat3; obtain ⟨ga, cpa, rfl, _, _⟩ := hown3.form (Nat.succ_pos _); obtain ⟨hmg1, hmg2⟩ := mid_grown HM.out hgrow3 rfl; have hmid2 := HM.out.push hei hown3 hgrow3 hat3 rfl; simp only [List.length_nil, Nat.zero_mul] at hmg1 hmg2; obtain ⟨g2, cap2, ev, _, _, c3, _, f3, _⟩ := mid_cap hmid2; cases ev; simp only [List.length_nil, Nat.zero_mul, Nat.zero_add] at c3 f3; obtain ⟨ad3, e3, _, hc3⟩ := IntsIn.at_ (Reads.below HX.out hmid2.bel) hlt; cases e3; simp only [List.length_nil, Nat.zero_mul] at hc3; have HM2 := Lib.hid hmid2; clear hown3 hgrow3 _hn3 hat3 hmid2))
          go_roundw
          case rel => exact ⟨i + 1, by omega, by go_num, .inr ⟨[], i, 0 + 1, _, Nat.succ_pos _, by rw [htf.out]; exact HM2.out⟩⟩
          case measure => simp [intOf]; omega
      · clear hrel
        obtain ⟨gv, capv, rfl, hcapv, ca0, _, _, _, _⟩ := mid_cap hmid
        obtain ⟨ga0, capa0, rfl, hf0⟩ := mid_last hmid hcnt
        have hfl : fr < ts.length := hmid.lt
        have hsum := Lib.hid hmid.sum
        have hlf : l.length ≤ fr := hmid.few
        have hcb : cnt ≤ 65536 := by have := hmid.sum; omega
        have hfi : fr < i := by have := hmid.sum; omega
        obtain ⟨ad, rfl, _, hc⟩ := IntsIn.at_ (Reads.below HX.out hmid.bel) hlt
        obtain ⟨ad', e', _, hcfr⟩ := IntsIn.at_ (Reads.below HX.out hmid.bel) hfl
        cases e'
        have hbf := Pl.ok_bounds HOK.out hfl
        rw [show ts.getD fr 0 = ts[fr] by simp [hfl]] at hbf
        obtain ⟨hb3, hb4⟩ := hbf
        have hei : i < Pl.endOf ts M wait i := (Pl.endOf_le ts M wait i hlt).1
        obtain ⟨_, _, _, hf4, hf5⟩ := Pl.endOf_facts (wait := wait) hfl hM1
        have wr1 : IntKind.i64.wrap (ts[fr] + wait) = ts[fr] + wait := IntWalk.i64_in _ (by omega)
        have dk : decide ((l.length : Int) < 0) = false := decide_eq_false (by omega)
        by_cases hend : i = Pl.endOf ts M wait fr
        · obtain ⟨kk, hown0, hrows0, hform0, hkl⟩ := hmid.all hend rfl hcnt
          have hbel := hmid.bel
          rw [← hend] at hf5
          rw [show ts.getD i 0 = ts[i] by simp [hlt], show ts.getD fr 0 = ts[fr] by simp [hfl]] at hf5
          have hnew : M ≤ cnt ∨ (cnt < M ∧ ts[fr] + wait < ts[i]) := by have := hmid.sum; omega
          have hfew0 : kk.length ≤ i := by omega
          clear hf4 hf5 hend hmid
          have HO0 := Lib.hid hown0
          have HR0 := Lib.hid hrows0
          have HF0 := Lib.hid hform0
          have HKL := Lib.hid hkl
          clear hown0 hrows0 hform0 hkl
          rcases hnew with hnew | ⟨hnew1, hnew2⟩
          · have dn : decide (M ≤ cnt) = true := decide_eq_true hnew
            go_wp2
            go_quiet (fail)
            clear wr1 dk
            have hbel : Below w.heap.size w (wr.drewN nq) := ⟨hbel.os, hbel.tape, hbel.output, hbel.size, hbel.block⟩
            have hc : (wr.drewN nq).cell? (ad.add i) = some (.int .i64 ts[i]) := hc
            have hown0 : (wr.drewN nq).ownsRow w.heap.size 44 2 (.slice (some ⟨gv, 0, none⟩) (l.length + 1) capv) kk.length (flatP kk) := HO0
            have hrows0 : GOwn (wr.drewN nq) w.heap.size kk := HR0
            clear HO0 HR0
            generalize wr.drewN nq = wd at hbel hc hown0 hrows0 ⊢
            have hsz0 := hbel.size
            by_cases hfull : 0 + 1 = M
            · have hfb : (((0 : Nat) : Int) + 1 == (M : Int)) = true := beq_iff_eq.2 (by omega)
              have hfb1 : ((1 : Int) == (M : Int)) = true := beq_iff_eq.2 (by omega)
              have htf := Lib.hid (time_full (wait := wait) (Nat.add_zero i) hfull hlt)
              clear hfull
              go_wp2_with (first | (at_builtin; refine wpList_append_own _ rfl (.tmp 50) (.tmp 58) 34 rfl w.heap.size 44 i1 _ 2 32 Try.underlying34 HI1.out HZ3.out HZ4.out HZ5.out rfl (by decide) _ kk.length _ rfl (hown0.alloc _) ⟨wd.heap.size, 0, none⟩ 1 1 [.slice none 0 0, .int .i64 (ts[i] + wait)] rfl rfl (two_new1 _ _ _ _) (two_one _ _ _ _) (by unfold maxLen; omega) (by omega) (by simp; omega) ?_; intro v' w1 hown' hgrow _hn; have hmid := GMid.start (ts := ts) (M := M) (wait := wait) hbel v' kk hown0 hrows0 HF0.out hlt hfew0 hown' hgrow; obtain ⟨g, cap, hv', hcap, ca, ct, fa, ft, hgl⟩ := mid_cap hmid; rw [HKL.out] at hv' hcap ca ct fa ft; subst hv'; have hsz1 := hmid.bel.size; have HM := Lib.hid hmid; clear hmid hown' hgrow _hn) | (at_builtin; refine wpList_append_own_at _ rfl (.tmp 68) (.tmp 70) 22 rfl w.heap.size 3 i0 _ 1 8 Try.underlying22 HI.out HZ0.out HZ1.out HZ2.out rfl (by decide) _ 0 _ rfl (HM.out.last.alloc _) ⟨w1.heap.size, 0, none⟩ 1 1 [.int .i64 (i : Int)] rfl rfl (one_new _ _ _) (one_one _) (by unfold maxLen; omega) (by omega) (by simp; omega) ?_; intro a' w3 hown3 hgrow3 _hn3 hat3; obtain ⟨ga, cpa, rfl, _, _⟩ := hown3.form (Nat.succ_pos _); obtain ⟨hmg1, hmg2⟩ := mid_grown HM.out hgrow3 (by rw [HKL.out]); rw [HKL.out] at hmg1 hmg2; have hmid2 := HM.out.push hei hown3 hgrow3 hat3 (by rw [HKL.out]); rw [HKL.out] at hmid2; obtain ⟨g2, cap2, ev, _, _, c3, _, f3, _⟩ := mid_cap hmid2; rw [HKL.out] at ev c3 f3; cases ev; obtain ⟨ad3, e3, _, hc3⟩ := IntsIn.at_ (Reads.below HX.out hmid2.bel) hlt; cases e3; have HM2 := Lib.hid hmid2; clear hown3 hgrow3 _hn3 hat3 hmid2))
              go_roundw
              case rel => exact ⟨i + 1, by omega, by go_num, .inr ⟨kk, i, 0 + 1, _, Nat.succ_pos _, by rw [htf.out]; have := HM2.out.time (tm' := ts[i]) (by rw [HKL.out]); rw [HKL.out] at this; exact this⟩⟩
              case measure => simp [intOf]; omega
            · have hfb : (((0 : Nat) : Int) + 1 == (M : Int)) = false := beq_eq_false_iff_ne.2 (by omega)
              have hfb1 : ((1 : Int) == (M : Int)) = false := beq_eq_false_iff_ne.2 (by omega)
              have htf := Lib.hid (time_part (wait := wait) (cnt := 0 + 1) (show i + (0 + 1) = i + 1 by omega) hfull hlt)
              clear hfull
              go_wp2_with (first | (at_builtin; refine wpList_append_own _ rfl (.tmp 50) (.tmp 58) 34 rfl w.heap.size 44 i1 _ 2 32 Try.underlying34 HI1.out HZ3.out HZ4.out HZ5.out rfl (by decide) _ kk.length _ rfl (hown0.alloc _) ⟨wd.heap.size, 0, none⟩ 1 1 [.slice none 0 0, .int .i64 (ts[i] + wait)] rfl rfl (two_new1 _ _ _ _) (two_one _ _ _ _) (by unfold maxLen; omega) (by omega) (by simp; omega) ?_; intro v' w1 hown' hgrow _hn; have hmid := GMid.start (ts := ts) (M := M) (wait := wait) hbel v' kk hown0 hrows0 HF0.out hlt hfew0 hown' hgrow; obtain ⟨g, cap, hv', hcap, ca, ct, fa, ft, hgl⟩ := mid_cap hmid; rw [HKL.out] at hv' hcap ca ct fa ft; subst hv'; have hsz1 := hmid.bel.size; have HM := Lib.hid hmid; clear hmid hown' hgrow _hn) | (at_builtin; refine wpList_append_own_at _ rfl (.tmp 68) (.tmp 70) 22 rfl w.heap.size 3 i0 _ 1 8 Try.underlying22 HI.out HZ0.out HZ1.out HZ2.out rfl (by decide) _ 0 _ rfl (HM.out.last.alloc _) ⟨w1.heap.size, 0, none⟩ 1 1 [.int .i64 (i : Int)] rfl rfl (one_new _ _ _) (one_one _) (by unfold maxLen; omega) (by omega) (by simp; omega) ?_; intro a' w3 hown3 hgrow3 _hn3 hat3; obtain ⟨ga, cpa, rfl, _, _⟩ := hown3.form (Nat.succ_pos _); obtain ⟨hmg1, hmg2⟩ := mid_grown HM.out hgrow3 (by rw [HKL.out]); rw [HKL.out] at hmg1 hmg2; have hmid2 := HM.out.push hei hown3 hgrow3 hat3 (by rw [HKL.out]); rw [HKL.out] at hmid2; obtain ⟨g2, cap2, ev, _, _, c3, _, f3, _⟩ := mid_cap hmid2; rw [HKL.out] at ev c3 f3; cases ev; obtain ⟨ad3, e3, _, hc3⟩ := IntsIn.at_ (Reads.below HX.out hmid2.bel) hlt; cases e3; have HM2 := Lib.hid hmid2; clear hown3 hgrow3 _hn3 hat3 hmid2))
              go_roundw
              case rel => exact ⟨i + 1, by omega, by go_num, .inr ⟨kk, i, 0 + 1, _, Nat.succ_pos _, by rw [htf.out]; exact HM2.out⟩⟩
              case measure => simp [intOf]; omega
          · have dn : decide (M ≤ cnt) = false := decide_eq_false (by omega)
            have dn2 : decide (ts[fr] + wait < ts[i]) = true := decide_eq_true hnew2
            go_wp2
            go_quiet (fail)
            clear wr1 dk
            have hbel : Below w.heap.size w (wr.drewN nq) := ⟨hbel.os, hbel.tape, hbel.output, hbel.size, hbel.block⟩
            have hc : (wr.drewN nq).cell? (ad.add i) = some (.int .i64 ts[i]) := hc
            have hown0 : (wr.drewN nq).ownsRow w.heap.size 44 2 (.slice (some ⟨gv, 0, none⟩) (l.length + 1) capv) kk.length (flatP kk) := HO0
            have hrows0 : GOwn (wr.drewN nq) w.heap.size kk := HR0
            clear HO0 HR0
            generalize wr.drewN nq = wd at hbel hc hown0 hrows0 ⊢
            have hsz0 := hbel.size
            by_cases hfull : 0 + 1 = M
            · have hfb : (((0 : Nat) : Int) + 1 == (M : Int)) = true := beq_iff_eq.2 (by omega)
              have hfb1 : ((1 : Int) == (M : Int)) = true := beq_iff_eq.2 (by omega)
              have htf := Lib.hid (time_full (wait := wait) (Nat.add_zero i) hfull hlt)
              clear hfull
              go_wp2_with (first | (at_builtin; refine wpList_append_own _ rfl (.tmp 50) (.tmp 58) 34 rfl w.heap.size 44 i1 _ 2 32 Try.underlying34 HI1.out HZ3.out HZ4.out HZ5.out rfl (by decide) _ kk.length _ rfl (hown0.alloc _) ⟨wd.heap.size, 0, none⟩ 1 1 [.slice none 0 0, .int .i64 (ts[i] + wait)] rfl rfl (two_new1 _ _ _ _) (two_one _ _ _ _) (by unfold maxLen; omega) (by omega) (by simp; omega) ?_; intro v' w1 hown' hgrow _hn; have hmid := GMid.start (ts := ts) (M := M) (wait := wait) hbel v' kk hown0 hrows0 HF0.out hlt hfew0 hown' hgrow; obtain ⟨g, cap, hv', hcap, ca, ct, fa, ft, hgl⟩ := mid_cap hmid; rw [HKL.out] at hv' hcap ca ct fa ft; subst hv'; have hsz1 := hmid.bel.size; have HM := Lib.hid hmid; clear hmid hown' hgrow _hn) | (at_builtin; refine wpList_append_own_at _ rfl (.tmp 68) (.tmp 70) 22 rfl w.heap.size 3 i0 _ 1 8 Try.underlying22 HI.out HZ0.out HZ1.out HZ2.out rfl (by decide) _ 0 _ rfl (HM.out.last.alloc _) ⟨w1.heap.size, 0, none⟩ 1 1 [.int .i64 (i : Int)] rfl rfl (one_new _ _ _) (one_one _) (by unfold maxLen; omega) (by omega) (by simp; omega) ?_; intro a' w3 hown3 hgrow3 _hn3 hat3; obtain ⟨ga, cpa, rfl, _, _⟩ := hown3.form (Nat.succ_pos _); obtain ⟨hmg1, hmg2⟩ := mid_grown HM.out hgrow3 (by rw [HKL.out]); rw [HKL.out] at hmg1 hmg2; have hmid2 := HM.out.push hei hown3 hgrow3 hat3 (by rw [HKL.out]); rw [HKL.out] at hmid2; obtain ⟨g2, cap2, ev, _, _, c3, _, f3, _⟩ := mid_cap hmid2; rw [HKL.out] at ev c3 f3; cases ev; obtain ⟨ad3, e3, _, hc3⟩ := IntsIn.at_ (Reads.below HX.out hmid2.bel) hlt; cases e3; have HM2 := Lib.hid hmid2; clear hown3 hgrow3 _hn3 hat3 hmid2))
              go_roundw
              case rel => exact ⟨i + 1, by omega, by go_num, .inr ⟨kk, i, 0 + 1, _, Nat.succ_pos _, by rw [htf.out]; have := HM2.out.time (tm' := ts[i]) (by rw [HKL.out]); rw [HKL.out] at this; exact this⟩⟩
              case measure => simp [intOf]; omega
            · have hfb : (((0 : Nat) : Int) + 1 == (M : Int)) = false := beq_eq_false_iff_ne.2 (by omega)
              have hfb1 : ((1 : Int) == (M : Int)) = false := beq_eq_false_iff_ne.2 (by omega)
              have htf := Lib.hid (time_part (wait := wait) (cnt := 0 + 1) (show i + (0 + 1) = i + 1 by omega) hfull hlt)
              clear hfull
              go_wp2_with (first | (at_builtin; refine wpList_append_own _ rfl (.tmp 50) (.tmp 58) 34 rfl w.heap.size 44 i1 _ 2 32 Try.underlying34 HI1.out HZ3.out HZ4.out HZ5.out rfl (by decide) _ kk.length _ rfl (hown0.alloc _) ⟨wd.heap.size, 0, none⟩ 1 1 [.slice none 0 0, .int .i64 (ts[i] + wait)] rfl rfl (two_new1 _ _ _ _) (two_one _ _ _ _) (by unfold maxLen; omega) (by omega) (by simp; omega) ?_; intro v' w1 hown' hgrow _hn; have hmid := GMid.start (ts := ts) (M := M) (wait := wait) hbel v' kk hown0 hrows0 HF0.out hlt hfew0 hown' hgrow; obtain ⟨g, cap, hv', hcap, ca, ct, fa, ft, hgl⟩ := mid_cap hmid; rw [HKL.out] at hv' hcap ca ct fa ft; subst hv'; have hsz1 := hmid.bel.size; have HM := Lib.hid hmid; clear hmid hown' hgrow _hn) | (at_builtin; refine wpList_append_own_at _ rfl (.tmp 68) (.tmp 70) 22 rfl w.heap.size 3 i0 _ 1 8 Try.underlying22 HI.out HZ0.out HZ1.out HZ2.out rfl (by decide) _ 0 _ rfl (HM.out.last.alloc _) ⟨w1.heap.size, 0, none⟩ 1 1 [.int .i64 (i : Int)] rfl rfl (one_new _ _ _) (one_one _) (by unfold maxLen; omega) (by omega) (by simp; omega) ?_; intro a' w3 hown3 hgrow3 _hn3 hat3; obtain ⟨ga, cpa, rfl, _, _⟩ := hown3.form (Nat.succ_pos _); obtain ⟨hmg1, hmg2⟩ := mid_grown HM.out hgrow3 (by rw [HKL.out]); rw [HKL.out] at hmg1 hmg2; have hmid2 := HM.out.push hei hown3 hgrow3 hat3 (by rw [HKL.out]); rw [HKL.out] at hmid2; obtain ⟨g2, cap2, ev, _, _, c3, _, f3, _⟩ := mid_cap hmid2; rw [HKL.out] at ev c3 f3; cases ev; obtain ⟨ad3, e3, _, hc3⟩ := IntsIn.at_ (Reads.below HX.out hmid2.bel) hlt; cases e3; have HM2 := Lib.hid hmid2; clear hown3 hgrow3 _hn3 hat3 hmid2))
              go_roundw
              case rel => exact ⟨i + 1, by omega, by go_num, .inr ⟨kk, i, 0 + 1, _, Nat.succ_pos _, by rw [htf.out]; exact HM2.out⟩⟩
              case measure => simp [intOf]; omega
        · have hlast : i < Pl.endOf ts M wait fr := by have := hmid.le; omega
          have hfm : cnt < M := by have := hmid.sum; omega
          have hin := hf4 i (by omega) hlast
          rw [show ts.getD i 0 = ts[i] by simp [hlt], show ts.getD fr 0 = ts[fr] by simp [hfl]] at hin
          have dn : decide (M ≤ cnt) = false := decide_eq_false (by omega)
          have dn2 : decide (ts[fr] + wait < ts[i]) = false := decide_eq_false (by omega)
          rw [time_part hmid.sum (by omega) hfl] at hmid
          have HM0 := Lib.hid hmid
          clear hmid hf4 hf5
          go_wp2
          go_quiet (fail)
          clear wr1 dk
          have hmid := HM0.out.drewN nq
          clear HM0
          generalize wr.drewN nq = wd at hmid ⊢
          obtain ⟨g, cap, ev0, hcap, ca, ct, fa, ft, hgl⟩ := mid_cap hmid
          cases ev0
          have hsz0 := hmid.bel.size
          have hei2 := hlast
          have HM := Lib.hid hmid
          clear hmid ca0 hf0 hc hcfr
          by_cases hfull : cnt + 1 = M
          · have hfb : (((cnt : Nat) : Int) + 1 == (M : Int)) = true := beq_iff_eq.2 (by omega)
            have htf := Lib.hid (time_full (wait := wait) hsum.out hfull hlt)
            clear hfull
            go_wp2_with (first | (at_builtin; refine wpList_append_own_at _ rfl (.tmp 68) (.tmp 70) 22 rfl w.heap.size 3 i0 _ 1 8 Try.underlying22 HI.out HZ0.out HZ1.out HZ2.out rfl (by decide) _ cnt _ rfl (HM.out.last.alloc _) ⟨wd.heap.size, 0, none⟩ 1 1 [.int .i64 (i : Int)] rfl rfl (one_new _ _ _) (one_one _) (by unfold maxLen; omega) (by omega) (by simp; omega) ?_; intro a' w3 hown3 hgrow3 _hn3 hat3; obtain ⟨ga, cpa, rfl, _, _⟩ := hown3.form (Nat.succ_pos _); obtain ⟨hmg1, hmg2⟩ := mid_grown HM.out hgrow3 rfl; have hmid2 := HM.out.push hei2 hown3 hgrow3 hat3 rfl; obtain ⟨g2, cap2, ev, _, _, c3, _, f3, _⟩ := mid_cap hmid2; cases ev; obtain ⟨ad3, e3, _, hc3⟩ := IntsIn.at_ (Reads.below HX.out hmid2.bel) hlt; cases e3; have HM2 := Lib.hid hmid2; clear hown3 hgrow3 _hn3 hat3 hmid2))
            go_roundw
            case rel => exact ⟨i + 1, by omega, by go_num, .inr ⟨l, fr, cnt + 1, _, Nat.succ_pos _, by rw [htf.out]; exact HM2.out.time rfl⟩⟩
            case measure => simp [intOf]; omega
          · have hfb : (((cnt : Nat) : Int) + 1 == (M : Int)) = false := beq_eq_false_iff_ne.2 (by omega)
            have htf := Lib.hid (time_part (wait := wait) (cnt := cnt + 1) (show fr + (cnt + 1) = i + 1 by have := hsum.out; omega) hfull hfl)
            clear hfull
            go_wp2_with (first | (at_builtin; refine wpList_append_own_at _ rfl (.tmp 68) (.tmp 70) 22 rfl w.heap.size 3 i0 _ 1 8 Try.underlying22 HI.out HZ0.out HZ1.out HZ2.out rfl (by decide) _ cnt _ rfl (HM.out.last.alloc _) ⟨wd.heap.size, 0, none⟩ 1 1 [.int .i64 (i : Int)] rfl rfl (one_new _ _ _) (one_one _) (by unfold maxLen; omega) (by omega) (by simp; omega) ?_; intro a' w3 hown3 hgrow3 _hn3 hat3; obtain ⟨ga, cpa, rfl, _, _⟩ := hown3.form (Nat.succ_pos _); obtain ⟨hmg1, hmg2⟩ := mid_grown HM.out hgrow3 rfl; have hmid2 := HM.out.push hei2 hown3 hgrow3 hat3 rfl; obtain ⟨g2, cap2, ev, _, _, c3, _, f3, _⟩ := mid_cap hmid2; cases ev; obtain ⟨ad3, e3, _, hc3⟩ := IntsIn.at_ (Reads.below HX.out hmid2.bel) hlt; cases e3; have HM2 := Lib.hid hmid2; clear hown3 hgrow3 _hn3 hat3 hmid2))
            go_roundw
            case rel => exact ⟨i + 1, by omega, by go_num, .inr ⟨l, fr, cnt + 1, _, Nat.succ_pos _, by rw [htf.out]; exact HM2.out⟩⟩
            case measure => simp [intOf]; omega
    · rcases hrel.out with ⟨h0, rfl, hbel⟩ | ⟨l, fr, cnt, a, hcnt, hmid⟩
      · clear hrel
        have hz : Hid (Pl.form ts M wait 0 = []) := Pl.form_nil (by omega)
        go_wp2
        go_ret
        refine ⟨_, rfl, [], ?_, World.ownsRow_nil _ _ _ _, fun p hp => by simp at hp, hbel⟩
        rw [hz.out]; rfl
      · clear hrel
        obtain ⟨gv, capv, rfl, _, _, _, _, _, _⟩ := mid_cap hmid
        have hle := (Pl.endOf_le ts M wait fr hmid.lt).2
        obtain ⟨kk, hown0, hrows0, hform0, hkl⟩ := hmid.all (by have := hmid.le; omega) rfl hcnt
        rw [Pl.form_nil (fr := i) (by omega), List.append_nil] at hform0
        have R : Hid (RefG w wr (.slice (some ⟨gv, 0, none⟩) (l.length + 1) capv) (Pl.form ts M wait 0)) := ⟨kk, hform0.symm, hown0, hrows0, hmid.bel⟩
        clear hmid hown0 hrows0 hform0 hkl
        go_wp2
        go_ret
        exact ⟨_, rfl, R.out⟩
end Go.Proofs.Ytgmdpmhoedjcoaa
