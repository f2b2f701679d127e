/-
  BatchEach: the walk.
-/
import Derived.Test.YtgmdpmhoedjcoaaT
namespace Go.Proofs.Ytgmdpmhoedjcoaa.batchEach
open Go.RowKit

theorem flat_at (ba : Nat) (g : Pl.Grp) (rest : List Pl.Grp) : ∀ gs : List Pl.Grp, (flat ba (gs ++ g :: rest))[gs.length * 2]? = some (.slice (some ⟨ba, g.fr, none⟩) (g.to - g.fr) (g.to - g.fr)) ∧
    (flat ba (gs ++ g :: rest))[gs.length * 2 + 1]? = some (.int .i64 g.time)
  | [] => ⟨rfl, rfl⟩
  | x :: gs => by
    have ih := flat_at ba g rest gs
    rw [List.cons_append]
    simp only [flat, List.length_cons]
    rw [show (gs.length + 1) * 2 = gs.length * 2 + 1 + 1 by omega, List.getElem?_cons_succ, List.getElem?_cons_succ, List.getElem?_cons_succ, List.getElem?_cons_succ]
    exact ih

set_option maxHeartbeats 2000000 in
set_option maxRecDepth 100000 in
theorem walk (a0 : Option Addr) (len0 cap0 : Nat) (z0 : List Int) (a1 a2 : Int) (w : World) (w0 : IsRow .i64 w a0 len0 cap0 z0) (_w1 : (Lit.int .i64 a1).wf = true) (_w2 : (Lit.int .i64 a2).wf = true) :
    Calls Try.prog 5 #[.slice a0 len0 cap0, .int .i64 a1, .int .i64 a2] w fun e w' => e = .returned (.bool true) ∧ Below w.heap.size w w' := by
  obtain ⟨hx, hlen⟩ := w0.ints
  have hmax : (z0.take len0).length ≤ 9223372036854775807 := by
    rcases w0 with ⟨_, _, _, rfl⟩ | ⟨_, _, _, h1, h2, h3, _⟩
    · simp
    · unfold maxLen at h2; omega
  generalize z0.take len0 = xs at hx hlen hmax
  subst hlen
  clear w0
  have HX := Lib.hid hx
  clear hx
  go_enter Try.func5, Try.ntmps5
  go_wp2_with fail
  refine (times_any _ _ xs 7 _ HX.out hmax).mono ?_
  rintro e w1 ⟨v, rfl, hown, hbel⟩
  obtain ⟨At, ct, rfl, hI⟩ := own_ints hown
  clear hown
  have HI := Lib.hid hI
  clear hI
  have hok : Hid (Pl.okUpto (Pl.times xs 7) (Pl.times xs 7).length = true) := by
    show _ = _
    rw [Pl.times_seven, Pl.tms_length]; exact Pl.tms_ok xs _ (by omega)
  have hcode := fun (most wait : Int) h1 h2 h3 h4 => Pl.seven_code xs (most := most) (wait := wait) h1 h2 h3 h4
  have hn40 : (Pl.times xs 7).length ≤ 40 := by rw [Pl.times_length]; omega
  generalize Pl.times xs 7 = ts at HI hok hcode hn40 ⊢
  have HC := Lib.hid hcode
  clear hcode
  go_wp2_with fail
  refine (pick_any a1 5 _ (by omega) (by omega)).mono ?_
  rintro e w' ⟨rfl, rfl⟩
  obtain ⟨m, hm⟩ := Int.eq_ofNat_of_zero_le (Int.emod_nonneg a1 (show (5 : Int) ≠ 0 by omega))
  have hm2 : m < 5 := by have := Int.emod_lt_of_pos a1 (show (0 : Int) < 5 by omega); omega
  rw [hm]
  clear hm
  go_wp2_with fail
  refine (pick_any a2 9 _ (by omega) (by omega)).mono ?_
  rintro e w' ⟨rfl, rfl⟩
  obtain ⟨wt, HW⟩ : ∃ wt, Hid (a2 % 9 = wt) := ⟨_, rfl⟩
  have hw2 : 0 ≤ wt ∧ wt < 9 := by
    have := Int.emod_lt_of_pos a2 (show (0 : Int) < 9 by omega)
    have := Int.emod_nonneg a2 (show (9 : Int) ≠ 0 by omega)
    have := HW.out; omega
  obtain ⟨hw1, hw2⟩ := hw2
  rw [HW.out]
  go_wp2_with fail
  refine (form_any _ _ ts ((m : Int) + 1) wt _ ((Reads.alloc HI.out (Nat.le_refl _) _).more (by simp)) (by omega)).mono ?_
  intro e w2 h2
  rcases h2 with ⟨h0, _⟩ | ⟨_, v, ba, rfl, hown, hba, hB, hbel2⟩
  · exact absurd (HC.out _ _ (by omega) (by omega) (by omega) (by omega)) h0
  obtain ⟨Ag, cg, rfl⟩ : ∃ Ag cg, v = .slice Ag (Pl.form ts ((m : Int) + 1).toNat wt 0).length cg := by
    rcases hown.2 with ⟨h, h'⟩ | ⟨g, cap, cur, h, _⟩
    · exact ⟨none, 0, by rw [h, h']⟩
    · exact ⟨_, _, h⟩
  rw [show ((m : Int) + 1).toNat = m + 1 by omega] at hown ⊢
  have hR : Blk w2 w1.heap.size 26 #[.int .i64 ((m : Int) + 1), .int .i64 wt] := (Blk.new w1 26 #[.int .i64 ((m : Int) + 1), .int .i64 wt]).below hbel2 (by simp)
  have hT : IntsIn w2 w1.heap.size At ts := Reads.keep HI.out (fun p hp => (hbel2.cell (by simp; omega)).trans (World.cell?_alloc_lt _ _ _ hp))
  have hb : Below w.heap.size w w2 := (hbel.alloc hbel.size _).trans (hbel2.mono (by have := hbel.size; simp; omega))
  have hgl := Pl.form_length_le ts (m + 1) wt _ 0 rfl
  have HOWN := Lib.hid hown
  have HB := Lib.hid hB
  have HR := Lib.hid hR
  have HT := Lib.hid hT
  clear hown hB hR hT hbel hbel2 HI HC HX
  have hmost : w2.cell? ⟨w1.heap.size, 0, none⟩ = some (.int .i64 ((m : Int) + 1)) := HR.out.cell 0
  have hwait : w2.cell? ⟨w1.heap.size, 1, none⟩ = some (.int .i64 wt) := HR.out.cell 1
  obtain ⟨G, HG⟩ : ∃ G, Hid (Pl.form ts (m + 1) wt 0 = G) := ⟨_, rfl⟩
  rw [HG.out] at HOWN hgl ⊢
  go_wp2
  go_loopw [11, 12] (fun nx i wr => ∃ (gs : List Pl.Grp) (fr q : Nat), fr ≤ ts.length ∧ gs.length ≤ G.length ∧ nx = .int .i64 fr ∧ i = .int .i64 gs.length ∧ Hid (G = gs ++ Pl.form ts (m + 1) wt fr) ∧ wr = w2.drewN q) (fun _ i _ => G.length - (intOf i).toNat)
  case atStart => exact ⟨[], 0, 0, Nat.zero_le _, Nat.zero_le _, rfl, rfl, HG.out.symm, rfl⟩
  case round =>
    obtain ⟨gs, fr, q, hfr, hgs, rfl, rfl, hform, rfl⟩ := hrel
    by_cases hlt : fr < ts.length
    · have hF := Pl.grp_fine (most := m + 1) (wait := wt) hok.out hlt (by omega) hw1
      have hG2 := hform.out
      rw [Pl.form_cons hlt] at hG2
      have hto : Hid (Pl.endOf ts (m + 1) wt fr = (Pl.grp ts (m + 1) wt fr).to) := rfl
      rw [hto.out] at hG2
      generalize Pl.grp ts (m + 1) wt fr = gg at hF hG2 hto
      obtain ⟨gfr, to, tm⟩ := gg
      obtain rfl : gfr = fr := hF.at_
      have hlen : gs.length < G.length := by rw [hG2]; simp
      have hpos : 0 < G.length := by omega
      have hA := HOWN.out.form hpos
      obtain ⟨g, cap, hv, _, _⟩ := hA
      injection hv with hv1 hv2 hv3
      subst hv1
      have hfl := flat_at ba ⟨gfr, to, tm⟩ (Pl.form ts (m + 1) wt to) gs
      rw [← hG2] at hfl
      obtain ⟨n, hn⟩ : ∃ n, to = gfr + n := ⟨to - gfr, by have := hF.lt; simp only at this; omega⟩
      subst hn
      have c0 : w2.cell? ⟨g, gs.length * 2, none⟩ = some (.slice (some ⟨ba, gfr, none⟩) n n) := by rw [HOWN.out.cellAt _ (by omega), hfl.1]; simp
      have c1 : w2.cell? ⟨g, gs.length * 2 + 1, none⟩ = some (.int .i64 tm) := by rw [HOWN.out.cellAt _ (by omega)]; exact hfl.2
      have HG2 := Lib.hid hG2
      have HF := Lib.hid hF
      clear hG2 hF hfl hv2 hv3 hform
      have f1 : 1 ≤ n := by have := HF.out.lt; simp only at this; omega
      have f2 : gfr + n ≤ ts.length := HF.out.le
      have f3 : n ≤ m + 1 := by have := HF.out.few; simp only at this; omega
      have f4 := HF.out.bound
      simp only at f4
      obtain ⟨f4, f5⟩ := f4
      obtain ⟨ad, rfl, _, hcf⟩ := IntsIn.at_ HT.out hlt
      go_wp2
      go_loopw [11, 14] (fun nx kk wr => ∃ k q : Nat, k ≤ n ∧ nx = .int .i64 ((gfr + k : Nat) : Int) ∧ kk = .int .i64 k ∧ wr = w2.drewN q) (fun _ kk _ => n - (intOf kk).toNat)
      case atStart => exact ⟨0, q, Nat.zero_le _, rfl, rfl, rfl⟩
      case round =>
        obtain ⟨k, q2, hk, rfl, rfl, rfl⟩ := hrel
        by_cases hkn : k < n
        · have hj : gfr + k < ts.length := by omega
          obtain ⟨ad', e', _, hct⟩ := IntsIn.at_ HT.out hj
          cases e'
          have e1 := HF.out.early (gfr + k) (by omega) (by show gfr + k < gfr + n; omega)
          have e2 := HF.out.late (gfr + k) (by omega) (by show gfr + k < gfr + n; omega)
          have hb := Pl.ok_bounds hok.out hj
          rw [show ts.getD (gfr + k) 0 = ts[gfr + k] by simp [hj]] at e1 e2 hb
          simp only at e1 e2
          obtain ⟨hb1, hb2⟩ := hb
          have c2 : w2.cell? ⟨ba, gfr + k, none⟩ = some (.int .i64 ((gfr + k : Nat) : Int)) := by rw [HB.out.cell, fillA_at hj, if_pos hj]
          have d1 : decide (tm < ts[gfr + k]) = false := decide_eq_false (by omega)
          have d2 : decide (ts[gfr + k] + wt < tm) = false := decide_eq_false (by omega)
          have wr1 : IntKind.i64.wrap (ts[gfr + k] + wt) = ts[gfr + k] + wt := IntWalk.i64_in _ (by omega)
          go_wp2
          go_quiet (fail)
          clear wr1
          go_wp2
          go_roundw
          case rel => exact ⟨k + 1, q2 + nq, by omega, by go_num, by go_num, rfl⟩
          case measure => simp [intOf]; omega
        · have hkn' : k = n := by omega
          subst hkn'
          have c2 : w2.cell? ⟨ba, gfr, none⟩ = some (.int .i64 (gfr : Int)) := by rw [HB.out.cell, fillA_at hlt, if_pos hlt]
          have hb := Pl.ok_bounds hok.out hlt
          rw [show ts.getD gfr 0 = ts[gfr] by simp [hlt]] at hb
          obtain ⟨hb1, hb2⟩ := hb
          have wr1 : IntKind.i64.wrap (ts[gfr] + wt) = ts[gfr] + wt := IntWalk.i64_in _ (by omega)
          have REL : Hid (G = (gs ++ [(⟨gfr, gfr + k, tm⟩ : Pl.Grp)]) ++ Pl.form ts (m + 1) wt (gfr + k)) := by rw [HG2.out]; simp [Hid]
          by_cases hM : (k : Int) < (m : Int) + 1
          · have dM : decide ((k : Int) < (m : Int) + 1) = true := decide_eq_true hM
            have p1 := HF.out.part (by show gfr + k - gfr < m + 1; omega)
            simp only at p1
            rw [show ts.getD gfr 0 = ts[gfr] by simp [hlt]] at p1
            subst p1
            have d3 : ((ts[gfr] + wt) != (ts[gfr] + wt)) = false := by simp
            by_cases hnx : gfr + k < ts.length
            · have p2 := HF.out.next (by show gfr + k - gfr < m + 1; omega) (by show gfr + k < ts.length; omega)
              simp only at p2
              rw [show ts.getD (gfr + k) 0 = ts[gfr + k] by simp [hnx]] at p2
              obtain ⟨ad', e', _, hct⟩ := IntsIn.at_ HT.out hnx
              cases e'
              have d4 : decide (ts[gfr + k] ≤ ts[gfr] + wt) = false := decide_eq_false (by omega)
              have d5 : decide ((gfr : Int) + (k : Int) < (ts.length : Int)) = true := decide_eq_true (by omega)
              have e5 : ((gfr : Int) + (k : Int)).toNat = gfr + k := by omega
              go_wp2
              go_quiet (fail)
              go_wp2
              go_quiet (fail)
              clear wr1 e5
              go_wp2
              go_roundw
              case rel => exact ⟨gs ++ [(⟨gfr, gfr + k, ts[gfr] + wt⟩ : Pl.Grp)], gfr + k, _, by omega, by simp; omega, by go_num, by simp, REL, rfl⟩
              case measure => simp [intOf]; omega
            · have d5 : decide ((gfr : Int) + (k : Int) < (ts.length : Int)) = false := decide_eq_false (by omega)
              go_wp2
              go_quiet (fail)
              go_wp2
              go_quiet (fail)
              clear wr1
              go_wp2
              go_roundw
              case rel => exact ⟨gs ++ [(⟨gfr, gfr + k, ts[gfr] + wt⟩ : Pl.Grp)], gfr + k, _, by omega, by simp; omega, by go_num, by simp, REL, rfl⟩
              case measure => simp [intOf]; omega
          · have dM : decide ((k : Int) < (m : Int) + 1) = false := decide_eq_false hM
            go_wp2
            go_quiet (fail)
            go_wp2
            go_quiet (fail)
            clear wr1
            go_wp2
            go_roundw
            case rel => exact ⟨gs ++ [(⟨gfr, gfr + k, tm⟩ : Pl.Grp)], gfr + k, _, by omega, by simp; omega, by go_num, by simp, REL, rfl⟩
            case measure => simp [intOf]; omega
    · have hG3 : gs.length = G.length := by
        have := hform.out
        rw [Pl.form_nil (by omega)] at this
        rw [this]; simp
      have hfe : fr = ts.length := by omega
      have HF2 := Lib.hid hfe
      have HG3 := Lib.hid hG3
      have hnl : ¬ gs.length < G.length := by omega
      have hfb : ((fr : Int) == (ts.length : Int)) = true := beq_iff_eq.2 (by omega)
      clear hfe hG3
      go_wp2_with (go_at_call 11; refine (known_any _).mono ?_; rintro e w3 ⟨rfl, hb3⟩)
      go_ret
      refine ⟨rfl, ?_⟩
      have hb' : Below w.heap.size w (w2.drewN q) := ⟨hb.os, hb.tape, hb.output, hb.size, hb.block⟩
      exact hb'.trans (hb3.mono hb'.size)
end Go.Proofs.Ytgmdpmhoedjcoaa.batchEach
