/-
  CrossParts: the law, walked.
-/
import Derived.Test.YthallgbggkgboaaGreatDoorQkn
import Derived.Deep.DeepCutAuto
namespace Go.Proofs.YthallgbggkgboaaGreatDoor.Gp
open Go Go.RowKit Ut

theorem gN_of {rs : List (ByteArray × Nat)} {cs : List CI} (h : nOk rs) (hn : cs.map CI.nm = rs.map (·.1)) : gN cs := fun i hi => by
  have hl : cs.length = rs.length := by have := congrArg List.length hn; simpa using this
  have e : (cs.map CI.nm)[i]'(by simpa using hi) = (rs.map (·.1))[i]'(by simp; omega) := by simp only [hn]
  rw [List.getElem_map, List.getElem_map] at e
  rw [e]
  exact h i (by omega)
theorem sheet_ok {w : World} {cu ru : Value} {cs : List CI} {b : Nat} {gs : List (List PC × Value)} {rs : List (ByteArray × Nat)} (hC : ColsAt w cu cs) (hR : PRows w b ru gs) (hno : nOk rs) (hr1 : 1 ≤ rs.length) (hr6 : rs.length ≤ 6) (hkd : cs.map CI.kd = rs.map (·.2)) (hnm : cs.map CI.nm = rs.map (·.1)) (h12 : gs.length ≤ 12) (hfits : ∀ q ∈ gs, pFits (rs.map (·.2)) q.1) : SheetOk w cu ru cs b gs := by
  have hl : cs.length = rs.length := by have := congrArg List.length hnm; simpa using this
  exact ⟨hC, hR, gN_of hno hnm, by omega, by omega, h12, fun q hq => by rw [hkd]; exact hfits q hq⟩
def PSmall (R : List (List Nat)) : Prop := R.length ≤ 1000 ∧ ∀ ns ∈ R, ns.length ≤ 1000
theorem psmall_nil : PSmall [] := ⟨by decide, fun _ h => by cases h⟩
theorem dealt_small {k : Nat} {l : List Nat} (h2 : 2 ≤ k) (h6 : k ≤ 6) (hk : k ≤ l.length) (h12 : l.length ≤ 12) : PSmall (dealt k l) := by
  refine ⟨?_, fun ns hns => ?_⟩
  · unfold dealt
    rw [List.length_map, dealP_length, List.length_replicate]; omega
  · obtain ⟨ms, hms, rfl⟩ := List.mem_map.1 hns
    rw [ascP_length]
    have := deal_lens h2 h6 hk h12 ms hms
    omega
theorem partsP_small {F k s : Nat} {cs : List CI} {gs : List (List PC × Value)} {nm : ByteArray} (h6 : k ≤ 6) (h12 : gs.length ≤ 12) : PSmall (partsP F cs gs nm k s).1 := by
  unfold partsP partsD
  split
  · split
    · unfold evenP
      split
      · rename_i h
        refine dealt_small h.1 h6 ?_ ?_ <;> rw [srtP_length, ordL_length]
        · exact h.2.1
        · exact h12
      · exact psmall_nil
    · unfold foldsP
      split
      · rename_i h
        refine dealt_small h.1 h6 ?_ ?_ <;> rw [ordL_length]
        · exact h.2
        · exact h12
      · exact psmall_nil
  · exact psmall_nil
set_option maxHeartbeats 4000000 in
set_option maxRecDepth 100000 in
theorem law36_any (A1 A2 : Option Addr) (c1 c2 : Nat) (xs ys : List Int) (n goal kk : Int) (s : Nat) (w : World) (hx : IntsIn w w.heap.size A1 xs) (hy : IntsIn w w.heap.size A2 ys) (hlx : xs.length ≤ 9223372036854775807) (hly : ys.length ≤ 9223372036854775807) (hs : s < MM) :
    Calls Tryz.prog 3 #[.agg #[.slice A1 xs.length c1, .slice A2 ys.length c2, .int .i64 n], .int .i64 goal, .int .i64 kk, .int .u64 (s : Int)] w fun e w' => e = .returned (.bool true) ∧ Below w.heap.size w w' := by
  have HS : Hid (∀ o, Calls Tryz.prog _ _ (w.alloc o) _) := Lib.hid (fun o => msheet_any A1 A2 c1 c2 xs ys n (w.alloc o) ((hx.alloc (Nat.le_refl _) o).more (by simp)) ((hy.alloc (Nat.le_refl _) o).more (by simp)) hlx hly)
  have HP : Hid (∀ W, Calls Tryz.prog _ _ W _) := Lib.hid (fun W => pick_some goal 7 W (by omega) (by omega))
  have HP2 : Hid (∀ W, Calls Tryz.prog _ _ W _) := Lib.hid (fun W => pick_some kk 7 W (by omega) (by omega))
  clear hx hy
  go_enter Tryz.func3, Tryz.ntmps3
  go_upto_if 27 with (first
    | (go_at_call 5; refine (HS.out _).mono ?_; rintro e w1 ⟨cv, rv, b1, b2, g, rs, qs, rfl, hcols, hwds, hro, hno, hr1, hr6, hrows, hq12, hfit, hb1⟩; rw [World.size_alloc] at hb1; have HB1 : Below w.heap.size w w1 := ((Below.refl _ _).alloc (Nat.le_refl _) _).trans (hb1.mono (by omega)); have hs1 := HB1.size; clear hb1)
    | (go_at_call 4; refine (insheet_any cv rv b1 b2 g rs qs w1 hcols hwds hro hr1 hr6 hrows hq12 hfit).mono ?_; rintro e w2 ⟨cu, ru, cs, b, gs, rfl, hC, hkd, hnm, hR, hgl, hfits, hb2⟩; obtain ⟨C1, C2, rfl⟩ := hC.len; obtain ⟨R1, R2, hru, _⟩ := own_slice hR.1; subst hru; have HSO := Lib.hid (sheet_ok hC hR hno hr1 hr6 hkd hnm (hgl ▸ hq12) hfits); have h12 : gs.length ≤ 12 := hgl ▸ hq12; have hs2 := hb2.size; have HB2 : Below w.heap.size w w2 := HB1.trans (hb2.mono hs1); clear hC hR hno hkd hnm hfits hb2 hcols hwds hro hrows hfit hgl hq12 hr1 hr6)
    | (go_at_call 6; refine (HP.out _).mono ?_; rintro e wz ⟨r, hr, rfl, rfl⟩))
  go_cut [10] (fun s10 wx => ∃ nm, s10 = .string nm ∧ wx = w2.alloc (.cells #[.slice C1 cs.length C2, .slice R1 gs.length R2] 29))
  case first =>
    by_cases hrc : r < cs.length
    · obtain ⟨g', rfl, hg', q0, _, _⟩ := HSO.out.cols.at_ hrc
      have q0' := (World.cell?_alloc_lt w2 (.cells #[.slice (some ⟨g', 0, none⟩) cs.length C2, .slice R1 gs.length R2] 29) ⟨g', r * 3, none⟩ hg').trans q0
      have e1 : (r : Int) < (cs.length : Int) := by omega
      generalize cs[r].nm = nm at *
      go_wp2_with fail
      go_meet
      case rel => exact ⟨nm, rfl, rfl⟩
    · have e1 : ¬ (r : Int) < (cs.length : Int) := by omega
      go_wp2_with fail
      go_meet
      case rel => exact ⟨_, rfl, rfl⟩
  case rest =>
    obtain ⟨nm, rfl, rfl⟩ := hcut
    have HBX : Hid (∀ W, Below (w2.alloc (.cells #[.slice C1 cs.length C2, .slice R1 gs.length R2] 29)).heap.size (w2.alloc (.cells #[.slice C1 cs.length C2, .slice R1 gs.length R2] 29)) W → (W.cell? ⟨w2.heap.size, 0, none⟩ = some (.slice C1 cs.length C2) ∧ W.cell? ⟨w2.heap.size, 1, none⟩ = some (.slice R1 gs.length R2))) := fun W h => by
      have hk := (h.block w2.heap.size (by simp)).trans (Blk.new w2 _ _)
      exact ⟨Blk.cell hk 0, Blk.cell hk 1⟩
    have HB3 : Hid (Below w.heap.size w (w2.alloc (.cells #[.slice C1 cs.length C2, .slice R1 gs.length R2] 29))) := HB2.alloc (by omega) _
    have HSO3 : SheetOk (w2.alloc (.cells #[.slice C1 cs.length C2, .slice R1 gs.length R2] 29)) (.slice C1 cs.length C2) (.slice R1 gs.length R2) cs b gs := HSO.out.below ((Below.refl _ _).alloc (Nat.le_refl _) _)
    generalize w2.alloc (.cells #[.slice C1 cs.length C2, .slice R1 gs.length R2] 29) = w3 at *
    have HPA : Hid (∀ (q : Nat), q ≤ 6 → ∀ W, Below w3.heap.size w3 W → Calls Tryz.prog 7 #[.agg #[.slice C1 cs.length C2, .slice R1 gs.length R2], .string nm, .int .i64 (q : Int), .int .u64 (s : Int)] W fun e w' => PartsB (partsP 12 cs gs nm q s) W e w') := Lib.hid fun q hq W hW => parts_any rfl _ _ cs b gs nm q s W (HSO3.below hW) hq hs
    have HPB : Hid (∀ (q : Nat), q ≤ 6 → ∀ W, Below w3.heap.size w3 W → Calls Tryz.prog 8 #[.agg #[.slice C1 cs.length C2, .slice R1 gs.length R2], .string nm, .int .i64 (q : Int), .int .u64 (s : Int)] W fun e w' => PartsB (partsP 12 cs gs nm q s) W e w') := Lib.hid fun q hq W hW => parts36_any rfl _ _ cs b gs nm q s W (HSO3.below hW) hq hs
    have HPS : Hid (∀ q, q ≤ 6 → PSmall (partsP 12 cs gs nm q s).1) := fun q hq => partsP_small hq h12
    obtain ⟨r0, r1⟩ := HBX.out w3 (Below.refl _ _)
    clear HSO HSO3 HS HP
    go_wp2_with (first
      | (go_at_call 6; refine (HP2.out _).mono ?_; rintro e wz ⟨q, hq, rfl, rfl⟩; have hPA := HPA.out q (by omega); have hPB := HPB.out q (by omega); have hPS := HPS.out q (by omega); generalize partsP 12 cs gs nm q s = R at hPA hPB hPS; obtain ⟨R1', E⟩ := R; have HA := Lib.hid hPA; have HB := Lib.hid hPB; have HSM : Hid (PSmall R1') := hPS; clear hPA hPB hPS HPA HPB HPS)
      | (go_at_call 7; refine (HA.out _ HB5.out).mono ?_; rintro e w6 ⟨v3, rfl, hv3, hb6⟩; obtain ⟨z0, z1⟩ := HBX.out _ (HB5.out.trans (hb6.mono HB5.out.size)); have HB6 := Lib.hid (HB5.out.trans (hb6.mono HB5.out.size)); have HV1c := Lib.hid (HV1b.out.below hb6); have HV2c := Lib.hid (HV2.out.below hb6); have HV3 := Lib.hid hv3; clear hv3 hb6)
      | (go_at_call 8; refine (HB.out _ HB4.out).mono ?_; rintro e w5 ⟨v2, rfl, hv2, hb5⟩; obtain ⟨y0, y1⟩ := HBX.out _ (HB4.out.trans (hb5.mono HB4.out.size)); have HB5 := Lib.hid (HB4.out.trans (hb5.mono HB4.out.size)); have HV1b := Lib.hid (HV1.out.below hb5); have HV2 := Lib.hid hv2; clear hv2 hb5)
      | (go_at_call 7; refine (HA.out _ (Below.refl _ _)).mono ?_; rintro e w4 ⟨v1, rfl, hv1, hb4⟩; obtain ⟨x0, x1⟩ := HBX.out _ hb4; have HB4 := Lib.hid hb4; have HV1 := Lib.hid hv1; clear hv1 hb4)
      | (go_at_call 9; refine (known36_any _).mono ?_; rintro e w7 ⟨rfl, hb7⟩; have HB7 := Lib.hid (HB6.out.trans (hb7.mono HB6.out.size)); have HV1d := Lib.hid (HV1c.out.below hb7); have HV2d := Lib.hid (HV2c.out.below hb7); have HV3d := Lib.hid (HV3.out.below hb7); clear hb7)
      | (go_at_call 10; refine (sameparts_any _ _ R1' _ (HV1d.out.below HB78.out) (HV3d.out.below HB78.out) HSM.out.1 HSM.out.2).mono ?_; rintro e w9 ⟨rfl, hb9⟩; have HB9 := Lib.hid (HB8.out.trans (hb9.mono HB8.out.size)); clear hb9)
      | (go_at_call 10; refine (sameparts_any _ _ R1' _ HV1d.out HV2d.out HSM.out.1 HSM.out.2).mono ?_; rintro e w8 ⟨rfl, hb8⟩; have HB78 := Lib.hid hb8; have HB8 := Lib.hid (HB7.out.trans (hb8.mono HB7.out.size)); clear hb8))
    go_ret
    exact ⟨rfl, HB3.out.trans (HB9.out.mono HB3.out.size)⟩
end Go.Proofs.YthallgbggkgboaaGreatDoor.Gp
