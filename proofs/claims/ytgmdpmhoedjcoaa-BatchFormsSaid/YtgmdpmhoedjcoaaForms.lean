/-
  BatchForms: the walk.
-/
import Derived.Test.YtgmdpmhoedjcoaaF0
namespace Go.Proofs.Ytgmdpmhoedjcoaa.batchForms
open Go.RowKit

set_option maxHeartbeats 2000000 in
theorem walk (a0 : Option Addr) (len0 cap0 : Nat) (z0 : List Int) (a1 a2 a3 : Int) (w : World) (w0 : IsRow .i64 w a0 len0 cap0 z0) (_w1 : (Lit.int .i64 a1).wf = true) (_w2 : (Lit.int .i64 a2).wf = true) (_w3 : (Lit.int .i64 a3).wf = true) :
    Calls Try.prog 3 #[.slice a0 len0 cap0, .int .i64 a1, .int .i64 a2, .int .i64 a3] w fun e w' => e = .returned (.bool true) ∧ Below w.heap.size w w' := by
  obtain ⟨hx, hlen⟩ := w0.ints
  have hmax : (z0.take len0).length ≤ 9223372036854775807 := by
    rcases w0 with ⟨_, _, _, rfl⟩ | ⟨_, _, _, h1, h2, h3, _⟩
    · simp
    · unfold maxLen at h2; omega
  generalize z0.take len0 = xs at hx hlen hmax
  subst hlen
  clear w0
  have HX := Lib.hid hx
  clear hx
  go_enter Try.func3, Try.ntmps3
  go_wp2_with fail
  refine (times_any _ _ xs a1 _ HX.out hmax).mono ?_
  rintro e w1 ⟨v, rfl, hown, hbel⟩
  obtain ⟨At, ct, rfl, hI⟩ := own_ints hown
  clear hown
  have HI := Lib.hid hI
  clear hI HX
  have hn40 : (Pl.times xs a1).length ≤ 40 := by rw [Pl.times_length]; omega
  generalize Pl.times xs a1 = ts at HI hn40 ⊢
  go_wp2_with fail
  refine (pick_any a2 6 _ (by omega) (by omega)).mono ?_
  rintro e w' ⟨rfl, rfl⟩
  obtain ⟨M, hm⟩ := Int.eq_ofNat_of_zero_le (Int.emod_nonneg a2 (show (6 : Int) ≠ 0 by omega))
  have hm2 : M < 6 := by have := Int.emod_lt_of_pos a2 (show (0 : Int) < 6 by omega); omega
  rw [hm]
  clear hm
  go_wp2_with fail
  refine (pick_any a3 9 _ (by omega) (by omega)).mono ?_
  rintro e w' ⟨rfl, rfl⟩
  obtain ⟨wt, HW⟩ : ∃ wt, Hid (a3 % 9 = wt + 1) := ⟨a3 % 9 - 1, by show _ = _; omega⟩
  have hw2 : -1 ≤ wt ∧ wt < 8 := by
    have := Int.emod_lt_of_pos a3 (show (0 : Int) < 9 by omega)
    have := Int.emod_nonneg a3 (show (9 : Int) ≠ 0 by omega)
    have := HW.out; omega
  obtain ⟨hw1, hw2⟩ := hw2
  rw [HW.out]
  go_wp2_with fail
  refine (form_any _ _ ts (M : Int) wt _ ((Reads.alloc HI.out (Nat.le_refl _) _).more (by simp)) (by omega)).mono ?_
  intro e w2 h2
  have hbel2 : Below (w1.heap.size + 1) (w1.alloc (.cells #[.int .i64 (M : Int), .int .i64 wt] 26)) w2 := by
    rcases h2 with ⟨_, _, h⟩ | ⟨_, _, _, _, _, _, _, h⟩ <;> simpa using h
  have hR : Blk w2 w1.heap.size 26 #[.int .i64 (M : Int), .int .i64 wt] := (Blk.new w1 26 #[.int .i64 (M : Int), .int .i64 wt]).below hbel2 (by omega)
  have hT : IntsIn w2 w1.heap.size At ts := Reads.keep HI.out (fun p hp => (hbel2.cell (by omega)).trans (World.cell?_alloc_lt _ _ _ hp))
  have hb : Below w.heap.size w w2 := (hbel.alloc hbel.size _).trans (hbel2.mono (by have := hbel.size; omega))
  have hs1 := hbel.size
  have hs2 := hbel2.size
  simp at hs2
  have HR := Lib.hid hR
  have HT := Lib.hid hT
  have HFT := Lib.hid (fineTimes_any At ct w1.heap.size ts (M : Int) wt w2 hT (by omega))
  clear hbel hbel2 HI hR hT
  have hmost : w2.cell? ⟨w1.heap.size, 0, none⟩ = some (.int .i64 (M : Int)) := HR.out.cell 0
  have hwait : w2.cell? ⟨w1.heap.size, 1, none⟩ = some (.int .i64 wt) := HR.out.cell 1
  rcases h2 with ⟨h0, rfl, _⟩ | ⟨h0, v, ba, rfl, hown, _, hB, _⟩
  · obtain ⟨cd, HCD⟩ : ∃ cd, Hid (Pl.code ts (M : Int) wt = cd) := ⟨_, rfl⟩
    rw [HCD.out] at h0 HFT ⊢
    have d1 : (cd != 0) = true := by simpa using h0
    have d2 : (cd == cd) = true := by simp
    clear h0
    go_wp2_with (first
      | (go_at_call 10; refine HFT.out.mono ?_; rintro e w3 ⟨rfl, q, rfl⟩)
      | (go_at_call 11; refine (known_any _).mono ?_; rintro e w4 ⟨rfl, hb4⟩))
    go_ret
    refine ⟨rfl, ?_⟩
    have hb' := below_drewN hb q
    exact hb'.trans (hb4.mono hb'.size)
  · obtain ⟨g1, g2, g3, g4, g5, g6⟩ := code_zero h0
    have HOK := Lib.hid g5
    have HC0 := Lib.hid h0
    rw [h0] at HFT
    clear g5 h0
    obtain ⟨Ag, cg, rfl⟩ := own_shape hown
    rw [Int.toNat_natCast] at hown ⊢
    have hgl := Pl.form_length_le ts M wt _ 0 rfl
    have HFI := Lib.hid (form_fine ts M wt _ 0 rfl)
    have HG : ∀ (V : World), IntsIn V V.heap.size At ts → Calls Try.prog 13 #[.slice At ts.length ct, .int .i64 (M : Int), .int .i64 wt] V fun e w' => ∃ v, e = .returned v ∧ RefG V w' v (Pl.form ts M wt 0) := fun V hV => groups_any At ct ts M wt V hV HOK.out g6 (by omega) (by omega) g3 g4
    have HGG := Lib.hid HG
    have HOWN := Lib.hid hown
    have HB := Lib.hid hB
    clear hown hB HG
    generalize Pl.form ts M wt 0 = G at HOWN hgl HFI HGG ⊢
    go_wp2_with fail
    refine HFT.out.mono ?_
    rintro e w3 ⟨rfl, q, rfl⟩
    have hb3 := below_drewN hb q
    go_wp2_with fail
    refine (known_any _).mono ?_
    rintro e w4 ⟨rfl, hb4⟩
    have hs4 := hb4.size
    simp at hs4
    have hb4' := hb3.trans (hb4.mono hb3.size)
    have hmost4 : w4.cell? ⟨w1.heap.size, 0, none⟩ = some (.int .i64 (M : Int)) := (hb4.cell (by simp; omega)).trans hmost
    have hwait4 : w4.cell? ⟨w1.heap.size, 1, none⟩ = some (.int .i64 wt) := (hb4.cell (by simp; omega)).trans hwait
    have HO4 := Lib.hid (own_below (w := w2.drewN q) HOWN.out hb4)
    have HB4 := Lib.hid (Blk.below (w := w2.drewN q) HB.out hb4 HB.out.lt)
    have HT4 : Hid (IntsIn w4 w4.heap.size At ts) := Reads.more (Reads.below (Reads.drewN HT.out q) (hb4.mono (by simp; omega))) (by omega)
    clear hmost hwait HR hb4 hb3 hb
    go_wp2_with fail
    refine (HGG.out w4 HT4.out).mono ?_
    rintro e w5 ⟨v5, rfl, l5, hl5, hown5, hrows5, hb5⟩
    obtain ⟨A5, c5, rfl⟩ := own_shape hown5
    have HO5 := Lib.hid (own_below HO4.out hb5)
    have HB5 := Lib.hid (Blk.below HB4.out hb5 HB4.out.lt)
    go_wp2_with fail
    refine (same_any w5 _ _ _ ts.length ba _ _ _ _ G l5 hl5 HO5.out HB5.out HFI.out hown5 hrows5 (by omega) (by omega)).mono ?_
    rintro e w6 ⟨rfl, q6, rfl⟩
    clear hl5 hown5 hrows5
    go_wp2
    go_ret
    refine ⟨rfl, ?_⟩
    exact below_drewN (hb4'.trans (hb5.mono hb4'.size)) q6
end Go.Proofs.Ytgmdpmhoedjcoaa.batchForms
