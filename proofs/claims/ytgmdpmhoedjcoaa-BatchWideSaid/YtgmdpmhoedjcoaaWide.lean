/-
  BatchWide: the walk.
-/
import Derived.Test.YtgmdpmhoedjcoaaF0
namespace Go.Proofs.Ytgmdpmhoedjcoaa.batchWide
open Go.RowKit

theorem take_ints {w : World} {B : Nat} {A : Option Addr} {xs : List Int} (h : IntsIn w B A xs) (n : Nat) (hn : n ≤ xs.length) : IntsIn w B A (xs.take n) := by
  have hl : (xs.take n).length = n := by simp; omega
  refine ⟨by simp, fun h0 => ?_⟩
  obtain ⟨ad, e, hb, hc⟩ := h.2 (by omega)
  refine ⟨ad, e, hb, fun j u hu => hc j u ?_⟩
  rw [List.getElem?_map] at hu ⊢
  by_cases hj : j < n
  · rwa [List.getElem?_take_of_lt hj] at hu
  · rw [List.getElem?_eq_none (by omega)] at hu
    simp at hu

theorem form_n (A : Option Addr) (c n : Nat) (xs : List Int) (hn : xs.length = n) (most wait : Int) (w : World) (hx : IntsIn w w.heap.size A xs) (hl : n ≤ 9223372036854775806) :
    Calls Try.prog 9 #[.slice A n c, .agg #[.int .i64 most, .int .i64 wait]] w (FormPost w xs most wait) := by
  subst hn; exact form_any A c xs most wait w hx hl
theorem fineTimes_n (A : Option Addr) (c B1 n : Nat) (xs : List Int) (hn : xs.length = n) (most wait : Int) (w : World) (hx : IntsIn w B1 A xs) (hl : n ≤ 9223372036854775806) :
    Calls Try.prog 10 #[.slice A n c, .int .i64 most, .int .i64 wait] w fun e w' => e = .returned (.int .i64 (Pl.code xs most wait)) ∧ ∃ q, w' = w.drewN q := by
  subst hn; exact fineTimes_any A c B1 xs most wait w hx hl
theorem groups_n (A : Option Addr) (c n : Nat) (ts : List Int) (hn : ts.length = n) (M : Nat) (wait : Int) (w : World) (hx : IntsIn w w.heap.size A ts) (hok : Pl.okUpto ts ts.length = true) (hl : ts.length ≤ 65536) (hM1 : 1 ≤ M) (hM2 : M ≤ 300) (hw1 : 0 ≤ wait) (hw2 : wait ≤ 1073741824) :
    Calls Try.prog 13 #[.slice A n c, .int .i64 (M : Int), .int .i64 wait] w fun e w' => ∃ v, e = .returned v ∧ RefG w w' v (Pl.form ts M wait 0) := by
  subst hn; exact groups_any A c ts M wait w hx hok hl hM1 hM2 hw1 hw2

set_option maxHeartbeats 4000000 in
theorem walk (a0 : Option Addr) (len0 cap0 : Nat) (z0 : List Int) (a1 a2 : Int) (w : World) (w0 : IsRow .i64 w a0 len0 cap0 z0) (_w1 : (Lit.int .i64 a1).wf = true) (_w2 : (Lit.int .i64 a2).wf = true) :
    Calls Try.prog 4 #[.slice a0 len0 cap0, .int .i64 a1, .int .i64 a2] w fun e w' => e = .returned (.bool true) ∧ Below w.heap.size w w' := by
  obtain ⟨hx, hlen⟩ := w0.ints
  have hmax : (z0.take len0).length ≤ 9223372036854775807 ∧ len0 ≤ cap0 := by
    rcases w0 with ⟨_, rfl, rfl, rfl⟩ | ⟨_, _, _, h1, h2, h3, _⟩
    · simp
    · unfold maxLen at h2; omega
  obtain ⟨hmax, hcap⟩ := hmax
  generalize z0.take len0 = xs at hx hlen hmax
  subst hlen
  clear w0
  have HX := Lib.hid hx
  clear hx
  by_cases hlong : 300 < xs.length
  · have HT := Lib.hid (take_ints HX.out 300 (by omega))
    have HN : Hid ((xs.take 300).length = 300) := by show _ = _; simp; omega
    have hn300 : (xs.take 300).length ≤ 300 := by simp; omega
    generalize xs.take 300 = ts at HT HN hn300
    by_cases hr : 1 ≤ a1 ∧ a1 ≤ 300 ∧ 0 ≤ a2 ∧ a2 ≤ 1073741824
    · have HR : Hid (Pl.okRules a1 a2 = true) := by simp [Pl.okRules, Hid, hr]
      obtain ⟨r1, r2, r3, r4⟩ := hr
      go_enter Try.func4, Try.ntmps4
      go_wp2_with fail
      refine (form_n _ _ 300 ts HN.out a1 a2 _ ((Reads.alloc HT.out (Nat.le_refl _) _).more (by simp)) (by omega)).mono ?_
      intro e w2 h2
      have hbel2 : Below (w.heap.size + 1) (w.alloc (.cells #[.int .i64 a1, .int .i64 a2] 26)) w2 := by
        rcases h2 with ⟨_, _, h⟩ | ⟨_, _, _, _, _, _, _, h⟩ <;> simpa using h
      have hR : Blk w2 w.heap.size 26 #[.int .i64 a1, .int .i64 a2] := (Blk.new w 26 #[.int .i64 a1, .int .i64 a2]).below hbel2 (by omega)
      have hT2 : IntsIn w2 w.heap.size a0 ts := Reads.keep HT.out (fun p hp => (hbel2.cell (by omega)).trans (World.cell?_alloc_lt _ _ _ hp))
      have hb : Below w.heap.size w w2 := ((Below.refl _ _).alloc (Nat.le_refl _) _).trans (hbel2.mono (by omega))
      have hs2 := hbel2.size
      simp at hs2
      have HT2 := Lib.hid hT2
      have HFT := Lib.hid (fineTimes_n a0 cap0 w.heap.size 300 ts HN.out a1 a2 w2 hT2 (by omega))
      have hmost : w2.cell? ⟨w.heap.size, 0, none⟩ = some (.int .i64 a1) := hR.cell 0
      have hwait : w2.cell? ⟨w.heap.size, 1, none⟩ = some (.int .i64 a2) := hR.cell 1
      clear hbel2 hR hT2
      rcases h2 with ⟨h0, rfl, _⟩ | ⟨h0, v, ba, rfl, hown, _, hB, _⟩
      · obtain ⟨cd, HCD⟩ : ∃ cd, Hid (Pl.code ts a1 a2 = cd) := ⟨_, rfl⟩
        rw [HCD.out] at h0 HFT ⊢
        have d1 : (cd != 0) = true := by simpa using h0
        have d2 : (cd == cd) = true := by simp
        clear h0
        go_wp2_with (first | (go_at_call 10; refine HFT.out.mono ?_; rintro e w3 ⟨rfl, q, rfl⟩) | (go_at_call 14; refine (fine_any _ _ _).mono ?_; rintro e w4 ⟨rfl, rfl⟩; rw [HR.out]) | (go_at_call 11; refine (known_any _).mono ?_; rintro e w5 ⟨rfl, hb5⟩))
        go_ret
        refine ⟨rfl, ?_⟩
        have hb' := (below_drewN hb q).alloc (by simp; omega) (.cells #[.int .i64 a1, .int .i64 a2] 26)
        exact hb'.trans (hb5.mono hb'.size)
      · obtain ⟨g1, g2, g3, g4, g5, g6⟩ := code_zero h0
        obtain ⟨M, rfl⟩ := Int.eq_ofNat_of_zero_le (show 0 ≤ a1 by omega)
        have HOK := Lib.hid g5
        rw [h0] at HFT
        clear g5 h0
        obtain ⟨Ag, cg, rfl⟩ := own_shape hown
        rw [Int.toNat_natCast] at hown ⊢
        have hgl := Pl.form_length_le ts M a2 _ 0 rfl
        have HFI := Lib.hid (form_fine ts M a2 _ 0 rfl)
        have HG : ∀ (V : World), IntsIn V V.heap.size a0 ts → Calls Try.prog 13 #[.slice a0 (300) cap0, .int .i64 (M : Int), .int .i64 a2] V fun e w' => ∃ v, e = .returned v ∧ RefG V w' v (Pl.form ts M a2 0) := fun V hV => groups_n a0 cap0 (300) ts HN.out M a2 V hV HOK.out g6 (by omega) (by omega) g3 g4
        have HGG := Lib.hid HG
        have HOWN := Lib.hid hown
        have HB := Lib.hid hB
        clear hown hB HG
        generalize Pl.form ts M a2 0 = G at HOWN hgl HFI HGG ⊢
        go_wp2_with fail
        refine HFT.out.mono ?_
        rintro e w3 ⟨rfl, q, rfl⟩
        have hb3 := below_drewN hb q
        go_wp2_with fail
        refine (fine_any _ _ _).mono ?_
        rintro e w4 ⟨rfl, rfl⟩
        rw [HR.out]
        have hb3' := hb3.alloc (by simp; omega) (.cells #[.int .i64 (M : Int), .int .i64 a2] 26)
        have HO3 : Hid (((w2.drewN q).alloc (.cells #[.int .i64 (M : Int), .int .i64 a2] 26)).ownsRow _ 40 2 (.slice Ag G.length cg) G.length (flat ba G)) := World.ownsRow.alloc (w := w2.drewN q) HOWN.out _
        have HB3 : Hid (Blk ((w2.drewN q).alloc (.cells #[.int .i64 (M : Int), .int .i64 a2] 26)) ba 3 (fillA ts.length ts.length)) := Blk.alloc (Blk.drewN HB.out q) _
        have HT3 : Hid (IntsIn ((w2.drewN q).alloc (.cells #[.int .i64 (M : Int), .int .i64 a2] 26)) w.heap.size a0 ts) := Reads.alloc (Reads.drewN HT2.out q) (by simp; omega) _
        have hz3 : w.heap.size + 1 ≤ ((w2.drewN q).alloc (.cells #[.int .i64 (M : Int), .int .i64 a2] 26)).heap.size := by simp; omega
        clear hmost hwait hb3 hb HB HOWN HT2
        generalize (w2.drewN q).alloc (.cells #[.int .i64 (M : Int), .int .i64 a2] 26) = wv at hb3' HO3 HB3 HT3 hz3 ⊢
        go_wp2_with fail
        refine (known_any _).mono ?_
        rintro e w4 ⟨rfl, hb4⟩
        have hs4 := hb4.size
        have hb4' := hb3'.trans (hb4.mono hb3'.size)
        have HO4 := Lib.hid (own_below HO3.out hb4)
        have HB4 := Lib.hid (Blk.below HB3.out hb4 HB3.out.lt)
        have HT4 : Hid (IntsIn w4 w4.heap.size a0 ts) := Reads.more (Reads.below HT3.out (hb4.mono (by omega))) (by omega)
        clear hb4 hb3'
        go_wp2_with fail
        refine (HGG.out w4 HT4.out).mono ?_
        rintro e w5 ⟨v5, rfl, l5, hl5, hown5, hrows5, hb5⟩
        obtain ⟨A5, c5, rfl⟩ := own_shape hown5
        have HO5 := Lib.hid (own_below HO4.out hb5)
        have HB5 := Lib.hid (Blk.below HB4.out hb5 HB4.out.lt)
        go_wp2_with fail
        refine (same_any w5 _ _ _ ts.length ba _ _ _ _ G l5 hl5 HO5.out HB5.out HFI.out hown5 hrows5 (by omega) (by omega)).mono ?_
        rintro e w6 ⟨rfl, q6, rfl⟩
        clear hl5 hown5 hrows5
        go_wp2
        go_ret
        refine ⟨rfl, ?_⟩
        exact below_drewN (hb4'.trans (hb5.mono hb4'.size)) q6
    · have HR : Hid (Pl.okRules a1 a2 = false) := by simp [Pl.okRules, Hid]; omega
      have hr4 : a1 < 1 ∨ (1 ≤ a1 ∧ 300 < a1) ∨ (1 ≤ a1 ∧ a1 ≤ 300 ∧ a2 < 0) ∨ (1 ≤ a1 ∧ a1 ≤ 300 ∧ 0 ≤ a2 ∧ 1073741824 < a2) := by omega
      clear hr
      rcases hr4 with hr | ⟨hr1, hr⟩ | ⟨hr1, hr2, hr⟩ | ⟨hr1, hr2, hr3, hr⟩
      rotate_left 3
      have d9 : decide (a2 ≤ 1073741824) = false := decide_eq_false (by omega)
      all_goals
        go_enter Try.func4, Try.ntmps4
        go_wp2_with fail
        refine (form_n _ _ 300 ts HN.out a1 a2 _ ((Reads.alloc HT.out (Nat.le_refl _) _).more (by simp)) (by omega)).mono ?_
        intro e w2 h2
        have hbel2 : Below (w.heap.size + 1) (w.alloc (.cells #[.int .i64 a1, .int .i64 a2] 26)) w2 := by
          rcases h2 with ⟨_, _, h⟩ | ⟨_, _, _, _, _, _, _, h⟩ <;> simpa using h
        have hR : Blk w2 w.heap.size 26 #[.int .i64 a1, .int .i64 a2] := (Blk.new w 26 #[.int .i64 a1, .int .i64 a2]).below hbel2 (by omega)
        have hT2 : IntsIn w2 w.heap.size a0 ts := Reads.keep HT.out (fun p hp => (hbel2.cell (by omega)).trans (World.cell?_alloc_lt _ _ _ hp))
        have hb : Below w.heap.size w w2 := ((Below.refl _ _).alloc (Nat.le_refl _) _).trans (hbel2.mono (by omega))
        have hs2 := hbel2.size
        simp at hs2
        have HT2 := Lib.hid hT2
        have HFT := Lib.hid (fineTimes_n a0 cap0 w.heap.size 300 ts HN.out a1 a2 w2 hT2 (by omega))
        have hmost : w2.cell? ⟨w.heap.size, 0, none⟩ = some (.int .i64 a1) := hR.cell 0
        have hwait : w2.cell? ⟨w.heap.size, 1, none⟩ = some (.int .i64 a2) := hR.cell 1
        clear hbel2 hR hT2
        rcases h2 with ⟨h0, rfl, _⟩ | ⟨h0, _⟩
        · obtain ⟨cd, HCD⟩ : ∃ cd, Hid (Pl.code ts a1 a2 = cd) := ⟨_, rfl⟩
          rw [HCD.out] at h0 HFT ⊢
          have d1 : (cd != 0) = true := by simpa using h0
          have d2 : (cd == cd) = true := by simp
          clear h0
          go_wp2_with (first | (go_at_call 10; refine HFT.out.mono ?_; rintro e w3 ⟨rfl, q, rfl⟩) | (go_at_call 14; refine (fine_any _ _ _).mono ?_; rintro e w4 ⟨rfl, rfl⟩; rw [HR.out]) | (go_at_call 11; refine (known_any _).mono ?_; rintro e w5 ⟨rfl, hb5⟩))
          go_ret
          refine ⟨rfl, ?_⟩
          have hb' := (below_drewN hb q).alloc (by simp; omega) (.cells #[.int .i64 a1, .int .i64 a2] 26)
          exact hb'.trans (hb5.mono hb'.size)
        · exact absurd (code_zero h0) (by omega)
  · have HT := HX
    have hn300 : xs.length ≤ 300 := by omega
    obtain ⟨ts, hts⟩ : ∃ ts, ts = xs := ⟨_, rfl⟩
    rw [← hts] at HT hn300 hlong ⊢
    clear hts HX
    by_cases hr : 1 ≤ a1 ∧ a1 ≤ 300 ∧ 0 ≤ a2 ∧ a2 ≤ 1073741824
    · have HR : Hid (Pl.okRules a1 a2 = true) := by simp [Pl.okRules, Hid, hr]
      obtain ⟨r1, r2, r3, r4⟩ := hr
      go_enter Try.func4, Try.ntmps4
      go_wp2_with fail
      refine (form_n _ _ ts.length ts rfl a1 a2 _ ((Reads.alloc HT.out (Nat.le_refl _) _).more (by simp)) (by omega)).mono ?_
      intro e w2 h2
      have hbel2 : Below (w.heap.size + 1) (w.alloc (.cells #[.int .i64 a1, .int .i64 a2] 26)) w2 := by
        rcases h2 with ⟨_, _, h⟩ | ⟨_, _, _, _, _, _, _, h⟩ <;> simpa using h
      have hR : Blk w2 w.heap.size 26 #[.int .i64 a1, .int .i64 a2] := (Blk.new w 26 #[.int .i64 a1, .int .i64 a2]).below hbel2 (by omega)
      have hT2 : IntsIn w2 w.heap.size a0 ts := Reads.keep HT.out (fun p hp => (hbel2.cell (by omega)).trans (World.cell?_alloc_lt _ _ _ hp))
      have hb : Below w.heap.size w w2 := ((Below.refl _ _).alloc (Nat.le_refl _) _).trans (hbel2.mono (by omega))
      have hs2 := hbel2.size
      simp at hs2
      have HT2 := Lib.hid hT2
      have HFT := Lib.hid (fineTimes_n a0 cap0 w.heap.size ts.length ts rfl a1 a2 w2 hT2 (by omega))
      have hmost : w2.cell? ⟨w.heap.size, 0, none⟩ = some (.int .i64 a1) := hR.cell 0
      have hwait : w2.cell? ⟨w.heap.size, 1, none⟩ = some (.int .i64 a2) := hR.cell 1
      clear hbel2 hR hT2
      rcases h2 with ⟨h0, rfl, _⟩ | ⟨h0, v, ba, rfl, hown, _, hB, _⟩
      · obtain ⟨cd, HCD⟩ : ∃ cd, Hid (Pl.code ts a1 a2 = cd) := ⟨_, rfl⟩
        rw [HCD.out] at h0 HFT ⊢
        have d1 : (cd != 0) = true := by simpa using h0
        have d2 : (cd == cd) = true := by simp
        clear h0
        go_wp2_with (first | (go_at_call 10; refine HFT.out.mono ?_; rintro e w3 ⟨rfl, q, rfl⟩) | (go_at_call 14; refine (fine_any _ _ _).mono ?_; rintro e w4 ⟨rfl, rfl⟩; rw [HR.out]) | (go_at_call 11; refine (known_any _).mono ?_; rintro e w5 ⟨rfl, hb5⟩))
        go_ret
        refine ⟨rfl, ?_⟩
        have hb' := (below_drewN hb q).alloc (by simp; omega) (.cells #[.int .i64 a1, .int .i64 a2] 26)
        exact hb'.trans (hb5.mono hb'.size)
      · obtain ⟨g1, g2, g3, g4, g5, g6⟩ := code_zero h0
        obtain ⟨M, rfl⟩ := Int.eq_ofNat_of_zero_le (show 0 ≤ a1 by omega)
        have HOK := Lib.hid g5
        rw [h0] at HFT
        clear g5 h0
        obtain ⟨Ag, cg, rfl⟩ := own_shape hown
        rw [Int.toNat_natCast] at hown ⊢
        have hgl := Pl.form_length_le ts M a2 _ 0 rfl
        have HFI := Lib.hid (form_fine ts M a2 _ 0 rfl)
        have HG : ∀ (V : World), IntsIn V V.heap.size a0 ts → Calls Try.prog 13 #[.slice a0 (ts.length) cap0, .int .i64 (M : Int), .int .i64 a2] V fun e w' => ∃ v, e = .returned v ∧ RefG V w' v (Pl.form ts M a2 0) := fun V hV => groups_n a0 cap0 (ts.length) ts rfl M a2 V hV HOK.out g6 (by omega) (by omega) g3 g4
        have HGG := Lib.hid HG
        have HOWN := Lib.hid hown
        have HB := Lib.hid hB
        clear hown hB HG
        generalize Pl.form ts M a2 0 = G at HOWN hgl HFI HGG ⊢
        go_wp2_with fail
        refine HFT.out.mono ?_
        rintro e w3 ⟨rfl, q, rfl⟩
        have hb3 := below_drewN hb q
        go_wp2_with fail
        refine (fine_any _ _ _).mono ?_
        rintro e w4 ⟨rfl, rfl⟩
        rw [HR.out]
        have hb3' := hb3.alloc (by simp; omega) (.cells #[.int .i64 (M : Int), .int .i64 a2] 26)
        have HO3 : Hid (((w2.drewN q).alloc (.cells #[.int .i64 (M : Int), .int .i64 a2] 26)).ownsRow _ 40 2 (.slice Ag G.length cg) G.length (flat ba G)) := World.ownsRow.alloc (w := w2.drewN q) HOWN.out _
        have HB3 : Hid (Blk ((w2.drewN q).alloc (.cells #[.int .i64 (M : Int), .int .i64 a2] 26)) ba 3 (fillA ts.length ts.length)) := Blk.alloc (Blk.drewN HB.out q) _
        have HT3 : Hid (IntsIn ((w2.drewN q).alloc (.cells #[.int .i64 (M : Int), .int .i64 a2] 26)) w.heap.size a0 ts) := Reads.alloc (Reads.drewN HT2.out q) (by simp; omega) _
        have hz3 : w.heap.size + 1 ≤ ((w2.drewN q).alloc (.cells #[.int .i64 (M : Int), .int .i64 a2] 26)).heap.size := by simp; omega
        clear hmost hwait hb3 hb HB HOWN HT2
        generalize (w2.drewN q).alloc (.cells #[.int .i64 (M : Int), .int .i64 a2] 26) = wv at hb3' HO3 HB3 HT3 hz3 ⊢
        go_wp2_with fail
        refine (known_any _).mono ?_
        rintro e w4 ⟨rfl, hb4⟩
        have hs4 := hb4.size
        have hb4' := hb3'.trans (hb4.mono hb3'.size)
        have HO4 := Lib.hid (own_below HO3.out hb4)
        have HB4 := Lib.hid (Blk.below HB3.out hb4 HB3.out.lt)
        have HT4 : Hid (IntsIn w4 w4.heap.size a0 ts) := Reads.more (Reads.below HT3.out (hb4.mono (by omega))) (by omega)
        clear hb4 hb3'
        go_wp2_with fail
        refine (HGG.out w4 HT4.out).mono ?_
        rintro e w5 ⟨v5, rfl, l5, hl5, hown5, hrows5, hb5⟩
        obtain ⟨A5, c5, rfl⟩ := own_shape hown5
        have HO5 := Lib.hid (own_below HO4.out hb5)
        have HB5 := Lib.hid (Blk.below HB4.out hb5 HB4.out.lt)
        go_wp2_with fail
        refine (same_any w5 _ _ _ ts.length ba _ _ _ _ G l5 hl5 HO5.out HB5.out HFI.out hown5 hrows5 (by omega) (by omega)).mono ?_
        rintro e w6 ⟨rfl, q6, rfl⟩
        clear hl5 hown5 hrows5
        go_wp2
        go_ret
        refine ⟨rfl, ?_⟩
        exact below_drewN (hb4'.trans (hb5.mono hb4'.size)) q6
    · have HR : Hid (Pl.okRules a1 a2 = false) := by simp [Pl.okRules, Hid]; omega
      have hr4 : a1 < 1 ∨ (1 ≤ a1 ∧ 300 < a1) ∨ (1 ≤ a1 ∧ a1 ≤ 300 ∧ a2 < 0) ∨ (1 ≤ a1 ∧ a1 ≤ 300 ∧ 0 ≤ a2 ∧ 1073741824 < a2) := by omega
      clear hr
      rcases hr4 with hr | ⟨hr1, hr⟩ | ⟨hr1, hr2, hr⟩ | ⟨hr1, hr2, hr3, hr⟩
      rotate_left 3
      have d9 : decide (a2 ≤ 1073741824) = false := decide_eq_false (by omega)
      all_goals
        go_enter Try.func4, Try.ntmps4
        go_wp2_with fail
        refine (form_n _ _ ts.length ts rfl a1 a2 _ ((Reads.alloc HT.out (Nat.le_refl _) _).more (by simp)) (by omega)).mono ?_
        intro e w2 h2
        have hbel2 : Below (w.heap.size + 1) (w.alloc (.cells #[.int .i64 a1, .int .i64 a2] 26)) w2 := by
          rcases h2 with ⟨_, _, h⟩ | ⟨_, _, _, _, _, _, _, h⟩ <;> simpa using h
        have hR : Blk w2 w.heap.size 26 #[.int .i64 a1, .int .i64 a2] := (Blk.new w 26 #[.int .i64 a1, .int .i64 a2]).below hbel2 (by omega)
        have hT2 : IntsIn w2 w.heap.size a0 ts := Reads.keep HT.out (fun p hp => (hbel2.cell (by omega)).trans (World.cell?_alloc_lt _ _ _ hp))
        have hb : Below w.heap.size w w2 := ((Below.refl _ _).alloc (Nat.le_refl _) _).trans (hbel2.mono (by omega))
        have hs2 := hbel2.size
        simp at hs2
        have HT2 := Lib.hid hT2
        have HFT := Lib.hid (fineTimes_n a0 cap0 w.heap.size ts.length ts rfl a1 a2 w2 hT2 (by omega))
        have hmost : w2.cell? ⟨w.heap.size, 0, none⟩ = some (.int .i64 a1) := hR.cell 0
        have hwait : w2.cell? ⟨w.heap.size, 1, none⟩ = some (.int .i64 a2) := hR.cell 1
        clear hbel2 hR hT2
        rcases h2 with ⟨h0, rfl, _⟩ | ⟨h0, _⟩
        · obtain ⟨cd, HCD⟩ : ∃ cd, Hid (Pl.code ts a1 a2 = cd) := ⟨_, rfl⟩
          rw [HCD.out] at h0 HFT ⊢
          have d1 : (cd != 0) = true := by simpa using h0
          have d2 : (cd == cd) = true := by simp
          clear h0
          go_wp2_with (first | (go_at_call 10; refine HFT.out.mono ?_; rintro e w3 ⟨rfl, q, rfl⟩) | (go_at_call 14; refine (fine_any _ _ _).mono ?_; rintro e w4 ⟨rfl, rfl⟩; rw [HR.out]) | (go_at_call 11; refine (known_any _).mono ?_; rintro e w5 ⟨rfl, hb5⟩))
          go_ret
          refine ⟨rfl, ?_⟩
          have hb' := (below_drewN hb q).alloc (by simp; omega) (.cells #[.int .i64 a1, .int .i64 a2] 26)
          exact hb'.trans (hb5.mono hb'.size)
        · exact absurd (code_zero h0) (by omega)
end Go.Proofs.Ytgmdpmhoedjcoaa.batchWide
