/-
  BatchKnown: the walk.
-/
import Derived.Test.YtphllokpeamcoabGreatDoorKm
namespace Go.Proofs.YtphllokpeamcoabGreatDoor.batchKnown
open Go.RowKit

theorem cells_one {w w' : World} {e : Ending} (h : FormPost w [4, 7, 8, 8] 3 3 e w') :
    ∃ g cap ba, e = .returned (.tuple #[.slice (some ⟨g, 0, none⟩) 2 cap, .int .i64 0]) ∧ 2 ≤ cap ∧ g < w'.heap.size ∧
      w'.cell? ⟨g, 0, none⟩ = some (.slice (some ⟨ba, 0, none⟩) 2 2) ∧ w'.cell? ⟨g, 1, none⟩ = some (.int .i64 7) ∧
      w'.cell? ⟨g, 3, none⟩ = some (.int .i64 11) ∧
      IntsIn w' w'.heap.size (some ⟨ba, 0, none⟩) [0, 1] ∧ Below w.heap.size w w' := by
  rcases h with ⟨h, _⟩ | ⟨_, v, ba, rfl, hown, hba, hB, hbel⟩
  · exact absurd (by decide) h
  · have hf : Pl.form [4, 7, 8, 8] (3 : Int).toNat 3 0 = [⟨0, 2, 7⟩, ⟨2, 4, 11⟩] := rfl
    rw [hf] at hown
    obtain ⟨g, cap, rfl, _, hlt⟩ := hown.form (by decide)
    have hcap : 2 ≤ cap := by
      rcases hown.2 with ⟨h, _⟩ | ⟨g', cap', cur, h, _, _, hc, _⟩
      · cases h
      · injection h with _ _ h; subst h; exact hc
    have p1 := part_ints (fr := 0) (to := 2) hB (by decide) (by decide)
    refine ⟨g, cap, ba, rfl, hcap, hlt, hown.cellAt 0 (by decide), hown.cellAt 1 (by decide), hown.cellAt 3 (by decide), p1, hbel⟩
theorem post_bad {w w' : World} {xs : List Int} {most wait : Int} {e : Ending} {n : Int} (h : FormPost w xs most wait e w') (hc : Pl.code xs most wait = n) (hn : n ≠ 0) :
    e = .returned (.tuple #[.slice none 0 0, .int .i64 n]) ∧ Below w.heap.size w w' := by
  rcases h with ⟨_, h1, h2⟩ | ⟨h0, _⟩
  · rw [hc] at h1; exact ⟨h1, h2⟩
  · exact absurd (hc.symm.trans h0) hn
theorem post_none {w w' : World} {most wait : Int} {e : Ending} (h : FormPost w [] most wait e w') (hc : Pl.code [] most wait = 0) :
    ∃ A c, e = .returned (.tuple #[.slice A 0 c, .int .i64 0]) ∧ Below w.heap.size w w' := by
  rcases h with ⟨h0, _⟩ | ⟨_, v, ba, rfl, hown, hba, hB, hbel⟩
  · exact absurd hc h0
  · have hf : Pl.form [] most.toNat wait 0 = [] := rfl
    rw [hf] at hown
    rcases hown.2 with ⟨rfl, _⟩ | ⟨g, cap, cur, rfl, _⟩
    · exact ⟨_, _, rfl, hbel⟩
    · exact ⟨_, _, rfl, hbel⟩

set_option maxHeartbeats 2000000 in
set_option maxRecDepth 100000 in
theorem walk (w : World) : Calls Tryz.prog 3 #[] w fun e w' => e = .returned (.bool true) ∧ Below w.heap.size w w' := by
  go_enter Tryz.func3, Tryz.ntmps3
  go_wp2_with fail
  refine (form_any _ _ [4, 7, 8, 8] 3 3 _ (by have := lit_ints w 3 [4, 7, 8, 8]; simpa using this) (by decide)).mono ?_
  intro e w1 h1
  obtain ⟨g, cap, ba, rfl, hcap, hg, c0, c1, c3, i0, hbel⟩ := cells_one h1
  clear h1
  have hb1 : Below w.heap.size w w1 := ((Below.refl w.heap.size w).alloc (Nat.le_refl _) _).trans (hbel.mono (by simp))
  have hz1 : w.heap.size ≤ w1.heap.size := hb1.size
  have I0 := Lib.hid i0
  have HB1 := Lib.hid hb1
  clear i0 hbel hb1
  go_wp2_with fail
  refine (form_any _ _ [1, 0] 1 0 _ (by have := lit_ints w1 3 [1, 0]; simpa using this) (by decide)).mono ?_
  intro e w2 h2
  obtain ⟨rfl, hb2⟩ := post_bad (n := 1) h2 (by decide) (by decide)
  clear h2
  have hb2' : Below w1.heap.size w1 w2 := ((Below.refl _ _).alloc (Nat.le_refl _) _).trans (hb2.mono (by simp))
  clear hb2
  go_wp2_with fail
  refine (form_any _ _ [-1] 1 0 _ (by have := lit_ints w2 3 [-1]; simpa using this) (by decide)).mono ?_
  intro e w3 h3
  obtain ⟨rfl, hb3⟩ := post_bad (n := 1) h3 (by decide) (by decide)
  clear h3
  have hb3' : Below w1.heap.size w1 w3 := hb2'.trans (Below.mono (((Below.refl w2.heap.size w2).alloc (Nat.le_refl _) (.cells #[.int .i64 (-1)] 3)).trans (hb3.mono (by simp))) hb2'.size)
  clear hb3 hb2'
  go_wp2_with fail
  refine (form_any none 0 [] 1 0 _ ⟨by simp, fun h => by simp at h⟩ (by decide)).mono ?_
  intro e w4 h4
  obtain ⟨A4, c4, rfl, hb4⟩ := post_none h4 (by decide)
  clear h4
  have hb4' : Below w1.heap.size w1 w4 := hb3'.trans (hb4.mono hb3'.size)
  clear hb4 hb3'
  go_wp2_with fail
  refine (alone_none _ _ rfl (by kernel_rfl)).mono ?_
  rintro e w5 ⟨rfl, hb5⟩
  have hb5' : Below w1.heap.size w1 w5 := hb4'.trans (hb5.mono hb4'.size)
  clear hb5 hb4'
  unfold doneCells
  go_wp2_with fail
  refine (run_none _ _ rfl (by kernel_rfl)).mono ?_
  rintro e w6 ⟨rfl, hb6⟩
  have hz5 : w1.heap.size ≤ w5.heap.size := hb5'.size
  have hb6' : Below (w5.heap.size + 1) (w5.alloc (.cells #[.int .i64 9, .int .i64 0, .int .i64 1, .int .i64 0, .bool false, .int .u64 0, .string ⟨#[]⟩, .int .u64 0, .string ⟨#[]⟩] 39)) w6 := by simpa using hb6
  have hD : Blk w6 w5.heap.size 39 #[.int .i64 9, .int .i64 0, .int .i64 1, .int .i64 0, .bool false, .int .u64 0, .string ⟨#[]⟩, .int .u64 0, .string ⟨#[]⟩] := (Blk.new w5 _ _).below hb6' (by omega)
  have hw6 : Below w1.heap.size w1 w6 := (hb5'.alloc hz5 _).trans (hb6'.mono (by omega))
  clear hb6 hb5'
  go_wp2_with fail
  refine (known_any _).mono ?_
  rintro e w7 ⟨rfl, hb7⟩
  have hD7 : Blk w7 w5.heap.size 39 #[.int .i64 9, .int .i64 0, .int .i64 1, .int .i64 0, .bool false, .int .u64 0, .string ⟨#[]⟩, .int .u64 0, .string ⟨#[]⟩] := hD.below hb7 hD.lt
  have hw7 : Below w1.heap.size w1 w7 := hw6.trans (hb7.mono hw6.size)
  have hz7 : w1.heap.size ≤ w7.heap.size := hw7.size
  have e0 : w7.cell? ⟨g, 0, none⟩ = some (.slice (some ⟨ba, 0, none⟩) 2 2) := (hw7.cell hg).trans c0
  have hg7 : g < w7.heap.size := by omega
  have J0 := Lib.hid (Reads.below I0.out hw7)
  have HD7 := Lib.hid hD7
  have HW7 := Lib.hid hw7
  have hl5 : w5.heap.size < w7.heap.size := hD7.lt
  clear hD hD7 hw6 hb6' hb7 c0
  go_wp2_with fail
  refine (sameInts_any _ _ _ _ _ _ [0, 1] [0, 1] _ (Reads.alloc J0.out hz7 _) (by have := lit_ints w7 3 [0, 1]; simpa using this) (by decide)).mono ?_
  rintro e w8 ⟨rfl, q, rfl⟩
  rw [decide_eq_true rfl]
  have keep : ∀ b i, b < w7.heap.size → ((w7.alloc (.cells #[.int .i64 0, .int .i64 1] 3)).drewN q).cell? ⟨b, i, none⟩ = w7.cell? ⟨b, i, none⟩ := fun b i h => World.cell?_alloc_lt _ _ _ h
  have k1 := ((keep g 1 hg7).trans (HW7.out.cell hg)).trans c1
  have k3 := ((keep g 3 hg7).trans (HW7.out.cell hg)).trans c3
  have m0 : ((w7.alloc (.cells #[.int .i64 0, .int .i64 1] 3)).drewN q).cell? ⟨w5.heap.size, 0, none⟩ = some (.int .i64 9) := (keep _ 0 hl5).trans (HD7.out.cell 0)
  have m2 : ((w7.alloc (.cells #[.int .i64 0, .int .i64 1] 3)).drewN q).cell? ⟨w5.heap.size, 2, none⟩ = some (.int .i64 1) := (keep _ 2 hl5).trans (HD7.out.cell 2)
  have hw8 : Below w.heap.size w ((w7.alloc (.cells #[.int .i64 0, .int .i64 1] 3)).drewN q) := by
    have h := (HB1.out.trans (HW7.out.mono hz1)).alloc (by omega) (.cells #[.int .i64 0, .int .i64 1] 3)
    exact ⟨h.os, h.tape, h.output, h.size, h.block⟩
  have HW8 := Lib.hid hw8
  have hz8 : w.heap.size ≤ ((w7.alloc (.cells #[.int .i64 0, .int .i64 1] 3)).drewN q).heap.size := hw8.size
  clear keep hw8 c1 c3 e0
  generalize (w7.alloc (.cells #[.int .i64 0, .int .i64 1] 3)).drewN q = W at k1 k3 m0 m2 HW8 hz8 ⊢
  go_wp2_with fail
  refine (fine_any _ _ _).mono ?_
  rintro e w9 ⟨rfl, rfl⟩
  rw [show Pl.okRules 300 1073741824 = true by decide]
  go_wp2_with fail
  refine (fine_any _ _ _).mono ?_
  rintro e w9 ⟨rfl, rfl⟩
  rw [show Pl.okRules 301 0 = false by decide]
  go_wp2_with fail
  refine (fine_any _ _ _).mono ?_
  rintro e w9 ⟨rfl, rfl⟩
  rw [show Pl.okRules 1 (-1) = false by decide]
  go_wp2
  go_ret
  exact ⟨rfl, ((HW8.out.alloc hz8 _).alloc (by simp; omega) _).alloc (by simp; omega) _⟩
end Go.Proofs.YtphllokpeamcoabGreatDoor.batchKnown
