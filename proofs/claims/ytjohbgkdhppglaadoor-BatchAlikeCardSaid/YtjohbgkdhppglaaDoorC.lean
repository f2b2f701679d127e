/-
  The statements' own 'known': it returns true.
-/
import Derived.Test.YtjohbgkdhppglaaDoorB
namespace Go.Proofs.YtjohbgkdhppglaaDoor
open Go.RowKit

/- What is known of a slice of ints that came in. -/
theorem lt_of_row {w : World} {x : Addr} {zs : List Int} {c n : Nat} (hc : n ≤ c) (hz : zs.length = c) (h : ∀ i, i < zs.length → w.cell? (x.add i) = some (.int .i64 (zs.getD i 0))) : 0 < n → x.block < w.heap.size := by
  intro hn
  have := h 0 (by omega)
  rw [show x.add 0 = x by simp [Addr.add]] at this
  unfold World.cell? at this
  split at this
  · exact lt_of_block ‹_›
  · cases this
def IsRow (k : IntKind) (w : World) (a : Option Addr) (len cap : Nat) (zs : List Int) : Prop :=
  (a = none ∧ len = 0 ∧ cap = 0 ∧ zs = []) ∨
  ∃ x, a = some x ∧ (0 < cap → x.block < w.heap.size) ∧ len ≤ cap ∧ cap ≤ maxLen ∧ zs.length = cap ∧ (∀ i, i < zs.length → w.cell? (x.add i) = some (.int k (zs.getD i 0))) ∧ ∀ n ∈ zs, (Lit.int k n).wf = true

/- A part of the row of the numbers 0 to n - 1. -/
theorem part_ints {w : World} {ba n fr to : Nat} (hB : Blk w ba 3 (fillA n n)) (h : fr ≤ to) (hto : to ≤ n) :
    IntsIn w w.heap.size (some ⟨ba, fr, none⟩) ((List.range (to - fr)).map fun i => ((fr + i : Nat) : Int)) := by
  refine ⟨by simp, fun hn => ⟨_, rfl, hB.lt, fun j u hu => ?_⟩⟩
  simp only [List.map_map] at hu
  rw [List.getElem?_map] at hu
  by_cases hj : j < to - fr
  · rw [List.getElem?_range hj] at hu
    simp only [Option.map_some, Function.comp, Option.some.injEq] at hu
    have e : Addr.add ⟨ba, fr, none⟩ j = ⟨ba, fr + j, none⟩ := by
      unfold Addr.add
      by_cases h0 : j = 0
      · simp [h0]
      · simp [h0]
    rw [e, hB.cell, fillA_at (by omega), if_pos (by omega), ← hu]
  · rw [List.getElem?_eq_none (by simp; omega)] at hu
    simp at hu

theorem lit_ints (w : World) (t : TypeId) (xs : List Int) : IntsIn (w.alloc (.cells (xs.map (Value.int .i64)).toArray t)) (w.heap.size + 1) (some ⟨w.heap.size, 0, none⟩) xs := by
  refine ⟨by simp, fun hn => ⟨_, rfl, by simp, fun j u hu => ?_⟩⟩
  have e : Addr.add ⟨w.heap.size, 0, none⟩ j = ⟨w.heap.size, j, none⟩ := by
    unfold Addr.add
    by_cases h0 : j = 0
    · simp [h0]
    · simp [h0]
  rw [e, (Blk.new w t _).cell]
  simpa using hu

theorem known_cells {w w' : World} {e : Ending} (h : FormPost w [0, 1, 5] 2 3 e w') :
    ∃ g cap ba, e = .returned (.tuple #[.slice (some ⟨g, 0, none⟩) 2 cap, .int .i64 0]) ∧ 2 ≤ cap ∧ g < w'.heap.size ∧
      w'.cell? ⟨g, 0, none⟩ = some (.slice (some ⟨ba, 0, none⟩) 2 2) ∧ w'.cell? ⟨g, 1, none⟩ = some (.int .i64 1) ∧
      w'.cell? ⟨g, 2, none⟩ = some (.slice (some ⟨ba, 2, none⟩) 1 1) ∧ w'.cell? ⟨g, 3, none⟩ = some (.int .i64 8) ∧
      IntsIn w' w'.heap.size (some ⟨ba, 0, none⟩) [0, 1] ∧ IntsIn w' w'.heap.size (some ⟨ba, 2, none⟩) [2] ∧ Below w.heap.size w w' := by
  rcases h with ⟨h, _⟩ | ⟨_, v, ba, rfl, hown, hba, hB, hbel⟩
  · exact absurd (by decide) h
  · have hf : Pl.form [0, 1, 5] (2 : Int).toNat 3 0 = [⟨0, 2, 1⟩, ⟨2, 3, 8⟩] := rfl
    rw [hf] at hown
    obtain ⟨g, cap, rfl, _, hlt⟩ := hown.form (by decide)
    have hcap : 2 ≤ cap := by
      rcases hown.2 with ⟨h, _⟩ | ⟨g', cap', cur, h, _, _, hc, _⟩
      · cases h
      · injection h with _ _ h; subst h; exact hc
    have p1 := part_ints (fr := 0) (to := 2) hB (by decide) (by decide)
    have p2 := part_ints (fr := 2) (to := 3) hB (by decide) (by decide)
    refine ⟨g, cap, ba, rfl, hcap, hlt, hown.cellAt 0 (by decide), hown.cellAt 1 (by decide), hown.cellAt 2 (by decide), hown.cellAt 3 (by decide), p1, p2, hbel⟩

set_option maxHeartbeats 1000000 in
theorem known_any (w : World) : Calls Tryd.prog 6 #[] w fun e w' => e = .returned (.bool true) ∧ Below w.heap.size w w' := by
  go_enter Tryd.func6, Tryd.ntmps6
  go_wp2_with fail
  refine (form_any _ _ [0, 1, 5] 2 3 _ (by have := lit_ints w 3 [0, 1, 5]; simpa using this) (by decide)).mono ?_
  intro e w1 h1
  obtain ⟨g, cap, ba, rfl, hcap, hg, c0, c1, c2, c3, i0, i1, hbel⟩ := known_cells h1
  clear h1
  have hz : w.heap.size + 1 ≤ w1.heap.size := by have := hbel.size; simpa using this
  have I0 := Lib.hid i0
  have I1 := Lib.hid i1
  clear i0 i1
  go_wp2_with fail
  refine (sameInts_any _ _ _ _ _ _ [0, 1] [0, 1] _ (Reads.alloc I0.out (Nat.le_refl _) _) (by have := lit_ints w1 3 [0, 1]; simpa using this) (by decide)).mono ?_
  rintro e w2 ⟨rfl, q, rfl⟩
  rw [decide_eq_true rfl]
  have hg2 : g < ((w1.alloc (.cells #[.int .i64 0, .int .i64 1] 3)).drewN q).heap.size := by simp; omega
  have keep : ∀ i, ((w1.alloc (.cells #[.int .i64 0, .int .i64 1] 3)).drewN q).cell? ⟨g, i, none⟩ = w1.cell? ⟨g, i, none⟩ := fun i => World.cell?_alloc_lt _ _ _ (by simpa using hg)
  have k1 := (keep 1).trans c1
  have k2 := (keep 2).trans c2
  have k3 := (keep 3).trans c3
  have J1 := Lib.hid (Reads.drewN (Reads.alloc I1.out (Nat.le_refl _) (.cells #[.int .i64 0, .int .i64 1] 3)) q)
  have hbel2 : Below w.heap.size w ((w1.alloc (.cells #[.int .i64 0, .int .i64 1] 3)).drewN q) := by
    have h := (((Below.refl w.heap.size w).alloc (Nat.le_refl _) (.cells #[.int .i64 0, .int .i64 1, .int .i64 5] 3)).trans (hbel.mono (by simp))).alloc (by omega) (.cells #[.int .i64 0, .int .i64 1] 3)
    exact ⟨h.os, h.tape, h.output, h.size, h.block⟩
  have hz2 : w.heap.size + 1 ≤ ((w1.alloc (.cells #[.int .i64 0, .int .i64 1] 3)).drewN q).heap.size := by simp; omega
  have hz3 : w1.heap.size ≤ ((w1.alloc (.cells #[.int .i64 0, .int .i64 1] 3)).drewN q).heap.size := by simp
  clear keep c0 c1 c2 c3 I0 I1 hbel
  generalize ((w1.alloc (.cells #[.int .i64 0, .int .i64 1] 3)).drewN q) = W at hg2 k1 k2 k3 J1 hbel2 hz2 hz3 ⊢
  go_wp2_with fail
  refine (sameInts_any _ _ _ _ _ _ [2] [2] _ (Reads.alloc J1.out hz3 _) (by have := lit_ints W 3 [2]; simpa using this) (by decide)).mono ?_
  rintro e w3 ⟨rfl, q3, rfl⟩
  rw [decide_eq_true rfl]
  have m3 : ((W.alloc (.cells #[.int .i64 2] 3)).drewN q3).cell? ⟨g, 3, none⟩ = some (.int .i64 8) := (World.cell?_alloc_lt _ _ _ (by simpa using hg2)).trans k3
  go_wp2
  go_ret
  refine ⟨rfl, ?_⟩
  have h := hbel2.alloc (by omega) (.cells #[.int .i64 2] 3)
  exact ⟨h.os, h.tape, h.output, h.size, h.block⟩
end Go.Proofs.YtjohbgkdhppglaaDoor
