/-
  The program's small fractions: times, Cmp; what is alike.
-/
import Derived.Test.YtjohbgkdhppglaaDoorM2
namespace Go.Proofs.YtjohbgkdhppglaaDoor
open Go.RowKit

set_option maxHeartbeats 1000000 in
set_option maxRecDepth 100000 in
theorem times_any (b : Bool) (n d : Nat) (w : World) (hn : n < 18446744073709551616) (hd : d < 18446744073709551616) (hp : n * d < 18446744073709551616) :
    Calls Tryd.prog 17 #[.agg #[.bool b, .int .u64 (n : Int), .string ⟨#[]⟩], .agg #[.int .u64 (d : Int), .string ⟨#[]⟩]] w fun e w' => e = .returned (.agg #[.bool (b && decide (0 < n * d)), .int .u64 ((n * d : Nat) : Int), .string ⟨#[]⟩]) ∧ Below w.heap.size w w' := by
  have HM := fun W => imul_any b false n d W hn hd hp
  have HF := fun W => from_any false d W hd
  rw [show (b != false) = b by cases b <;> rfl] at HM
  obtain ⟨k, HK⟩ : ∃ k, Hid (n * d = k) := ⟨_, rfl⟩
  rw [HK.out] at HM ⊢
  obtain ⟨r, HRR⟩ : ∃ r, Hid ((b && decide (0 < k)) = r) := ⟨_, rfl⟩
  rw [HRR.out] at HM ⊢
  rw [Bool.false_and] at HF
  replace HM := Lib.hid HM
  replace HF := Lib.hid HF
  clear hp
  go_enter Tryd.func17, Tryd.ntmps17
  go_wp2
  go_region_held3 (fun w' => w'.cell? ⟨w.heap.size, 0, none⟩ = some (.bool b) ∧ w'.cell? ⟨w.heap.size, 1, none⟩ = some (.int .u64 (n : Int)) ∧ w'.cell? ⟨w.heap.size, 2, none⟩ = some (.string ⟨#[]⟩) ∧ w'.cell? ⟨w.heap.size + 1, 0, none⟩ = some (.int .u64 (d : Int)) ∧ w'.cell? ⟨w.heap.size + 1, 1, none⟩ = some (.string ⟨#[]⟩)) (simp [*, World.cell?_alloc_some, World.cell?_setCell_far, Nat.add_assoc])
    (first
      | (go_at_call 21; refine (HF.out _).mono ?_; rintro e w2 ⟨rfl, hb2⟩; have c0 := hb2.cell (p := ⟨w.heap.size, 0, none⟩) (by simp <;> omega); have c1 := hb2.cell (p := ⟨w.heap.size, 1, none⟩) (by simp <;> omega); have c2 := hb2.cell (p := ⟨w.heap.size, 2, none⟩) (by simp <;> omega); have c3 := hb2.cell (p := ⟨w.heap.size + 1, 0, none⟩) (by simp <;> omega); have c4 := hb2.cell (p := ⟨w.heap.size + 1, 1, none⟩) (by simp <;> omega); have hz2 : w.heap.size + 3 ≤ w2.heap.size := by { have := hb2.size; simp at this; omega }; have HBk : Hid (Blk w2 (w.heap.size + 2) 28 #[.bool false, .int .u64 0, .string ⟨#[]⟩]) := blk3d hb2; have HB2 := Lib.hid hb2)
      | (go_at_call 28; refine (HM.out _).mono ?_; rintro e w3 ⟨rfl, hb3⟩; have e0 := hb3.cell (p := ⟨w.heap.size, 0, none⟩) (by simp <;> omega); have e1 := hb3.cell (p := ⟨w.heap.size, 1, none⟩) (by simp <;> omega); have e2 := hb3.cell (p := ⟨w.heap.size, 2, none⟩) (by simp <;> omega); have e3 := hb3.cell (p := ⟨w.heap.size + 1, 0, none⟩) (by simp <;> omega); have e4 := hb3.cell (p := ⟨w.heap.size + 1, 1, none⟩) (by simp <;> omega); have HBk3 := Lib.hid (HBk.out.below hb3 HBk.out.lt); have HB3 := Lib.hid hb3; have g0 := HBk3.out.cell 0; have g1 := HBk3.out.cell 1; have g2 := HBk3.out.cell 2; have f0 := HBk3.out.frozen 0; have f1 := HBk3.out.frozen 1; have f2 := HBk3.out.frozen 2; simp only [List.getElem?_toArray, List.getElem?_cons_zero, List.getElem?_cons_succ] at g0 g1 g2))
  go_wp2
  refine bodyPost_ret (v := .agg #[.bool r, .int .u64 (k : Int), .string ⟨#[]⟩]) ?_ rfl ⟨rfl, ?_⟩
  · simp [results, Tryd.results17, go_sem, g0, g1, g2]
  · have hb := ((((Below.refl w.heap.size w).alloc (Nat.le_refl _) (.cells #[.bool b, .int .u64 (n : Int), .string ⟨#[]⟩] 28)).alloc (by simp) (.cells #[.int .u64 (d : Int), .string ⟨#[]⟩] 26)).alloc (by simp <;> omega) (.cells #[.bool false, .int .u64 0, .string ⟨#[]⟩] 28)).drew
    have hb' := hb.trans (HB2.out.mono (by simp <;> omega))
    have hb'' := hb'.trans (HB3.out.mono hb'.size)
    exact ((hb''.setCell (by show w.heap.size ≤ w.heap.size + 1 + 1; omega) _).setCell (by show w.heap.size ≤ w.heap.size + 1 + 1; omega) _).setCell (by show w.heap.size ≤ w.heap.size + 1 + 1; omega) _
end Go.Proofs.YtjohbgkdhppglaaDoor
