/-
  The program's small fractions: Mul, times.
-/
import Derived.Test.YtjohbgkdhppglaaDoorM1
namespace Go.Proofs.YtjohbgkdhppglaaDoor
open Go.RowKit

theorem mul64_any (n m : Nat) (w : World) (hn : n < 18446744073709551616) (hm : m < 18446744073709551616) (hp : n * m < 18446744073709551616) :
    Calls Tryd.prog 51 #[.int .u64 (n : Int), .int .u64 (m : Int)] w fun e w' => e = .returned (.tuple #[.int .u64 0, .int .u64 ((n * m : Nat) : Int)]) ∧ w' = w := by
  refine (Tryd.bits_Mul64 n m hn hm w).mono ?_
  rintro e w' ⟨rfl, rfl⟩
  rw [Nat.div_eq_of_lt hp, Nat.mod_eq_of_lt hp]
  exact ⟨rfl, rfl⟩

set_option maxHeartbeats 1000000 in
set_option maxRecDepth 100000 in
theorem nmul_any (n m : Nat) (w : World) (hn : n < 18446744073709551616) (hm : m < 18446744073709551616) (hp : n * m < 18446744073709551616) :
    Calls Tryd.prog 40 #[.agg #[.int .u64 (n : Int), .string ⟨#[]⟩], .agg #[.int .u64 (m : Int), .string ⟨#[]⟩]] w fun e w' => e = .returned (.agg #[.int .u64 ((n * m : Nat) : Int), .string ⟨#[]⟩]) ∧ Below w.heap.size w w' := by
  obtain ⟨k, HK⟩ : ∃ k, Hid (n * m = k) := ⟨_, rfl⟩
  have HM := fun W => mul64_any n m W hn hm hp
  rw [HK.out] at HM ⊢
  replace HM := Lib.hid HM
  clear hp
  go_enter Tryd.func40, Tryd.ntmps40
  go_wp2_with (go_at_call 51; refine (HM.out _).mono ?_; rintro e w2 ⟨rfl, rfl⟩)
  refine bodyPost_ret (v := .agg #[.int .u64 (k : Int), .string ⟨#[]⟩]) (by simp [results, Tryd.results40, go_sem]) rfl ⟨rfl, ?_⟩
  repeat (first
    | exact Below.refl _ _
    | (refine Below.alloc ?_ ?_ _; rotate_left 1; focus (first | (simp; done) | (simp; omega)))
    | (refine Below.setCell ?_ ?_ _; rotate_left 1; focus (first | (simp; done) | (simp; omega))))

theorem blk3d {w w2 : World} {x y : Obj} {t : TypeId} {cs : Array Value} (h : Below (((w.alloc x).alloc y).alloc (.cells cs t)).drew.heap.size (((w.alloc x).alloc y).alloc (.cells cs t)).drew w2) : Blk w2 (w.heap.size + 2) t cs := by
  have h0 : Blk (((w.alloc x).alloc y).alloc (.cells cs t)) (w.heap.size + 2) t cs := by
    have := Blk.new ((w.alloc x).alloc y) t cs; simpa using this
  exact Blk.below (w := (((w.alloc x).alloc y).alloc (.cells cs t)).drew) h0 h h0.lt
set_option maxHeartbeats 1000000 in
set_option maxRecDepth 100000 in
theorem imul_any (b c : Bool) (n m : Nat) (w : World) (hn : n < 18446744073709551616) (hm : m < 18446744073709551616) (hp : n * m < 18446744073709551616) :
    Calls Tryd.prog 28 #[.agg #[.bool b, .int .u64 (n : Int), .string ⟨#[]⟩], .agg #[.bool c, .int .u64 (m : Int), .string ⟨#[]⟩]] w fun e w' => e = .returned (.agg #[.bool ((b != c) && decide (0 < n * m)), .int .u64 ((n * m : Nat) : Int), .string ⟨#[]⟩]) ∧ Below w.heap.size w w' := by
  obtain ⟨k, HK⟩ : ∃ k, Hid (n * m = k) := ⟨_, rfl⟩
  have HM := fun W => nmul_any n m W hn hm hp
  have HF := fun W => from_any (b != c) (n * m) W hp
  rw [HK.out] at HM HF ⊢
  obtain ⟨r, HRR⟩ : ∃ r, Hid (((b != c) && decide (0 < k)) = r) := ⟨_, rfl⟩
  rw [HRR.out] at HF ⊢
  replace HM := Lib.hid HM
  replace HF := Lib.hid HF
  clear hp
  have hne2 : ¬ w.heap.size = w.heap.size + 1 + 1 := by omega
  cases b <;> cases c
  · go_enter Tryd.func28, Tryd.ntmps28
    go_wp2
    go_region_held3 (fun w' => w'.cell? ⟨w.heap.size, 0, none⟩ = some (.bool false) ∧ w'.cell? ⟨w.heap.size, 1, none⟩ = some (.int .u64 (n : Int)) ∧ w'.cell? ⟨w.heap.size, 2, none⟩ = some (.string ⟨#[]⟩) ∧ w'.cell? ⟨w.heap.size + 1, 0, none⟩ = some (.bool false) ∧ w'.cell? ⟨w.heap.size + 1, 1, none⟩ = some (.int .u64 (m : Int)) ∧ w'.cell? ⟨w.heap.size + 1, 2, none⟩ = some (.string ⟨#[]⟩)) (simp [*, World.cell?_alloc_some, World.cell?_setCell_far, Nat.add_assoc])
      (first
        | (go_at_call 40; refine (HM.out _).mono ?_; rintro e w2 ⟨rfl, hb2⟩; have c0 := hb2.cell (p := ⟨w.heap.size, 0, none⟩) (by simp <;> omega); have c1 := hb2.cell (p := ⟨w.heap.size, 1, none⟩) (by simp <;> omega); have c2 := hb2.cell (p := ⟨w.heap.size, 2, none⟩) (by simp <;> omega); have c3 := hb2.cell (p := ⟨w.heap.size + 1, 0, none⟩) (by simp <;> omega); have c4 := hb2.cell (p := ⟨w.heap.size + 1, 1, none⟩) (by simp <;> omega); have c5 := hb2.cell (p := ⟨w.heap.size + 1, 2, none⟩) (by simp <;> omega); have hz2 : w.heap.size + 3 ≤ w2.heap.size := by { have := hb2.size; simp at this; omega }; have HBk : Hid (Blk w2 (w.heap.size + 2) 28 #[.bool false, .int .u64 0, .string ⟨#[]⟩]) := blk3d hb2; have HB2 := Lib.hid hb2)
        | (go_at_call 21; refine (HF.out _).mono ?_; rintro e w3 ⟨rfl, hb3⟩; have e0 := hb3.cell (p := ⟨w.heap.size, 0, none⟩) (by simp <;> omega); have e1 := hb3.cell (p := ⟨w.heap.size, 1, none⟩) (by simp <;> omega); have e2 := hb3.cell (p := ⟨w.heap.size, 2, none⟩) (by simp <;> omega); have e3 := hb3.cell (p := ⟨w.heap.size + 1, 0, none⟩) (by simp <;> omega); have e4 := hb3.cell (p := ⟨w.heap.size + 1, 1, none⟩) (by simp <;> omega); have e5 := hb3.cell (p := ⟨w.heap.size + 1, 2, none⟩) (by simp <;> omega); have HBk3 := Lib.hid (HBk.out.below hb3 HBk.out.lt); have HB3 := Lib.hid hb3; have g0 := HBk3.out.cell 0; have g1 := HBk3.out.cell 1; have g2 := HBk3.out.cell 2; have f0 := HBk3.out.frozen 0; have f1 := HBk3.out.frozen 1; have f2 := HBk3.out.frozen 2; simp only [List.getElem?_toArray, List.getElem?_cons_zero, List.getElem?_cons_succ] at g0 g1 g2))
    go_wp2
    refine bodyPost_ret (v := .agg #[.bool r, .int .u64 (k : Int), .string ⟨#[]⟩]) ?_ rfl ⟨rfl, ?_⟩
    · simp [results, Tryd.results28, go_sem, g0, g1, g2]
    · have hb := ((((Below.refl w.heap.size w).alloc (Nat.le_refl _) (.cells #[.bool false, .int .u64 (n : Int), .string ⟨#[]⟩] 28)).alloc (by simp) (.cells #[.bool false, .int .u64 (m : Int), .string ⟨#[]⟩] 28)).alloc (by simp <;> omega) (.cells #[.bool false, .int .u64 0, .string ⟨#[]⟩] 28)).drew
      have hb' := hb.trans (HB2.out.mono (by simp <;> omega))
      have hb'' := hb'.trans (HB3.out.mono hb'.size)
      exact ((hb''.setCell (by show w.heap.size ≤ w.heap.size + 1 + 1; omega) _).setCell (by show w.heap.size ≤ w.heap.size + 1 + 1; omega) _).setCell (by show w.heap.size ≤ w.heap.size + 1 + 1; omega) _
  · go_enter Tryd.func28, Tryd.ntmps28
    go_wp2
    go_region_held3 (fun w' => w'.cell? ⟨w.heap.size, 0, none⟩ = some (.bool false) ∧ w'.cell? ⟨w.heap.size, 1, none⟩ = some (.int .u64 (n : Int)) ∧ w'.cell? ⟨w.heap.size, 2, none⟩ = some (.string ⟨#[]⟩) ∧ w'.cell? ⟨w.heap.size + 1, 0, none⟩ = some (.bool true) ∧ w'.cell? ⟨w.heap.size + 1, 1, none⟩ = some (.int .u64 (m : Int)) ∧ w'.cell? ⟨w.heap.size + 1, 2, none⟩ = some (.string ⟨#[]⟩)) (simp [*, World.cell?_alloc_some, World.cell?_setCell_far, Nat.add_assoc])
      (first
        | (go_at_call 40; refine (HM.out _).mono ?_; rintro e w2 ⟨rfl, hb2⟩; have c0 := hb2.cell (p := ⟨w.heap.size, 0, none⟩) (by simp <;> omega); have c1 := hb2.cell (p := ⟨w.heap.size, 1, none⟩) (by simp <;> omega); have c2 := hb2.cell (p := ⟨w.heap.size, 2, none⟩) (by simp <;> omega); have c3 := hb2.cell (p := ⟨w.heap.size + 1, 0, none⟩) (by simp <;> omega); have c4 := hb2.cell (p := ⟨w.heap.size + 1, 1, none⟩) (by simp <;> omega); have c5 := hb2.cell (p := ⟨w.heap.size + 1, 2, none⟩) (by simp <;> omega); have hz2 : w.heap.size + 3 ≤ w2.heap.size := by { have := hb2.size; simp at this; omega }; have HBk : Hid (Blk w2 (w.heap.size + 2) 28 #[.bool false, .int .u64 0, .string ⟨#[]⟩]) := blk3d hb2; have HB2 := Lib.hid hb2)
        | (go_at_call 21; refine (HF.out _).mono ?_; rintro e w3 ⟨rfl, hb3⟩; have e0 := hb3.cell (p := ⟨w.heap.size, 0, none⟩) (by simp <;> omega); have e1 := hb3.cell (p := ⟨w.heap.size, 1, none⟩) (by simp <;> omega); have e2 := hb3.cell (p := ⟨w.heap.size, 2, none⟩) (by simp <;> omega); have e3 := hb3.cell (p := ⟨w.heap.size + 1, 0, none⟩) (by simp <;> omega); have e4 := hb3.cell (p := ⟨w.heap.size + 1, 1, none⟩) (by simp <;> omega); have e5 := hb3.cell (p := ⟨w.heap.size + 1, 2, none⟩) (by simp <;> omega); have HBk3 := Lib.hid (HBk.out.below hb3 HBk.out.lt); have HB3 := Lib.hid hb3; have g0 := HBk3.out.cell 0; have g1 := HBk3.out.cell 1; have g2 := HBk3.out.cell 2; have f0 := HBk3.out.frozen 0; have f1 := HBk3.out.frozen 1; have f2 := HBk3.out.frozen 2; simp only [List.getElem?_toArray, List.getElem?_cons_zero, List.getElem?_cons_succ] at g0 g1 g2))
    go_wp2
    refine bodyPost_ret (v := .agg #[.bool r, .int .u64 (k : Int), .string ⟨#[]⟩]) ?_ rfl ⟨rfl, ?_⟩
    · simp [results, Tryd.results28, go_sem, g0, g1, g2]
    · have hb := ((((Below.refl w.heap.size w).alloc (Nat.le_refl _) (.cells #[.bool false, .int .u64 (n : Int), .string ⟨#[]⟩] 28)).alloc (by simp) (.cells #[.bool true, .int .u64 (m : Int), .string ⟨#[]⟩] 28)).alloc (by simp <;> omega) (.cells #[.bool false, .int .u64 0, .string ⟨#[]⟩] 28)).drew
      have hb' := hb.trans (HB2.out.mono (by simp <;> omega))
      have hb'' := hb'.trans (HB3.out.mono hb'.size)
      exact ((hb''.setCell (by show w.heap.size ≤ w.heap.size + 1 + 1; omega) _).setCell (by show w.heap.size ≤ w.heap.size + 1 + 1; omega) _).setCell (by show w.heap.size ≤ w.heap.size + 1 + 1; omega) _
  · go_enter Tryd.func28, Tryd.ntmps28
    go_wp2
    go_region_held3 (fun w' => w'.cell? ⟨w.heap.size, 0, none⟩ = some (.bool true) ∧ w'.cell? ⟨w.heap.size, 1, none⟩ = some (.int .u64 (n : Int)) ∧ w'.cell? ⟨w.heap.size, 2, none⟩ = some (.string ⟨#[]⟩) ∧ w'.cell? ⟨w.heap.size + 1, 0, none⟩ = some (.bool false) ∧ w'.cell? ⟨w.heap.size + 1, 1, none⟩ = some (.int .u64 (m : Int)) ∧ w'.cell? ⟨w.heap.size + 1, 2, none⟩ = some (.string ⟨#[]⟩)) (simp [*, World.cell?_alloc_some, World.cell?_setCell_far, Nat.add_assoc])
      (first
        | (go_at_call 40; refine (HM.out _).mono ?_; rintro e w2 ⟨rfl, hb2⟩; have c0 := hb2.cell (p := ⟨w.heap.size, 0, none⟩) (by simp <;> omega); have c1 := hb2.cell (p := ⟨w.heap.size, 1, none⟩) (by simp <;> omega); have c2 := hb2.cell (p := ⟨w.heap.size, 2, none⟩) (by simp <;> omega); have c3 := hb2.cell (p := ⟨w.heap.size + 1, 0, none⟩) (by simp <;> omega); have c4 := hb2.cell (p := ⟨w.heap.size + 1, 1, none⟩) (by simp <;> omega); have c5 := hb2.cell (p := ⟨w.heap.size + 1, 2, none⟩) (by simp <;> omega); have hz2 : w.heap.size + 3 ≤ w2.heap.size := by { have := hb2.size; simp at this; omega }; have HBk : Hid (Blk w2 (w.heap.size + 2) 28 #[.bool false, .int .u64 0, .string ⟨#[]⟩]) := blk3d hb2; have HB2 := Lib.hid hb2)
        | (go_at_call 21; refine (HF.out _).mono ?_; rintro e w3 ⟨rfl, hb3⟩; have e0 := hb3.cell (p := ⟨w.heap.size, 0, none⟩) (by simp <;> omega); have e1 := hb3.cell (p := ⟨w.heap.size, 1, none⟩) (by simp <;> omega); have e2 := hb3.cell (p := ⟨w.heap.size, 2, none⟩) (by simp <;> omega); have e3 := hb3.cell (p := ⟨w.heap.size + 1, 0, none⟩) (by simp <;> omega); have e4 := hb3.cell (p := ⟨w.heap.size + 1, 1, none⟩) (by simp <;> omega); have e5 := hb3.cell (p := ⟨w.heap.size + 1, 2, none⟩) (by simp <;> omega); have HBk3 := Lib.hid (HBk.out.below hb3 HBk.out.lt); have HB3 := Lib.hid hb3; have g0 := HBk3.out.cell 0; have g1 := HBk3.out.cell 1; have g2 := HBk3.out.cell 2; have f0 := HBk3.out.frozen 0; have f1 := HBk3.out.frozen 1; have f2 := HBk3.out.frozen 2; simp only [List.getElem?_toArray, List.getElem?_cons_zero, List.getElem?_cons_succ] at g0 g1 g2))
    go_wp2
    refine bodyPost_ret (v := .agg #[.bool r, .int .u64 (k : Int), .string ⟨#[]⟩]) ?_ rfl ⟨rfl, ?_⟩
    · simp [results, Tryd.results28, go_sem, g0, g1, g2]
    · have hb := ((((Below.refl w.heap.size w).alloc (Nat.le_refl _) (.cells #[.bool true, .int .u64 (n : Int), .string ⟨#[]⟩] 28)).alloc (by simp) (.cells #[.bool false, .int .u64 (m : Int), .string ⟨#[]⟩] 28)).alloc (by simp <;> omega) (.cells #[.bool false, .int .u64 0, .string ⟨#[]⟩] 28)).drew
      have hb' := hb.trans (HB2.out.mono (by simp <;> omega))
      have hb'' := hb'.trans (HB3.out.mono hb'.size)
      exact ((hb''.setCell (by show w.heap.size ≤ w.heap.size + 1 + 1; omega) _).setCell (by show w.heap.size ≤ w.heap.size + 1 + 1; omega) _).setCell (by show w.heap.size ≤ w.heap.size + 1 + 1; omega) _
  · go_enter Tryd.func28, Tryd.ntmps28
    go_wp2
    go_region_held3 (fun w' => w'.cell? ⟨w.heap.size, 0, none⟩ = some (.bool true) ∧ w'.cell? ⟨w.heap.size, 1, none⟩ = some (.int .u64 (n : Int)) ∧ w'.cell? ⟨w.heap.size, 2, none⟩ = some (.string ⟨#[]⟩) ∧ w'.cell? ⟨w.heap.size + 1, 0, none⟩ = some (.bool true) ∧ w'.cell? ⟨w.heap.size + 1, 1, none⟩ = some (.int .u64 (m : Int)) ∧ w'.cell? ⟨w.heap.size + 1, 2, none⟩ = some (.string ⟨#[]⟩)) (simp [*, World.cell?_alloc_some, World.cell?_setCell_far, Nat.add_assoc])
      (first
        | (go_at_call 40; refine (HM.out _).mono ?_; rintro e w2 ⟨rfl, hb2⟩; have c0 := hb2.cell (p := ⟨w.heap.size, 0, none⟩) (by simp <;> omega); have c1 := hb2.cell (p := ⟨w.heap.size, 1, none⟩) (by simp <;> omega); have c2 := hb2.cell (p := ⟨w.heap.size, 2, none⟩) (by simp <;> omega); have c3 := hb2.cell (p := ⟨w.heap.size + 1, 0, none⟩) (by simp <;> omega); have c4 := hb2.cell (p := ⟨w.heap.size + 1, 1, none⟩) (by simp <;> omega); have c5 := hb2.cell (p := ⟨w.heap.size + 1, 2, none⟩) (by simp <;> omega); have hz2 : w.heap.size + 3 ≤ w2.heap.size := by { have := hb2.size; simp at this; omega }; have HBk : Hid (Blk w2 (w.heap.size + 2) 28 #[.bool false, .int .u64 0, .string ⟨#[]⟩]) := blk3d hb2; have HB2 := Lib.hid hb2)
        | (go_at_call 21; refine (HF.out _).mono ?_; rintro e w3 ⟨rfl, hb3⟩; have e0 := hb3.cell (p := ⟨w.heap.size, 0, none⟩) (by simp <;> omega); have e1 := hb3.cell (p := ⟨w.heap.size, 1, none⟩) (by simp <;> omega); have e2 := hb3.cell (p := ⟨w.heap.size, 2, none⟩) (by simp <;> omega); have e3 := hb3.cell (p := ⟨w.heap.size + 1, 0, none⟩) (by simp <;> omega); have e4 := hb3.cell (p := ⟨w.heap.size + 1, 1, none⟩) (by simp <;> omega); have e5 := hb3.cell (p := ⟨w.heap.size + 1, 2, none⟩) (by simp <;> omega); have HBk3 := Lib.hid (HBk.out.below hb3 HBk.out.lt); have HB3 := Lib.hid hb3; have g0 := HBk3.out.cell 0; have g1 := HBk3.out.cell 1; have g2 := HBk3.out.cell 2; have f0 := HBk3.out.frozen 0; have f1 := HBk3.out.frozen 1; have f2 := HBk3.out.frozen 2; simp only [List.getElem?_toArray, List.getElem?_cons_zero, List.getElem?_cons_succ] at g0 g1 g2))
    go_wp2
    refine bodyPost_ret (v := .agg #[.bool r, .int .u64 (k : Int), .string ⟨#[]⟩]) ?_ rfl ⟨rfl, ?_⟩
    · simp [results, Tryd.results28, go_sem, g0, g1, g2]
    · have hb := ((((Below.refl w.heap.size w).alloc (Nat.le_refl _) (.cells #[.bool true, .int .u64 (n : Int), .string ⟨#[]⟩] 28)).alloc (by simp) (.cells #[.bool true, .int .u64 (m : Int), .string ⟨#[]⟩] 28)).alloc (by simp <;> omega) (.cells #[.bool false, .int .u64 0, .string ⟨#[]⟩] 28)).drew
      have hb' := hb.trans (HB2.out.mono (by simp <;> omega))
      have hb'' := hb'.trans (HB3.out.mono hb'.size)
      exact ((hb''.setCell (by show w.heap.size ≤ w.heap.size + 1 + 1; omega) _).setCell (by show w.heap.size ≤ w.heap.size + 1 + 1; omega) _).setCell (by show w.heap.size ≤ w.heap.size + 1 + 1; omega) _
end Go.Proofs.YtjohbgkdhppglaaDoor
