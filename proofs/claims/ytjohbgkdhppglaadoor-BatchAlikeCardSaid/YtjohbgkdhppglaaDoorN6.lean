/-
  The program's small numbers: Bits, From.
-/
import Derived.Test.YtjohbgkdhppglaaDoorN5
import Derived.Deep.RegionHeld3
namespace Go.Proofs.YtjohbgkdhppglaaDoor
open Go.RowKit

theorem nat_blk_new (w : World) (n : Nat) : Blk (w.alloc (.cells #[.int .u64 (n : Int), .string ⟨#[]⟩] 26)) w.heap.size 26 #[.int .u64 (n : Int), .string ⟨#[]⟩] := Blk.new w _ _

set_option maxHeartbeats 400000 in
theorem bits_any (n : Nat) (w : World) (hn : n < 18446744073709551616) :
    Calls Tryd.prog 25 #[.agg #[.int .u64 (n : Int), .string ⟨#[]⟩]] w fun e w' => e = .returned (.int .i64 (bl n : Int)) ∧ w' = w.alloc (.cells #[.int .u64 (n : Int), .string ⟨#[]⟩] 26) := by
  go_enter Tryd.func25, Tryd.ntmps25
  go_wp2_with (go_at_call 37; refine (len64_any n _ hn).mono ?_; rintro e w' ⟨rfl, rfl⟩)
  go_ret
  exact ⟨rfl, rfl⟩

theorem bl_gt (n : Nat) : decide ((0 : Int) < (bl n : Int)) = decide (0 < n) := by
  by_cases h : n = 0
  · subst h; rfl
  · rw [decide_eq_true (by have := bl_pos (n := n) (by omega); omega), decide_eq_true (by omega)]

set_option maxHeartbeats 1000000 in
theorem from_any (neg : Bool) (n : Nat) (w : World) (hn : n < 18446744073709551616) :
    Calls Tryd.prog 21 #[.bool neg, .agg #[.int .u64 (n : Int), .string ⟨#[]⟩]] w fun e w' => e = .returned (.agg #[.bool (neg && decide (0 < n)), .int .u64 (n : Int), .string ⟨#[]⟩]) ∧ Below w.heap.size w w' := by
  rw [← bl_gt]
  cases neg
  · go_enter Tryd.func21, Tryd.ntmps21
    go_wp2
    go_region
    go_wp2
    exact bodyPost_ret (v := .agg #[.bool (false && decide ((0 : Int) < (bl n : Int))), .int .u64 (n : Int), .string ⟨#[]⟩]) (by simp [results, Tryd.results21, go_sem]) rfl ⟨rfl, (by repeat (first | exact Below.refl _ _ | refine Below.drew ?_ | refine Below.alloc ?_ (by simp; done) _ | refine Below.alloc ?_ (by simp; omega) _ | refine Below.setCell ?_ (by simp; done) _ | refine Below.setCell ?_ (by simp; omega) _))⟩
  · go_enter Tryd.func21, Tryd.ntmps21
    go_wp2
    go_region_held3 (fun w' => w'.cell? ⟨w.heap.size, 0, none⟩ = some (.int .u64 (n : Int)) ∧ w'.cell? ⟨w.heap.size, 1, none⟩ = some (.string ⟨#[]⟩)) (go_keep) (first | (go_at_call 25; refine (bits_any n _ hn).mono ?_; rintro e w' ⟨rfl, rfl⟩))
    go_wp2
    exact bodyPost_ret (v := .agg #[.bool (true && decide ((0 : Int) < (bl n : Int))), .int .u64 (n : Int), .string ⟨#[]⟩]) (by simp [results, Tryd.results21, go_sem]) rfl ⟨rfl, ((((Below.refl _ _).alloc (Nat.le_refl _) _).alloc (by simp) _).alloc (by simp; omega) _).drew⟩

theorem RN.drew {w : World} {v : Value} {n : Nat} (h : RN w v n) : RN w.drew v n := h.below ⟨rfl, rfl, rfl, Nat.le_refl _, fun _ _ => rfl⟩
/- The program's whole numbers, small. -/
theorem Tryd.infoInt2 : (Tryd.prog.info? 28).map (·.size) = some 3 := by kernel_rfl
theorem int_cells (b : Bool) (n : Int) : (#[.bool b, .int .u64 n, .string ⟨#[]⟩] : Array Value).all (fun x => x.oneCell') = true := by simp [Value.oneCell']

theorem blk2d {w w2 : World} {x : Obj} {t : TypeId} {cs : Array Value} (h : Below ((w.alloc x).alloc (.cells cs t)).drew.heap.size ((w.alloc x).alloc (.cells cs t)).drew w2) : Blk w2 (w.heap.size + 1) t cs := by
  have h0 : Blk ((w.alloc x).alloc (.cells cs t)) (w.heap.size + 1) t cs := by
    have := Blk.new (w.alloc x) t cs; simpa using this
  exact Blk.below (w := ((w.alloc x).alloc (.cells cs t)).drew) h0 h h0.lt
set_option maxHeartbeats 1000000 in
theorem handInt_any (neg : Bool) (v : Value) (n : Nat) (w : World) (hv : RN w v n) (h256 : n < 256) :
    Calls Tryd.prog 20 #[.agg #[.bool neg, v]] w fun e w' => e = .returned (.agg #[.bool (neg && decide (0 < n)), .int .u64 (n : Int), .string ⟨#[]⟩]) ∧ Below w.heap.size w w' := by
  obtain ⟨A, c, hvv⟩ := hv.len
  have HV := Lib.hid hv
  clear hv
  generalize ln n = k at hvv
  subst hvv
  obtain ⟨bb, HBB⟩ : ∃ bb, Hid ((neg && decide (0 < n)) = bb) := ⟨_, rfl⟩
  rw [HBB.out]
  have HR := Lib.hid ((HV.out.alloc (.cells #[.bool neg, .slice A k c] 44)).alloc (.cells #[.bool false, .int .u64 0, .string ⟨#[]⟩] 28))
  go_enter Tryd.func20, Tryd.ntmps20
  go_wp2
  go_region_held3 (fun w' => w'.cell? ⟨w.heap.size, 0, none⟩ = some (.bool neg) ∧ w'.cell? ⟨w.heap.size, 1, none⟩ = some (.slice A k c)) (go_keep)
    (first
      | (go_at_call 22; refine (handNat_any _ n _ (by exact HR.out.drew) h256).mono ?_; rintro e w2 ⟨rfl, hb2⟩; have c0 := hb2.cell (p := ⟨w.heap.size, 0, none⟩) (by simp; omega); have c1 := hb2.cell (p := ⟨w.heap.size, 1, none⟩) (by simp; omega); have hz2 : w.heap.size + 2 ≤ w2.heap.size := by { have := hb2.size; simp at this; omega }; have HBk : Hid (Blk w2 (w.heap.size + 1) 28 #[.bool false, .int .u64 0, .string ⟨#[]⟩]) := blk2d hb2; have HB2 := Lib.hid hb2)
      | (go_at_call 21; refine (from_any neg n _ (by omega)).mono ?_; rintro e w3 ⟨rfl, hb3⟩; rw [HBB.out]; have e0 := hb3.cell (p := ⟨w.heap.size, 0, none⟩) (by simp; omega); have e1 := hb3.cell (p := ⟨w.heap.size, 1, none⟩) (by simp; omega); have HBk3 := Lib.hid (HBk.out.below hb3 HBk.out.lt); have HB3 := Lib.hid hb3; have g0 := HBk3.out.cell 0; have g1 := HBk3.out.cell 1; have g2 := HBk3.out.cell 2; have f0 := HBk3.out.frozen 0; have f1 := HBk3.out.frozen 1; have f2 := HBk3.out.frozen 2; simp only [List.getElem?_toArray, List.getElem?_cons_zero, List.getElem?_cons_succ] at g0 g1 g2))
  go_wp2
  refine bodyPost_ret (v := .agg #[.bool bb, .int .u64 (n : Int), .string ⟨#[]⟩]) ?_ rfl ⟨rfl, ?_⟩
  · simp [results, Tryd.results20, go_sem, g0, g1, g2]
  · have hb := (((Below.refl w.heap.size w).alloc (Nat.le_refl _) (.cells #[.bool neg, .slice A k c] 44)).alloc (by simp) (.cells #[.bool false, .int .u64 0, .string ⟨#[]⟩] 28)).drew
    have hb' := hb.trans (HB2.out.mono (by simp; omega))
    have hb'' := hb'.trans (HB3.out.mono hb'.size)
    exact ((hb''.setCell (by simp) _).setCell (by simp) _).setCell (by simp) _
end Go.Proofs.YtjohbgkdhppglaaDoor
