/-
  The reference's small fractions: Make, Over.
-/
import Derived.Test.YtjohbgkdhppglaaDoorN2
namespace Go.Proofs.YtjohbgkdhppglaaDoor
open Go.RowKit

theorem Tryd.infoRefQ : (Tryd.prog.info? 46).map (·.size) = some 3 := by kernel_rfl
theorem three_cells {b : Bool} {u v : Value} (hu : u.oneCell' = true) (hv : v.oneCell' = true) : (#[.bool b, u, v] : Array Value).all (fun x => x.oneCell') = true := by
  simp only [List.all_toArray, List.all_cons, List.all_nil, hu, hv]; rfl
theorem noU32_three (b : Bool) (A B : Option Addr) (n c m d : Nat) : noU32 #[.bool b, .slice A n c, .slice B m d] := by
  intro i k
  match i with
  | 0 => simp
  | 1 => simp
  | 2 => simp
  | i + 3 => simp

set_option maxHeartbeats 1000000 in
theorem refMake_any (neg neg2 : Bool) (v1 v2 : Value) (n m : Nat) (w : World) (h1 : RN w v1 n) (h2 : RN w v2 m) (hm : 0 < m) :
    Calls Tryd.prog 35 #[.agg #[.bool neg, v1], .agg #[.bool neg2, v2]] w fun e w' => ∃ qa qb, e = .returned (.agg #[.bool ((neg != neg2) && decide (0 < n / Nat.gcd n m)), qa, qb]) ∧ RN w' qa (n / Nat.gcd n m) ∧ RN w' qb (m / Nat.gcd n m) ∧ Below w.heap.size w w' := by
  have hg : 0 < Nat.gcd n m := Nat.gcd_pos_of_pos_right n hm
  obtain ⟨g, HG⟩ : ∃ g, Hid (Nat.gcd n m = g) := ⟨_, rfl⟩
  rw [HG.out] at hg ⊢
  obtain ⟨bb, HBB⟩ : ∃ bb, Hid (((neg != neg2) && decide (0 < n / g)) = bb) := ⟨_, rfl⟩
  rw [HBB.out]
  obtain ⟨w0, hw0⟩ : ∃ w0, w0 = (((w.alloc (.cells #[.bool neg, v1] 44)).alloc (.cells #[.bool neg2, v2] 44)).alloc (.cells #[.bool false, .slice none 0 0, .slice none 0 0] 46)) := ⟨_, rfl⟩
  have B1 : Blk w0 w.heap.size 44 #[.bool neg, v1] := by rw [hw0]; exact ((Blk.new w _ _).alloc _).alloc _
  have B2 : Blk w0 (w.heap.size + 1) 44 #[.bool neg2, v2] := by rw [hw0]; have := (Blk.new (w.alloc (.cells #[.bool neg, v1] 44)) 44 #[.bool neg2, v2]).alloc (.cells #[.bool false, .slice none 0 0, .slice none 0 0] 46); simpa using this
  have B3 : Blk w0 (w.heap.size + 1 + 1) 46 #[.bool false, .slice none 0 0, .slice none 0 0] := by rw [hw0]; have := Blk.new ((w.alloc (.cells #[.bool neg, v1] 44)).alloc (.cells #[.bool neg2, v2] 44)) 46 #[.bool false, .slice none 0 0, .slice none 0 0]; simpa using this
  have hz0 : w0.heap.size = w.heap.size + 3 := by rw [hw0]; simp
  have hb0 : Below w.heap.size w w0 := by rw [hw0]; exact (((Below.refl _ _).alloc (Nat.le_refl _) _).alloc (by simp) _).alloc (by simp; omega) _
  have r1 := h1.below hb0
  have r2 := h2.below hb0
  have one1 := h1.one
  have one2 := h2.one
  have HW0 := Lib.hid hw0
  have HGC := natGcd_any v1 v2 n m w0 r1 r2
  rw [HG.out] at HGC
  replace HGC := Lib.hid HGC
  have R1 := Lib.hid r1
  have R2 := Lib.hid r2
  have BB1 := Lib.hid B1
  have BB2 := Lib.hid B2
  have BB3 := Lib.hid B3
  have HB0 := Lib.hid hb0
  have hz0' : w.heap.size + 3 ≤ w0.heap.size := by omega
  clear hw0 h1 h2 r1 r2 B1 B2 B3 hb0 hz0
  go_enter Tryd.func35, Tryd.ntmps35
  go_wp2_with fail
  rw [← HW0.out]
  refine HGC.out.mono ?_
  rintro e w2 ⟨vg, rfl, hvg, hb2⟩
  have C1 := Lib.hid (BB1.out.below hb2 BB1.out.lt)
  have C2 := Lib.hid (BB2.out.below hb2 BB2.out.lt)
  have C3 := Lib.hid (BB3.out.below hb2 BB3.out.lt)
  have RG := Lib.hid hvg
  have S1 := Lib.hid (R1.out.below hb2)
  have S2 := Lib.hid (R2.out.below hb2)
  have HB2 := Lib.hid (HB0.out.trans (hb2.mono HB0.out.size))
  have c11 : w2.cell? ⟨w.heap.size, 1, none⟩ = some v1 := C1.out.cell 1
  clear hvg hb2
  go_wp2_with fail
  refine (natDiv_any v1 vg n g w2 S1.out RG.out hg).mono ?_
  rintro e w3 ⟨qa, ra, rfl, hqa, _, hb3⟩
  have D1 := Lib.hid (C1.out.below hb3 C1.out.lt)
  have D2 := Lib.hid (C2.out.below hb3 C2.out.lt)
  have D3 := Lib.hid (C3.out.below hb3 C3.out.lt)
  have QA := Lib.hid hqa
  have RG3 := Lib.hid (RG.out.below hb3)
  have T2 := Lib.hid (S2.out.below hb3)
  have HB3 := Lib.hid (HB2.out.trans (hb3.mono HB2.out.size))
  have d21 : w3.cell? ⟨w.heap.size + 1, 1, none⟩ = some v2 := D2.out.cell 1
  clear hqa hb3 c11
  go_wp2_with fail
  refine (natDiv_any v2 vg m g w3 T2.out RG3.out hg).mono ?_
  rintro e w4 ⟨qb, rb, rfl, hqb, _, hb4⟩
  have E1 := Lib.hid (D1.out.below hb4 D1.out.lt)
  have E2 := Lib.hid (D2.out.below hb4 D2.out.lt)
  have E3 := Lib.hid (D3.out.below hb4 D3.out.lt)
  have QB := Lib.hid hqb
  have QA4 := Lib.hid (QA.out.below hb4)
  have HB4 := Lib.hid (HB3.out.trans (hb4.mono HB3.out.size))
  have e10 : w4.cell? ⟨w.heap.size, 0, none⟩ = some (.bool neg) := E1.out.cell 0
  have e20 : w4.cell? ⟨w.heap.size + 1, 0, none⟩ = some (.bool neg2) := E2.out.cell 0
  clear hqb hb4 d21
  obtain ⟨Ab, cb, hqbv⟩ := QB.out.len
  generalize ln (m / g) = kb at hqbv
  subst hqbv
  go_wp2_with fail
  refine (i_any (neg != neg2) qa (n / g) w4 QA4.out).mono ?_
  rintro e w5 ⟨rfl, hb5⟩
  rw [HBB.out]
  have F3 := Lib.hid (E3.out.below hb5 E3.out.lt)
  have QA5 := Lib.hid (QA4.out.below hb5)
  have QB5 := Lib.hid (QB.out.below hb5)
  have HB5 := Lib.hid (HB4.out.trans (hb5.mono HB4.out.size))
  clear hb5 e10 e20
  go_wp2_with (refine wpList_store_row rfl 46 (.tmp 4) (.tmp 37) rfl (w.heap.size + 1 + 1) #[.bool bb, qa, .slice Ab kb cb] rfl rfl 46 _ F3.out Tryd.infoRefQ rfl (three_cells QA5.out.one QB5.out.one) ?_)
  refine bodyPost_ret (v := .agg #[.bool bb, qa, .slice Ab kb cb]) ?_ rfl ⟨qa, .slice Ab kb cb, rfl, ?_, ?_, ?_⟩
  · exact results_cell_row (p := 4) rfl _ _ (w.heap.size + 1 + 1) 46 #[.bool bb, qa, .slice Ab kb cb] (0, 0) _ rfl (setRow_heap _ _ _ _ _ _ F3.out) Tryd.underlying46 rfl Tryd.infoRefQ
  · exact QA5.out.setRow F3.out (noU32_three _ _ _ _ _ _ _) _
  · exact QB5.out.setRow F3.out (noU32_three _ _ _ _ _ _ _) _
  · exact below_setRow HB5.out (by omega) _

set_option maxHeartbeats 1000000 in
theorem over_any (n m : Int) (w : World) (h1 : -4294967296 < n) (h2 : n < 4294967296) (h3 : 0 < m) (h4 : m < 4294967296) :
    Calls Tryd.prog 23 #[.int .i64 n, .int .i64 m] w fun e w' => ∃ qa qb, e = .returned (.agg #[.bool (decide (n < 0)), qa, qb]) ∧ RN w' qa (n.natAbs / Nat.gcd n.natAbs m.natAbs) ∧ RN w' qb (m.natAbs / Nat.gcd n.natAbs m.natAbs) ∧ Below w.heap.size w w' := by
  have hm : 0 < m.natAbs := by omega
  have HD : Hid (((decide (n < 0) != decide (m < 0)) && decide (0 < n.natAbs / Nat.gcd n.natAbs m.natAbs)) = decide (n < 0)) := by
    show _ = _
    rw [decide_eq_false (p := m < 0) (by omega)]
    by_cases hn : n < 0
    · rw [decide_eq_true hn, decide_eq_true]
      · rfl
      · exact Nat.div_pos (Nat.le_of_dvd (by omega) (Nat.gcd_dvd_left _ _)) (Nat.gcd_pos_of_pos_right _ hm)
    · rw [decide_eq_false hn]; simp
  have HM := fun (v1 v2 : Value) (W : World) h1 h2 => refMake_any (decide (n < 0)) (decide (m < 0)) v1 v2 n.natAbs m.natAbs W h1 h2 hm
  rw [HD.out] at HM
  replace HM := Lib.hid HM
  have HN := Lib.hid (fun W => intOf_any n W h1 h2)
  have HMM := Lib.hid (fun W => intOf_any m W (by omega) h4)
  generalize n.natAbs / Nat.gcd n.natAbs m.natAbs = x at HM ⊢
  generalize m.natAbs / Nat.gcd n.natAbs m.natAbs = y at HM ⊢
  generalize decide (n < 0) = bn at HM HN ⊢
  generalize decide (m < 0) = bm at HM HMM ⊢
  clear HD h1 h2 h3 h4
  go_enter Tryd.func23, Tryd.ntmps23
  go_wp2_with fail
  refine (HN.out _).mono ?_
  rintro e w2 ⟨v1, rfl, hv1, hb2⟩
  have C3 : Hid (Blk w2 w.heap.size 46 #[.bool false, .slice none 0 0, .slice none 0 0]) := Blk.below (Blk.new w _ _) hb2 (by simp)
  have R1 := Lib.hid hv1
  have HB2 := Lib.hid (((Below.refl w.heap.size w).alloc (Nat.le_refl _) _).trans (hb2.mono (by simp)))
  clear hv1 hb2
  go_wp2_with fail
  refine (HMM.out _).mono ?_
  rintro e w3 ⟨v2, rfl, hv2, hb3⟩
  have D3 := Lib.hid (C3.out.below hb3 C3.out.lt)
  have R2 := Lib.hid hv2
  have S1 := Lib.hid (R1.out.below hb3)
  have HB3 := Lib.hid (HB2.out.trans (hb3.mono HB2.out.size))
  clear hv2 hb3
  go_wp2_with fail
  refine (HM.out v1 v2 w3 S1.out R2.out).mono ?_
  rintro e w4 ⟨qa, qb, rfl, ha, hb, hb4⟩
  have E3 := Lib.hid (D3.out.below hb4 D3.out.lt)
  have QA := Lib.hid ha
  have QB := Lib.hid hb
  have HB4 := Lib.hid (HB3.out.trans (hb4.mono HB3.out.size))
  clear ha hb hb4
  go_wp2_with (refine wpList_store_row rfl 46 (.tmp 4) (.tmp 9) rfl w.heap.size #[.bool bn, qa, qb] rfl rfl 46 _ E3.out Tryd.infoRefQ rfl (three_cells QA.out.one QB.out.one) ?_)
  refine bodyPost_ret (v := .agg #[.bool bn, qa, qb]) ?_ rfl ⟨qa, qb, rfl, ?_, ?_, ?_⟩
  · exact results_cell_row (p := 4) rfl _ _ w.heap.size 46 #[.bool bn, qa, qb] (0, 0) _ rfl (setRow_heap _ _ _ _ _ _ E3.out) Tryd.underlying46 rfl Tryd.infoRefQ
  · exact QA.out.setRow E3.out (noU32_three _ _ _ _ _ _ _) _
  · exact QB.out.setRow E3.out (noU32_three _ _ _ _ _ _ _) _
  · exact below_setRow HB4.out (Nat.le_refl _) _
end Go.Proofs.YtjohbgkdhppglaaDoor
