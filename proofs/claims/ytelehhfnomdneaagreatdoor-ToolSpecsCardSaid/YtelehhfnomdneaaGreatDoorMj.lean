/-
  ToolSpecs: the plain Spec, walked.
  And: 
-/
import Derived.Test.YtelehhfnomdneaaGreatDoorMi
import Derived.Test.YtelehhfnomdneaaGreatDoorMh
namespace Go.Proofs.YtelehhfnomdneaaGreatDoor.Sp
open Go Go.RowKit Ut Tc

section
variable {w : World} {A : Option Addr} {n c : Nat} {bs : List ByteArray} {t0 t1 t2 : Wd} {os : List (Option (Wd × Wd))}
set_option maxHeartbeats 60000000 in
set_option maxRecDepth 100000 in
theorem sspec_main (h : WIn w A n c bs t0 t1 t2 os) :
    Calls Tryz.prog 7 #[.slice A n c] w fun e w' => SSpecOut w t0 t1 t2 os ⟨zL⟩ e w' := by
  obtain ⟨g, rfl, hgl, hnc, hcell⟩ := h.at_
  have HC := Lib.hid hcell
  have hno := h.ol
  have HNO := Lib.hid hno
  have h9 := h.n9
  have hn3 : 3 ≤ n := by omega
  have hi0 : 0 < n := by omega
  have hi1 : 1 < n := by omega
  have hi2 : 2 < n := by omega
  have hj0 : (0 : Int) < (n : Int) := by omega
  have hj1 : (1 : Int) < (n : Int) := by omega
  have hj2 : (2 : Int) < (n : Int) := by omega
  obtain ⟨KD, hkd, HKD⟩ : ∃ KD : Nat, Hid (whichN t0 kindsW = KD) ∧ Hid (KD = (pickP t0 kindsCh).getD 0 ∧ (pickP t0 kindsCh).isSome = decide (0 < KD) ∧ KD < 100) := ⟨_, rfl, kinds_which t0 h.m0⟩
  have HW : Hid (∀ (W : World) (g : Nat), Blk W g 9 ⟨kindsW.map sv⟩ → Calls Tryz.prog 16 #[.slice (some ⟨g, 0, none⟩) 9 9, .string ⟨⟨t0⟩⟩] W fun e w' => e = .returned (.int .i64 (KD : Int)) ∧ W = w') := Lib.hid fun W g hW => by
    have := which_any (StrIn.of_blk hW) (n := 9) (c := 9) rfl (by decide) t0
    rw [hkd.out] at this
    exact this
  have HCU : Hid (∀ W, Calls Tryz.prog 17 #[.string ⟨⟨t2⟩⟩, .int .u8 44] W fun e w' => ∃ v, e = .returned v ∧ w'.ownsRow W.heap.size 9 1 v (cuts [] t2).length ((cuts [] t2).map sv) ∧ Below W.heap.size W w') := Lib.hid fun W => parts_any W (List.mem_append_left _ h.m2)
  have HIN : Hid (∀ W, Calls Tryz.prog 18 #[.string ⟨⟨t1⟩⟩] W fun e w' => e = .returned (.bool (isNm t1)) ∧ Below W.heap.size W w') := Lib.hid fun W => isname_any W h.m1
  obtain ⟨i0, hi0', hz0', hz1', hz2'⟩ := info_parts infoStr
  have HI := Lib.hid hi0'
  have HZ0 := Lib.hid hz0'
  have HZ1' := Lib.hid hz1'
  have HZ2 := Lib.hid hz2'
  clear hi0' hz0' hz1' hz2'
  obtain ⟨i1, hi0', hz0', hz1', hz2'⟩ := info_parts infoInt
  have JI := Lib.hid hi0'
  have JZ0 := Lib.hid hz0'
  have JZ1 := Lib.hid hz1'
  have JZ2 := Lib.hid hz2'
  clear hi0' hz0' hz1' hz2'
  have HCN := Lib.hid (parts_names t2 h.m2)
  have HCL := Lib.hid (parts_len t2 (List.mem_append_left _ h.m2))
  have HOS := Lib.hid h.os
  obtain ⟨hz, hzs, hz1⟩ := zL_facts
  generalize (⟨zL⟩ : Array Value) = z at hz hzs hz1 ⊢
  have HZS := Lib.hid hzs
  have HZ1 := Lib.hid hz1
  clear h hkd hcell hzs hz1 hno
  go_enter Tryz.func7, Tryz.ntmps7
  obtain ⟨cc0, cc1, cc2, _⟩ := HC.out _ (Below.refl _ _)
  have hd : decide ((n : Int) < 3) = false := decide_eq_false (by omega)
  go_upto_region 3 with fail
  clear hd
  go_cut [4] from 28 to 40 (fun v4 wx => ∃ (gs : Nat) (cols : Value), v4 = .pointer (some ⟨gs, 0, none⟩) ∧ Hid (Below w.heap.size w wx ∧ Blk wx w.heap.size 42 z ∧ Blk wx gs 42 ⟨stS KD (.string ⟨⟨t1⟩⟩) cols (.slice none 0 0) z0 q0⟩ ∧ w.heap.size < gs ∧ wx.ownsRow (w.heap.size + 1) 9 1 cols (cuts [] t2).length ((cuts [] t2).map sv)))
  case first =>
    have hzl : ∀ W, (zeroValue 42).run Tryz.prog W = .ok (.agg #[.int .i64 0, .int .i64 0, .int .i64 0, .int .i64 0, .string ⟨⟨[]⟩⟩, .slice none 0 0, .int .u64 0, .bool false, .int .u64 0, .string ⟨⟨[]⟩⟩, .int .u64 0, .string ⟨⟨[]⟩⟩, .bool false, .int .u64 0, .string ⟨⟨[]⟩⟩, .int .u64 0, .string ⟨⟨[]⟩⟩, .int .i64 0, .int .i64 0, .bool false, .int .u64 0, .string ⟨⟨[]⟩⟩, .int .u64 0, .string ⟨⟨[]⟩⟩, .int .i64 0, .int .i64 0, .int .u64 0, .int .i64 0, .int .i64 0, .bool false, .int .u64 0, .string ⟨⟨[]⟩⟩, .int .u64 0, .string ⟨⟨[]⟩⟩, .int .i64 0, .int .i64 0, .bool false, .int .u64 0, .string ⟨⟨[]⟩⟩, .int .u64 0, .string ⟨⟨[]⟩⟩, .bool false, .int .u64 0, .string ⟨⟨[]⟩⟩, .int .u64 0, .string ⟨⟨[]⟩⟩, .int .i64 0, .int .i64 0, .bool false, .int .u64 0, .string ⟨⟨[]⟩⟩, .int .u64 0, .string ⟨⟨[]⟩⟩, .slice none 0 0, .int .i64 0, .int .i64 0, .bool false, .int .u64 0, .string ⟨⟨[]⟩⟩, .int .u64 0, .string ⟨⟨[]⟩⟩, .bool false, .int .u64 0, .string ⟨⟨[]⟩⟩, .int .u64 0, .string ⟨⟨[]⟩⟩, .int .i64 0, .int .i64 0, .int .i64 0, .int .u64 0]) W := zSpec
    have HZB : Hid (Blk (w.alloc (.cells z 42)) w.heap.size 42 z) := Blk.new w _ _
    have HZW : Hid (Below w.heap.size w (w.alloc (.cells z 42))) := (Below.refl _ _).alloc (Nat.le_refl _) _
    have HZN : Hid ((w.alloc (.cells z 42)).heap.size = w.heap.size + 1) := World.size_alloc w _
    have c0 := (HC.out _ HZW.out).1
    have c1 := (HC.out _ HZW.out).2.1
    have c2 := (HC.out _ HZW.out).2.2.1
    clear hz cc0 cc1 cc2
    generalize World.alloc w (Obj.cells z 42) = W0 at *
    have := World.new_ne W0 _ c0
    have := World.new_ne W0 _ c1
    have := World.new_ne W0 _ c2
    have HZL7 : Hid ((#[.int .i64 0, .int .i64 0, .int .i64 0, .int .i64 0, .string ⟨⟨[]⟩⟩, .slice none 0 0, .int .u64 0, .bool false, .int .u64 0, .string ⟨⟨[]⟩⟩, .int .u64 0, .string ⟨⟨[]⟩⟩, .bool false, .int .u64 0, .string ⟨⟨[]⟩⟩, .int .u64 0, .string ⟨⟨[]⟩⟩, .int .i64 0, .int .i64 0, .bool false, .int .u64 0, .string ⟨⟨[]⟩⟩, .int .u64 0, .string ⟨⟨[]⟩⟩, .int .i64 0, .int .i64 0, .int .u64 0, .int .i64 0, .int .i64 0, .bool false, .int .u64 0, .string ⟨⟨[]⟩⟩, .int .u64 0, .string ⟨⟨[]⟩⟩, .int .i64 0, .int .i64 0, .bool false, .int .u64 0, .string ⟨⟨[]⟩⟩, .int .u64 0, .string ⟨⟨[]⟩⟩, .bool false, .int .u64 0, .string ⟨⟨[]⟩⟩, .int .u64 0, .string ⟨⟨[]⟩⟩, .int .i64 0, .int .i64 0, .bool false, .int .u64 0, .string ⟨⟨[]⟩⟩, .int .u64 0, .string ⟨⟨[]⟩⟩, .slice none 0 0, .int .i64 0, .int .i64 0, .bool false, .int .u64 0, .string ⟨⟨[]⟩⟩, .int .u64 0, .string ⟨⟨[]⟩⟩, .bool false, .int .u64 0, .string ⟨⟨[]⟩⟩, .int .u64 0, .string ⟨⟨[]⟩⟩, .int .i64 0, .int .i64 0, .int .i64 0, .int .u64 0] : Array Value).size = 70) := rfl
    have hFIN : ∀ (A5 : Option Addr) (c5 : Nat), Hid ((⟨stS KD (.string ⟨⟨t1⟩⟩) (.slice A5 (cuts [] t2).length c5) (.slice none 0 0) z0 q0⟩ : Array Value).size = 70 ∧ (⟨stS KD (.string ⟨⟨t1⟩⟩) (.slice A5 (cuts [] t2).length c5) (.slice none 0 0) z0 q0⟩ : Array Value).all (·.oneCell') = true) := fun A5 c5 => ⟨rfl, by rw [← Array.all_toList]; rfl⟩
    have HFIN := Lib.hid hFIN
    clear hFIN
    refine wp_region_held_drew (S := fun w' => w'.cell? ⟨g, 0, none⟩ = some (.string ⟨⟨t0⟩⟩) ∧ w'.cell? ⟨g, 1, none⟩ = some (.string ⟨⟨t1⟩⟩) ∧ w'.cell? ⟨g, 2, none⟩ = some (.string ⟨⟨t2⟩⟩)) (by kernel_rfl) ⟨c0, c1, c2⟩ (fun hHeld => ?_)
    refine wpAnyH_take (i := 1) (oi := _) (v := ?_) rfl (by kernel_rfl) (by kernel_rfl) (by kernel_rfl) (fun _ _ _ h => h) (Or.inl ⟨by rfl, ?_⟩) (by assumption) ?_
    rotate_left
    · (intro w' hSw; (try dsimp only at hSw); (try simp only [List.getElem_toArray, List.getElem_cons_zero, List.getElem_cons_succ]); go_split_ands; go_simp; try (with_reducible rfl))
    try simp only [Act.put, List.setIfInBounds_toArray, List.set_cons_zero, List.set_cons_succ, List.getElem_toArray, List.getElem_cons_zero, List.getElem_cons_succ]
    refine wpAnyH_take (i := 2) (oi := _) (v := ?_) rfl (by kernel_rfl) (by kernel_rfl) (by kernel_rfl) (fun _ _ _ h => h) (Or.inl ⟨by rfl, ?_⟩) (by assumption) ?_
    rotate_left
    · (intro w' hSw; (try dsimp only at hSw); (try simp only [List.getElem_toArray, List.getElem_cons_zero, List.getElem_cons_succ]); go_split_ands; go_simp; try (with_reducible rfl))
    try simp only [Act.put, List.setIfInBounds_toArray, List.set_cons_zero, List.set_cons_succ, List.getElem_toArray, List.getElem_cons_zero, List.getElem_cons_succ]
    refine wpAnyH_take (i := 3) (oi := _) (v := ?_) rfl (by kernel_rfl) (by kernel_rfl) (by kernel_rfl) (fun _ _ _ h => h) (Or.inl ⟨by rfl, ?_⟩) (by assumption) ?_
    rotate_left
    · (intro w' hSw; (try dsimp only at hSw); (try simp only [List.getElem_toArray, List.getElem_cons_zero, List.getElem_cons_succ]); go_split_ands; go_simp; try (with_reducible rfl))
    try simp only [Act.put, List.setIfInBounds_toArray, List.set_cons_zero, List.set_cons_succ, List.getElem_toArray, List.getElem_cons_zero, List.getElem_cons_succ]
    refine wpAnyH_take (i := 5) (oi := _) (v := ?_) rfl (by kernel_rfl) (by kernel_rfl) (by kernel_rfl) (fun _ _ _ h => h) (Or.inl ⟨by rfl, ?_⟩) (by assumption) ?_
    rotate_left
    · (intro w' hSw; (try dsimp only at hSw); (try simp only [List.getElem_toArray, List.getElem_cons_zero, List.getElem_cons_succ]); go_split_ands; go_simp; try (with_reducible rfl))
    try simp only [Act.put, List.setIfInBounds_toArray, List.set_cons_zero, List.set_cons_succ, List.getElem_toArray, List.getElem_cons_zero, List.getElem_cons_succ]
    refine wpAnyH_take (i := 6) (oi := _) (v := ?_) rfl (by kernel_rfl) (by kernel_rfl) (by kernel_rfl) (fun _ _ _ h => h) (Or.inl ⟨by rfl, ?_⟩) (by assumption) ?_
    rotate_left
    · (intro w' hSw; (try dsimp only at hSw); (try simp only [List.getElem_toArray, List.getElem_cons_zero, List.getElem_cons_succ]); go_split_ands; go_simp; try (with_reducible rfl))
    try simp only [Act.put, List.setIfInBounds_toArray, List.set_cons_zero, List.set_cons_succ, List.getElem_toArray, List.getElem_cons_zero, List.getElem_cons_succ]
    refine wpAnyH_take (i := 7) (oi := _) (v := ?_) rfl (by kernel_rfl) (by kernel_rfl) (by kernel_rfl) (fun _ _ _ h => h) (Or.inl ⟨by rfl, ?_⟩) (by assumption) ?_
    rotate_left
    · (intro w' hSw; (try dsimp only at hSw); (try simp only [List.getElem_toArray, List.getElem_cons_zero, List.getElem_cons_succ]); go_split_ands; go_simp; try (with_reducible rfl))
    try simp only [Act.put, List.setIfInBounds_toArray, List.set_cons_zero, List.set_cons_succ, List.getElem_toArray, List.getElem_cons_zero, List.getElem_cons_succ]
    refine wpAnyH_take (i := 8) (oi := _) (v := ?_) rfl (by kernel_rfl) (by kernel_rfl) (by kernel_rfl) (fun _ _ _ h => h) (Or.inl ⟨by rfl, ?_⟩) (by assumption) ?_
    rotate_left
    · (intro w' hSw; (try dsimp only at hSw); (try simp only [List.getElem_toArray, List.getElem_cons_zero, List.getElem_cons_succ]); go_split_ands; go_simp; try (with_reducible rfl))
    try simp only [Act.put, List.setIfInBounds_toArray, List.set_cons_zero, List.set_cons_succ, List.getElem_toArray, List.getElem_cons_zero, List.getElem_cons_succ]
    refine wpAnyH_take (i := 9) (oi := _) (v := ?_) rfl (by kernel_rfl) (by kernel_rfl) (by kernel_rfl) (fun _ _ _ h => h) (Or.inl ⟨by rfl, ?_⟩) (by assumption) ?_
    rotate_left
    · (intro w' hSw; (try dsimp only at hSw); (try simp only [List.getElem_toArray, List.getElem_cons_zero, List.getElem_cons_succ]); go_split_ands; go_simp; try (with_reducible rfl))
    try simp only [Act.put, List.setIfInBounds_toArray, List.set_cons_zero, List.set_cons_succ, List.getElem_toArray, List.getElem_cons_zero, List.getElem_cons_succ]
    refine wpAnyH_take (i := 10) (oi := _) (v := ?_) rfl (by kernel_rfl) (by kernel_rfl) (by kernel_rfl) (fun _ _ _ h => h) (Or.inl ⟨by rfl, ?_⟩) (by assumption) ?_
    rotate_left
    · (intro w' hSw; (try dsimp only at hSw); (try simp only [List.getElem_toArray, List.getElem_cons_zero, List.getElem_cons_succ]); go_split_ands; go_simp; try (with_reducible rfl))
    try simp only [Act.put, List.setIfInBounds_toArray, List.set_cons_zero, List.set_cons_succ, List.getElem_toArray, List.getElem_cons_zero, List.getElem_cons_succ]
    refine wpAnyH_ready (rs := [0, 13]) (by kernel_rfl) (by simp) ?_
    refine AllReadyH.cons rfl (fun K hK => ?_) (AllReadyH.cons rfl (fun K hK => ?_) AllReadyH.nil)
    · go_simp
      refine hK.out _ _ (by go_keep) (fun hHeld => ?_)
      clear hK K
      try simp only [Act.put, List.setIfInBounds_toArray, List.set_cons_zero, List.set_cons_succ, List.getElem_toArray, List.getElem_cons_zero, List.getElem_cons_succ]
      refine wpAnyH_ready (rs := [4, 13]) (by kernel_rfl) (by simp) ?_
      refine AllReadyH.cons rfl (fun K hK => ?_) (AllReadyH.cons rfl (fun K hK => ?_) AllReadyH.nil)
      · go_simp
        go_at_call 16
        refine (HW.out _ _ (by first | exact Blk.undrew (Blk.new _ _ _) | exact Blk.undrew ((Blk.new _ _ _).alloc _) | exact Blk.undrew (Blk.new_2 W0 _ _ _))).mono ?_
        rintro e w3 ⟨rfl, rfl⟩
        refine hK.out _ _ (by go_keep) (fun hHeld => ?_)
        clear hK K
        try simp only [Act.put, List.setIfInBounds_toArray, List.set_cons_zero, List.set_cons_succ, List.getElem_toArray, List.getElem_cons_zero, List.getElem_cons_succ]
        refine wpAnyH_ready (rs := [11, 13]) (by kernel_rfl) (by simp) ?_
        refine AllReadyH.cons rfl (fun K hK => ?_) (AllReadyH.cons rfl (fun K hK => ?_) AllReadyH.nil)
        · go_simp
          go_at_call 17
          refine (HCU.out _).mono ?_
          rintro e w4 ⟨v4, rfl, hrow, hb4⟩
          obtain ⟨A5, c5, rfl, _⟩ := own_slice hrow
          have hB4 : Hid (Below W0.heap.size W0 w4) := Lib.hid (by first | exact (((Below.refl _ W0).alloc (Nat.le_refl _) _).drew.trans (hb4.mono (by simp))) | exact ((((Below.refl _ W0).alloc (Nat.le_refl _) _).alloc (by simp) _).drew.trans (hb4.mono (by simp; omega))))
          have hR4 : Hid (w4.ownsRow (w.heap.size + 1) 9 1 (.slice A5 (cuts [] t2).length c5) (cuts [] t2).length ((cuts [] t2).map sv)) := Lib.hid (own_mono hrow (by have := HZN.out; simp; omega))
          have hBw4 : Hid (Below w.heap.size w w4) := Lib.hid (HZW.out.trans (hB4.out.mono HZW.out.size))
          obtain ⟨d0, d1, d2, _⟩ := HC.out _ hBw4.out
          have := World.new_ne w4 _ d0
          have := World.new_ne w4 _ d1
          have := World.new_ne w4 _ d2
          clear hrow hb4
          refine hK.out _ _ (by go_keep) (fun hHeld => ?_)
          clear hK K
          try simp only [Act.put, List.setIfInBounds_toArray, List.set_cons_zero, List.set_cons_succ, List.getElem_toArray, List.getElem_cons_zero, List.getElem_cons_succ]
          refine wpAnyH_take (i := 12) (oi := _) (v := ?_) rfl (by kernel_rfl) (by kernel_rfl) (by kernel_rfl) (fun _ _ _ h => h) (Or.inl ⟨by rfl, ?_⟩) (by assumption) ?_
          rotate_left
          · (intro w' hSw; (try dsimp only at hSw); (try simp only [List.getElem_toArray, List.getElem_cons_zero, List.getElem_cons_succ]); go_split_ands; go_simp; try (with_reducible rfl))
          try simp only [Act.put, List.setIfInBounds_toArray, List.set_cons_zero, List.set_cons_succ, List.getElem_toArray, List.getElem_cons_zero, List.getElem_cons_succ]
          refine wpAnyH_ready (rs := [13]) (by kernel_rfl) (by simp) ?_
          refine AllReadyH.cons rfl (fun K hK => ?_) AllReadyH.nil
          go_simp
          refine hK.out _ _ (by go_keep) (fun hHeld => ?_)
          clear hK K
          try simp only [Act.put, List.setIfInBounds_toArray, List.set_cons_zero, List.set_cons_succ, List.getElem_toArray, List.getElem_cons_zero, List.getElem_cons_succ]
          refine wpAnyH_ready (rs := [14]) (by kernel_rfl) (by simp) ?_
          refine AllReadyH.cons rfl (fun K hK => ?_) AllReadyH.nil
          have hG4 : Hid (Blk (w4.alloc (.cells #[.int .i64 0, .int .i64 0, .int .i64 0, .int .i64 0, .string ⟨⟨[]⟩⟩, .slice none 0 0, .int .u64 0, .bool false, .int .u64 0, .string ⟨⟨[]⟩⟩, .int .u64 0, .string ⟨⟨[]⟩⟩, .bool false, .int .u64 0, .string ⟨⟨[]⟩⟩, .int .u64 0, .string ⟨⟨[]⟩⟩, .int .i64 0, .int .i64 0, .bool false, .int .u64 0, .string ⟨⟨[]⟩⟩, .int .u64 0, .string ⟨⟨[]⟩⟩, .int .i64 0, .int .i64 0, .int .u64 0, .int .i64 0, .int .i64 0, .bool false, .int .u64 0, .string ⟨⟨[]⟩⟩, .int .u64 0, .string ⟨⟨[]⟩⟩, .int .i64 0, .int .i64 0, .bool false, .int .u64 0, .string ⟨⟨[]⟩⟩, .int .u64 0, .string ⟨⟨[]⟩⟩, .bool false, .int .u64 0, .string ⟨⟨[]⟩⟩, .int .u64 0, .string ⟨⟨[]⟩⟩, .int .i64 0, .int .i64 0, .bool false, .int .u64 0, .string ⟨⟨[]⟩⟩, .int .u64 0, .string ⟨⟨[]⟩⟩, .slice none 0 0, .int .i64 0, .int .i64 0, .bool false, .int .u64 0, .string ⟨⟨[]⟩⟩, .int .u64 0, .string ⟨⟨[]⟩⟩, .bool false, .int .u64 0, .string ⟨⟨[]⟩⟩, .int .u64 0, .string ⟨⟨[]⟩⟩, .int .i64 0, .int .i64 0, .int .i64 0, .int .u64 0] 42)) w4.heap.size 42 #[.int .i64 0, .int .i64 0, .int .i64 0, .int .i64 0, .string ⟨⟨[]⟩⟩, .slice none 0 0, .int .u64 0, .bool false, .int .u64 0, .string ⟨⟨[]⟩⟩, .int .u64 0, .string ⟨⟨[]⟩⟩, .bool false, .int .u64 0, .string ⟨⟨[]⟩⟩, .int .u64 0, .string ⟨⟨[]⟩⟩, .int .i64 0, .int .i64 0, .bool false, .int .u64 0, .string ⟨⟨[]⟩⟩, .int .u64 0, .string ⟨⟨[]⟩⟩, .int .i64 0, .int .i64 0, .int .u64 0, .int .i64 0, .int .i64 0, .bool false, .int .u64 0, .string ⟨⟨[]⟩⟩, .int .u64 0, .string ⟨⟨[]⟩⟩, .int .i64 0, .int .i64 0, .bool false, .int .u64 0, .string ⟨⟨[]⟩⟩, .int .u64 0, .string ⟨⟨[]⟩⟩, .bool false, .int .u64 0, .string ⟨⟨[]⟩⟩, .int .u64 0, .string ⟨⟨[]⟩⟩, .int .i64 0, .int .i64 0, .bool false, .int .u64 0, .string ⟨⟨[]⟩⟩, .int .u64 0, .string ⟨⟨[]⟩⟩, .slice none 0 0, .int .i64 0, .int .i64 0, .bool false, .int .u64 0, .string ⟨⟨[]⟩⟩, .int .u64 0, .string ⟨⟨[]⟩⟩, .bool false, .int .u64 0, .string ⟨⟨[]⟩⟩, .int .u64 0, .string ⟨⟨[]⟩⟩, .int .i64 0, .int .i64 0, .int .i64 0, .int .u64 0]) := Lib.hid (Blk.new w4 _ _)
          have hR4b : Hid ((w4.alloc (.cells #[.int .i64 0, .int .i64 0, .int .i64 0, .int .i64 0, .string ⟨⟨[]⟩⟩, .slice none 0 0, .int .u64 0, .bool false, .int .u64 0, .string ⟨⟨[]⟩⟩, .int .u64 0, .string ⟨⟨[]⟩⟩, .bool false, .int .u64 0, .string ⟨⟨[]⟩⟩, .int .u64 0, .string ⟨⟨[]⟩⟩, .int .i64 0, .int .i64 0, .bool false, .int .u64 0, .string ⟨⟨[]⟩⟩, .int .u64 0, .string ⟨⟨[]⟩⟩, .int .i64 0, .int .i64 0, .int .u64 0, .int .i64 0, .int .i64 0, .bool false, .int .u64 0, .string ⟨⟨[]⟩⟩, .int .u64 0, .string ⟨⟨[]⟩⟩, .int .i64 0, .int .i64 0, .bool false, .int .u64 0, .string ⟨⟨[]⟩⟩, .int .u64 0, .string ⟨⟨[]⟩⟩, .bool false, .int .u64 0, .string ⟨⟨[]⟩⟩, .int .u64 0, .string ⟨⟨[]⟩⟩, .int .i64 0, .int .i64 0, .bool false, .int .u64 0, .string ⟨⟨[]⟩⟩, .int .u64 0, .string ⟨⟨[]⟩⟩, .slice none 0 0, .int .i64 0, .int .i64 0, .bool false, .int .u64 0, .string ⟨⟨[]⟩⟩, .int .u64 0, .string ⟨⟨[]⟩⟩, .bool false, .int .u64 0, .string ⟨⟨[]⟩⟩, .int .u64 0, .string ⟨⟨[]⟩⟩, .int .i64 0, .int .i64 0, .int .i64 0, .int .u64 0] 42)).ownsRow (w.heap.size + 1) 9 1 (.slice A5 (cuts [] t2).length c5) (cuts [] t2).length ((cuts [] t2).map sv)) := Lib.hid (hR4.out.alloc _)
          have hB4b : Hid (Below W0.heap.size W0 (w4.alloc (.cells #[.int .i64 0, .int .i64 0, .int .i64 0, .int .i64 0, .string ⟨⟨[]⟩⟩, .slice none 0 0, .int .u64 0, .bool false, .int .u64 0, .string ⟨⟨[]⟩⟩, .int .u64 0, .string ⟨⟨[]⟩⟩, .bool false, .int .u64 0, .string ⟨⟨[]⟩⟩, .int .u64 0, .string ⟨⟨[]⟩⟩, .int .i64 0, .int .i64 0, .bool false, .int .u64 0, .string ⟨⟨[]⟩⟩, .int .u64 0, .string ⟨⟨[]⟩⟩, .int .i64 0, .int .i64 0, .int .u64 0, .int .i64 0, .int .i64 0, .bool false, .int .u64 0, .string ⟨⟨[]⟩⟩, .int .u64 0, .string ⟨⟨[]⟩⟩, .int .i64 0, .int .i64 0, .bool false, .int .u64 0, .string ⟨⟨[]⟩⟩, .int .u64 0, .string ⟨⟨[]⟩⟩, .bool false, .int .u64 0, .string ⟨⟨[]⟩⟩, .int .u64 0, .string ⟨⟨[]⟩⟩, .int .i64 0, .int .i64 0, .bool false, .int .u64 0, .string ⟨⟨[]⟩⟩, .int .u64 0, .string ⟨⟨[]⟩⟩, .slice none 0 0, .int .i64 0, .int .i64 0, .bool false, .int .u64 0, .string ⟨⟨[]⟩⟩, .int .u64 0, .string ⟨⟨[]⟩⟩, .bool false, .int .u64 0, .string ⟨⟨[]⟩⟩, .int .u64 0, .string ⟨⟨[]⟩⟩, .int .i64 0, .int .i64 0, .int .i64 0, .int .u64 0] 42))) := Lib.hid (hB4.out.alloc hB4.out.size _)
          refine step_store_row _ ?_ 42 (.tmp 4) (.tmp 40) ?_ w4.heap.size _ ⟨stS KD (.string ⟨⟨t1⟩⟩) (.slice A5 (cuts [] t2).length c5) (.slice none 0 0) z0 q0⟩ 42 ?_ ?_ hG4.out ?_ ?_ ?_ ?_
          · rfl
          · rfl
          · rfl
          · rfl
          · exact (HFIN.out A5 c5).out.1 ▸ infoSpec
          · exact HZL7.out.trans (HFIN.out A5 c5).out.1.symm
          · exact (HFIN.out A5 c5).out.2
          intro w5 hb5 ha5 hs5
          have hGn : w.heap.size < w4.heap.size := by have := HZN.out; have := hB4.out.size; omega
          have hB5 : Below w.heap.size w w5 := ⟨ha5.os.trans (hB4b.out.os.trans HZW.out.os), ha5.tape.trans (hB4b.out.tape.trans HZW.out.tape), ha5.output.trans (hB4b.out.output.trans HZW.out.output), Nat.le_trans HZW.out.size (Nat.le_trans hB4b.out.size ha5.size), fun k hk => (ha5.block k (Nat.lt_of_lt_of_le (by have := HZN.out; omega) hB4b.out.size) (by omega)).trans ((hB4b.out.block k (by have := HZN.out; omega)).trans (HZW.out.block k hk))⟩
          have hZ5 : Blk w5 w.heap.size 42 z := (ha5.block _ (Nat.lt_of_lt_of_le (by have := HZN.out; omega) hB4b.out.size) (by omega)).trans ((hB4b.out.block _ (by have := HZN.out; omega)).trans HZB.out)
          obtain ⟨e0, e1, e2, _⟩ := HC.out _ hB5
          refine hK.out _ _ ⟨e0, e1, e2⟩ (fun hHeld => ?_)
          refine wpAnyH_done (by kernel_rfl) ?_ _
          go_wp2_with fail
          go_meet
          exact ⟨_, _, rfl, hB5, hZ5, hb5, hGn, own_alt_ne hR4b.out ha5 hG4.out (by decide)⟩
        · go_simp
          refine hK.out _ _ (by go_keep) (fun hHeld => ?_)
          clear hK K
          try simp only [Act.put, List.setIfInBounds_toArray, List.set_cons_zero, List.set_cons_succ, List.getElem_toArray, List.getElem_cons_zero, List.getElem_cons_succ]
          refine wpAnyH_ready (rs := [11]) (by kernel_rfl) (by simp) ?_
          refine AllReadyH.cons rfl (fun K hK => ?_) AllReadyH.nil
          go_simp
          go_at_call 17
          refine (HCU.out _).mono ?_
          rintro e w4 ⟨v4, rfl, hrow, hb4⟩
          obtain ⟨A5, c5, rfl, _⟩ := own_slice hrow
          have hB4 : Hid (Below W0.heap.size W0 w4) := Lib.hid (by first | exact (((Below.refl _ W0).alloc (Nat.le_refl _) _).drew.trans (hb4.mono (by simp))) | exact ((((Below.refl _ W0).alloc (Nat.le_refl _) _).alloc (by simp) _).drew.trans (hb4.mono (by simp; omega))))
          have hR4 : Hid (w4.ownsRow (w.heap.size + 1) 9 1 (.slice A5 (cuts [] t2).length c5) (cuts [] t2).length ((cuts [] t2).map sv)) := Lib.hid (own_mono hrow (by have := HZN.out; simp; omega))
          have hBw4 : Hid (Below w.heap.size w w4) := Lib.hid (HZW.out.trans (hB4.out.mono HZW.out.size))
          obtain ⟨d0, d1, d2, _⟩ := HC.out _ hBw4.out
          have := World.new_ne w4 _ d0
          have := World.new_ne w4 _ d1
          have := World.new_ne w4 _ d2
          have hG4 : Hid (Blk w4 (W0.heap.size + 1) 42 #[.int .i64 0, .int .i64 0, .int .i64 0, .int .i64 0, .string ⟨⟨[]⟩⟩, .slice none 0 0, .int .u64 0, .bool false, .int .u64 0, .string ⟨⟨[]⟩⟩, .int .u64 0, .string ⟨⟨[]⟩⟩, .bool false, .int .u64 0, .string ⟨⟨[]⟩⟩, .int .u64 0, .string ⟨⟨[]⟩⟩, .int .i64 0, .int .i64 0, .bool false, .int .u64 0, .string ⟨⟨[]⟩⟩, .int .u64 0, .string ⟨⟨[]⟩⟩, .int .i64 0, .int .i64 0, .int .u64 0, .int .i64 0, .int .i64 0, .bool false, .int .u64 0, .string ⟨⟨[]⟩⟩, .int .u64 0, .string ⟨⟨[]⟩⟩, .int .i64 0, .int .i64 0, .bool false, .int .u64 0, .string ⟨⟨[]⟩⟩, .int .u64 0, .string ⟨⟨[]⟩⟩, .bool false, .int .u64 0, .string ⟨⟨[]⟩⟩, .int .u64 0, .string ⟨⟨[]⟩⟩, .int .i64 0, .int .i64 0, .bool false, .int .u64 0, .string ⟨⟨[]⟩⟩, .int .u64 0, .string ⟨⟨[]⟩⟩, .slice none 0 0, .int .i64 0, .int .i64 0, .bool false, .int .u64 0, .string ⟨⟨[]⟩⟩, .int .u64 0, .string ⟨⟨[]⟩⟩, .bool false, .int .u64 0, .string ⟨⟨[]⟩⟩, .int .u64 0, .string ⟨⟨[]⟩⟩, .int .i64 0, .int .i64 0, .int .i64 0, .int .u64 0]) := Lib.hid (Blk.keep (Blk.undrew (Blk.new_2 W0 _ _ _)) hb4)
          clear hrow hb4
          refine hK.out _ _ (by go_keep) (fun hHeld => ?_)
          clear hK K
          try simp only [Act.put, List.setIfInBounds_toArray, List.set_cons_zero, List.set_cons_succ, List.getElem_toArray, List.getElem_cons_zero, List.getElem_cons_succ]
          refine wpAnyH_take (i := 12) (oi := _) (v := ?_) rfl (by kernel_rfl) (by kernel_rfl) (by kernel_rfl) (fun _ _ _ h => h) (Or.inl ⟨by rfl, ?_⟩) (by assumption) ?_
          rotate_left
          · (intro w' hSw; (try dsimp only at hSw); (try simp only [List.getElem_toArray, List.getElem_cons_zero, List.getElem_cons_succ]); go_split_ands; go_simp; try (with_reducible rfl))
          try simp only [Act.put, List.setIfInBounds_toArray, List.set_cons_zero, List.set_cons_succ, List.getElem_toArray, List.getElem_cons_zero, List.getElem_cons_succ]
          refine wpAnyH_ready (rs := [14]) (by kernel_rfl) (by simp) ?_
          refine AllReadyH.cons rfl (fun K hK => ?_) AllReadyH.nil
          have hR4b := hR4
          have hB4b := hB4
          refine step_store_row w4 ?_ 42 (.tmp 4) (.tmp 40) ?_ (W0.heap.size + 1) _ ⟨stS KD (.string ⟨⟨t1⟩⟩) (.slice A5 (cuts [] t2).length c5) (.slice none 0 0) z0 q0⟩ 42 ?_ ?_ hG4.out ?_ ?_ ?_ ?_
          · rfl
          · rfl
          · rfl
          · rfl
          · exact (HFIN.out A5 c5).out.1 ▸ infoSpec
          · exact HZL7.out.trans (HFIN.out A5 c5).out.1.symm
          · exact (HFIN.out A5 c5).out.2
          intro w5 hb5 ha5 hs5
          have hGn : w.heap.size < (W0.heap.size + 1) := by have := HZN.out; have := hB4.out.size; omega
          have hB5 : Below w.heap.size w w5 := ⟨ha5.os.trans (hB4b.out.os.trans HZW.out.os), ha5.tape.trans (hB4b.out.tape.trans HZW.out.tape), ha5.output.trans (hB4b.out.output.trans HZW.out.output), Nat.le_trans HZW.out.size (Nat.le_trans hB4b.out.size ha5.size), fun k hk => (ha5.block k (Nat.lt_of_lt_of_le (by have := HZN.out; omega) hB4b.out.size) (by omega)).trans ((hB4b.out.block k (by have := HZN.out; omega)).trans (HZW.out.block k hk))⟩
          have hZ5 : Blk w5 w.heap.size 42 z := (ha5.block _ (Nat.lt_of_lt_of_le (by have := HZN.out; omega) hB4b.out.size) (by omega)).trans ((hB4b.out.block _ (by have := HZN.out; omega)).trans HZB.out)
          obtain ⟨e0, e1, e2, _⟩ := HC.out _ hB5
          refine hK.out _ _ ⟨e0, e1, e2⟩ (fun hHeld => ?_)
          refine wpAnyH_done (by kernel_rfl) ?_ _
          go_wp2_with fail
          go_meet
          exact ⟨_, _, rfl, hB5, hZ5, hb5, hGn, own_alt_ne hR4b.out ha5 hG4.out (by decide)⟩
      · go_simp
        refine hK.out _ _ (by go_keep) (fun hHeld => ?_)
        clear hK K
        try simp only [Act.put, List.setIfInBounds_toArray, List.set_cons_zero, List.set_cons_succ, List.getElem_toArray, List.getElem_cons_zero, List.getElem_cons_succ]
        refine wpAnyH_ready (rs := [4]) (by kernel_rfl) (by simp) ?_
        refine AllReadyH.cons rfl (fun K hK => ?_) AllReadyH.nil
        go_simp
        go_at_call 16
        refine (HW.out _ _ (by first | exact Blk.undrew (Blk.new _ _ _) | exact Blk.undrew ((Blk.new _ _ _).alloc _) | exact Blk.undrew (Blk.new_2 W0 _ _ _))).mono ?_
        rintro e w3 ⟨rfl, rfl⟩
        refine hK.out _ _ (by go_keep) (fun hHeld => ?_)
        clear hK K
        try simp only [Act.put, List.setIfInBounds_toArray, List.set_cons_zero, List.set_cons_succ, List.getElem_toArray, List.getElem_cons_zero, List.getElem_cons_succ]
        refine wpAnyH_ready (rs := [11]) (by kernel_rfl) (by simp) ?_
        refine AllReadyH.cons rfl (fun K hK => ?_) AllReadyH.nil
        go_simp
        go_at_call 17
        refine (HCU.out _).mono ?_
        rintro e w4 ⟨v4, rfl, hrow, hb4⟩
        obtain ⟨A5, c5, rfl, _⟩ := own_slice hrow
        have hB4 : Hid (Below W0.heap.size W0 w4) := Lib.hid (by first | exact (((Below.refl _ W0).alloc (Nat.le_refl _) _).drew.trans (hb4.mono (by simp))) | exact ((((Below.refl _ W0).alloc (Nat.le_refl _) _).alloc (by simp) _).drew.trans (hb4.mono (by simp; omega))))
        have hR4 : Hid (w4.ownsRow (w.heap.size + 1) 9 1 (.slice A5 (cuts [] t2).length c5) (cuts [] t2).length ((cuts [] t2).map sv)) := Lib.hid (own_mono hrow (by have := HZN.out; simp; omega))
        have hBw4 : Hid (Below w.heap.size w w4) := Lib.hid (HZW.out.trans (hB4.out.mono HZW.out.size))
        obtain ⟨d0, d1, d2, _⟩ := HC.out _ hBw4.out
        have := World.new_ne w4 _ d0
        have := World.new_ne w4 _ d1
        have := World.new_ne w4 _ d2
        have hG4 : Hid (Blk w4 (W0.heap.size + 1) 42 #[.int .i64 0, .int .i64 0, .int .i64 0, .int .i64 0, .string ⟨⟨[]⟩⟩, .slice none 0 0, .int .u64 0, .bool false, .int .u64 0, .string ⟨⟨[]⟩⟩, .int .u64 0, .string ⟨⟨[]⟩⟩, .bool false, .int .u64 0, .string ⟨⟨[]⟩⟩, .int .u64 0, .string ⟨⟨[]⟩⟩, .int .i64 0, .int .i64 0, .bool false, .int .u64 0, .string ⟨⟨[]⟩⟩, .int .u64 0, .string ⟨⟨[]⟩⟩, .int .i64 0, .int .i64 0, .int .u64 0, .int .i64 0, .int .i64 0, .bool false, .int .u64 0, .string ⟨⟨[]⟩⟩, .int .u64 0, .string ⟨⟨[]⟩⟩, .int .i64 0, .int .i64 0, .bool false, .int .u64 0, .string ⟨⟨[]⟩⟩, .int .u64 0, .string ⟨⟨[]⟩⟩, .bool false, .int .u64 0, .string ⟨⟨[]⟩⟩, .int .u64 0, .string ⟨⟨[]⟩⟩, .int .i64 0, .int .i64 0, .bool false, .int .u64 0, .string ⟨⟨[]⟩⟩, .int .u64 0, .string ⟨⟨[]⟩⟩, .slice none 0 0, .int .i64 0, .int .i64 0, .bool false, .int .u64 0, .string ⟨⟨[]⟩⟩, .int .u64 0, .string ⟨⟨[]⟩⟩, .bool false, .int .u64 0, .string ⟨⟨[]⟩⟩, .int .u64 0, .string ⟨⟨[]⟩⟩, .int .i64 0, .int .i64 0, .int .i64 0, .int .u64 0]) := Lib.hid (Blk.keep (Blk.undrew (Blk.new_2 W0 _ _ _)) hb4)
        clear hrow hb4
        refine hK.out _ _ (by go_keep) (fun hHeld => ?_)
        clear hK K
        try simp only [Act.put, List.setIfInBounds_toArray, List.set_cons_zero, List.set_cons_succ, List.getElem_toArray, List.getElem_cons_zero, List.getElem_cons_succ]
        refine wpAnyH_take (i := 12) (oi := _) (v := ?_) rfl (by kernel_rfl) (by kernel_rfl) (by kernel_rfl) (fun _ _ _ h => h) (Or.inl ⟨by rfl, ?_⟩) (by assumption) ?_
        rotate_left
        · (intro w' hSw; (try dsimp only at hSw); (try simp only [List.getElem_toArray, List.getElem_cons_zero, List.getElem_cons_succ]); go_split_ands; go_simp; try (with_reducible rfl))
        try simp only [Act.put, List.setIfInBounds_toArray, List.set_cons_zero, List.set_cons_succ, List.getElem_toArray, List.getElem_cons_zero, List.getElem_cons_succ]
        refine wpAnyH_ready (rs := [14]) (by kernel_rfl) (by simp) ?_
        refine AllReadyH.cons rfl (fun K hK => ?_) AllReadyH.nil
        have hR4b := hR4
        have hB4b := hB4
        refine step_store_row w4 ?_ 42 (.tmp 4) (.tmp 40) ?_ (W0.heap.size + 1) _ ⟨stS KD (.string ⟨⟨t1⟩⟩) (.slice A5 (cuts [] t2).length c5) (.slice none 0 0) z0 q0⟩ 42 ?_ ?_ hG4.out ?_ ?_ ?_ ?_
        · rfl
        · rfl
        · rfl
        · rfl
        · exact (HFIN.out A5 c5).out.1 ▸ infoSpec
        · exact HZL7.out.trans (HFIN.out A5 c5).out.1.symm
        · exact (HFIN.out A5 c5).out.2
        intro w5 hb5 ha5 hs5
        have hGn : w.heap.size < (W0.heap.size + 1) := by have := HZN.out; have := hB4.out.size; omega
        have hB5 : Below w.heap.size w w5 := ⟨ha5.os.trans (hB4b.out.os.trans HZW.out.os), ha5.tape.trans (hB4b.out.tape.trans HZW.out.tape), ha5.output.trans (hB4b.out.output.trans HZW.out.output), Nat.le_trans HZW.out.size (Nat.le_trans hB4b.out.size ha5.size), fun k hk => (ha5.block k (Nat.lt_of_lt_of_le (by have := HZN.out; omega) hB4b.out.size) (by omega)).trans ((hB4b.out.block k (by have := HZN.out; omega)).trans (HZW.out.block k hk))⟩
        have hZ5 : Blk w5 w.heap.size 42 z := (ha5.block _ (Nat.lt_of_lt_of_le (by have := HZN.out; omega) hB4b.out.size) (by omega)).trans ((hB4b.out.block _ (by have := HZN.out; omega)).trans HZB.out)
        obtain ⟨e0, e1, e2, _⟩ := HC.out _ hB5
        refine hK.out _ _ ⟨e0, e1, e2⟩ (fun hHeld => ?_)
        refine wpAnyH_done (by kernel_rfl) ?_ _
        go_wp2_with fail
        go_meet
        exact ⟨_, _, rfl, hB5, hZ5, hb5, hGn, own_alt_ne hR4b.out ha5 hG4.out (by decide)⟩
    · go_simp
      refine hK.out _ _ (by go_keep) (fun hHeld => ?_)
      clear hK K
      try simp only [Act.put, List.setIfInBounds_toArray, List.set_cons_zero, List.set_cons_succ, List.getElem_toArray, List.getElem_cons_zero, List.getElem_cons_succ]
      refine wpAnyH_ready (rs := [0]) (by kernel_rfl) (by simp) ?_
      refine AllReadyH.cons rfl (fun K hK => ?_) AllReadyH.nil
      go_simp
      refine hK.out _ _ (by go_keep) (fun hHeld => ?_)
      clear hK K
      try simp only [Act.put, List.setIfInBounds_toArray, List.set_cons_zero, List.set_cons_succ, List.getElem_toArray, List.getElem_cons_zero, List.getElem_cons_succ]
      refine wpAnyH_ready (rs := [4]) (by kernel_rfl) (by simp) ?_
      refine AllReadyH.cons rfl (fun K hK => ?_) AllReadyH.nil
      go_simp
      go_at_call 16
      refine (HW.out _ _ (by first | exact Blk.undrew (Blk.new _ _ _) | exact Blk.undrew ((Blk.new _ _ _).alloc _) | exact Blk.undrew (Blk.new_2 W0 _ _ _))).mono ?_
      rintro e w3 ⟨rfl, rfl⟩
      refine hK.out _ _ (by go_keep) (fun hHeld => ?_)
      clear hK K
      try simp only [Act.put, List.setIfInBounds_toArray, List.set_cons_zero, List.set_cons_succ, List.getElem_toArray, List.getElem_cons_zero, List.getElem_cons_succ]
      refine wpAnyH_ready (rs := [11]) (by kernel_rfl) (by simp) ?_
      refine AllReadyH.cons rfl (fun K hK => ?_) AllReadyH.nil
      go_simp
      go_at_call 17
      refine (HCU.out _).mono ?_
      rintro e w4 ⟨v4, rfl, hrow, hb4⟩
      obtain ⟨A5, c5, rfl, _⟩ := own_slice hrow
      have hB4 : Hid (Below W0.heap.size W0 w4) := Lib.hid (by first | exact (((Below.refl _ W0).alloc (Nat.le_refl _) _).drew.trans (hb4.mono (by simp))) | exact ((((Below.refl _ W0).alloc (Nat.le_refl _) _).alloc (by simp) _).drew.trans (hb4.mono (by simp; omega))))
      have hR4 : Hid (w4.ownsRow (w.heap.size + 1) 9 1 (.slice A5 (cuts [] t2).length c5) (cuts [] t2).length ((cuts [] t2).map sv)) := Lib.hid (own_mono hrow (by have := HZN.out; simp; omega))
      have hBw4 : Hid (Below w.heap.size w w4) := Lib.hid (HZW.out.trans (hB4.out.mono HZW.out.size))
      obtain ⟨d0, d1, d2, _⟩ := HC.out _ hBw4.out
      have := World.new_ne w4 _ d0
      have := World.new_ne w4 _ d1
      have := World.new_ne w4 _ d2
      have hG4 : Hid (Blk w4 W0.heap.size 42 #[.int .i64 0, .int .i64 0, .int .i64 0, .int .i64 0, .string ⟨⟨[]⟩⟩, .slice none 0 0, .int .u64 0, .bool false, .int .u64 0, .string ⟨⟨[]⟩⟩, .int .u64 0, .string ⟨⟨[]⟩⟩, .bool false, .int .u64 0, .string ⟨⟨[]⟩⟩, .int .u64 0, .string ⟨⟨[]⟩⟩, .int .i64 0, .int .i64 0, .bool false, .int .u64 0, .string ⟨⟨[]⟩⟩, .int .u64 0, .string ⟨⟨[]⟩⟩, .int .i64 0, .int .i64 0, .int .u64 0, .int .i64 0, .int .i64 0, .bool false, .int .u64 0, .string ⟨⟨[]⟩⟩, .int .u64 0, .string ⟨⟨[]⟩⟩, .int .i64 0, .int .i64 0, .bool false, .int .u64 0, .string ⟨⟨[]⟩⟩, .int .u64 0, .string ⟨⟨[]⟩⟩, .bool false, .int .u64 0, .string ⟨⟨[]⟩⟩, .int .u64 0, .string ⟨⟨[]⟩⟩, .int .i64 0, .int .i64 0, .bool false, .int .u64 0, .string ⟨⟨[]⟩⟩, .int .u64 0, .string ⟨⟨[]⟩⟩, .slice none 0 0, .int .i64 0, .int .i64 0, .bool false, .int .u64 0, .string ⟨⟨[]⟩⟩, .int .u64 0, .string ⟨⟨[]⟩⟩, .bool false, .int .u64 0, .string ⟨⟨[]⟩⟩, .int .u64 0, .string ⟨⟨[]⟩⟩, .int .i64 0, .int .i64 0, .int .i64 0, .int .u64 0]) := Lib.hid (Blk.keep (Blk.undrew ((Blk.new W0 _ _).alloc _)) hb4)
      clear hrow hb4
      refine hK.out _ _ (by go_keep) (fun hHeld => ?_)
      clear hK K
      try simp only [Act.put, List.setIfInBounds_toArray, List.set_cons_zero, List.set_cons_succ, List.getElem_toArray, List.getElem_cons_zero, List.getElem_cons_succ]
      refine wpAnyH_take (i := 12) (oi := _) (v := ?_) rfl (by kernel_rfl) (by kernel_rfl) (by kernel_rfl) (fun _ _ _ h => h) (Or.inl ⟨by rfl, ?_⟩) (by assumption) ?_
      rotate_left
      · (intro w' hSw; (try dsimp only at hSw); (try simp only [List.getElem_toArray, List.getElem_cons_zero, List.getElem_cons_succ]); go_split_ands; go_simp; try (with_reducible rfl))
      try simp only [Act.put, List.setIfInBounds_toArray, List.set_cons_zero, List.set_cons_succ, List.getElem_toArray, List.getElem_cons_zero, List.getElem_cons_succ]
      refine wpAnyH_ready (rs := [14]) (by kernel_rfl) (by simp) ?_
      refine AllReadyH.cons rfl (fun K hK => ?_) AllReadyH.nil
      have hR4b := hR4
      have hB4b := hB4
      refine step_store_row w4 ?_ 42 (.tmp 4) (.tmp 40) ?_ W0.heap.size _ ⟨stS KD (.string ⟨⟨t1⟩⟩) (.slice A5 (cuts [] t2).length c5) (.slice none 0 0) z0 q0⟩ 42 ?_ ?_ hG4.out ?_ ?_ ?_ ?_
      · rfl
      · rfl
      · rfl
      · rfl
      · exact (HFIN.out A5 c5).out.1 ▸ infoSpec
      · exact HZL7.out.trans (HFIN.out A5 c5).out.1.symm
      · exact (HFIN.out A5 c5).out.2
      intro w5 hb5 ha5 hs5
      have hGn : w.heap.size < W0.heap.size := by have := HZN.out; have := hB4.out.size; omega
      have hB5 : Below w.heap.size w w5 := ⟨ha5.os.trans (hB4b.out.os.trans HZW.out.os), ha5.tape.trans (hB4b.out.tape.trans HZW.out.tape), ha5.output.trans (hB4b.out.output.trans HZW.out.output), Nat.le_trans HZW.out.size (Nat.le_trans hB4b.out.size ha5.size), fun k hk => (ha5.block k (Nat.lt_of_lt_of_le (by have := HZN.out; omega) hB4b.out.size) (by omega)).trans ((hB4b.out.block k (by have := HZN.out; omega)).trans (HZW.out.block k hk))⟩
      have hZ5 : Blk w5 w.heap.size 42 z := (ha5.block _ (Nat.lt_of_lt_of_le (by have := HZN.out; omega) hB4b.out.size) (by omega)).trans ((hB4b.out.block _ (by have := HZN.out; omega)).trans HZB.out)
      obtain ⟨e0, e1, e2, _⟩ := HC.out _ hB5
      refine hK.out _ _ ⟨e0, e1, e2⟩ (fun hHeld => ?_)
      refine wpAnyH_done (by kernel_rfl) ?_ _
      go_wp2_with fail
      go_meet
      exact ⟨_, _, rfl, hB5, hZ5, hb5, hGn, own_alt_ne hR4b.out ha5 hG4.out (by decide)⟩
  case rest =>
    obtain ⟨gs, cols, rfl, hcut⟩ := hcut
    obtain ⟨k1, k2, k3, k4, k5⟩ := hcut.out
    obtain ⟨A5, c5, rfl, hc5⟩ := own_slice k5
    have HP0 : Hid (PreS w wc gs KD t1 (.slice A5 (cuts [] t2).length c5) (cuts [] t2) z) := Lib.hid ⟨k1, k2, k3, k4, k5⟩
    clear hcut k1 k2 k3 k4 k5 cc0 cc1 cc2
    have HCLs := HCL.out
    have HGP : Hid (goodP t0 t1 t2 os = if (decide (0 < KD) && isNm t1 && (cuts [] t2).all isNm) = true then runW [] os else none) := Lib.hid (by
      unfold goodP colsOk
      rw [HKD.out.2.1, Bool.and_comm (isNm t1)])
    generalize hts : cuts [] t2 = ts at *
    have HTS := Lib.hid hts
    clear hts
    go_upto_region 4 with fail
    go_cut [5] from 41 to 48 (fun v5 wx => v5 = .bool (decide (0 < KD) && isNm t1) ∧ Hid (PreS w wx gs KD t1 (.slice A5 ts.length c5) ts z))
    case first =>
      obtain ⟨x0, x4, x5⟩ := HP0.out.cells
      by_cases hk : 0 < KD
      · have hk1 : decide (0 < KD) = true := decide_eq_true hk
        have HK1 := Lib.hid hk1
        clear hk1
        go_wp2_with (first
          | (go_at_call 18; refine (HIN.out _).mono ?_; rintro e w6 ⟨rfl, hb6⟩; have HP6 := Lib.hid (HP0.out.below hb6); clear hb6))
        go_meet
        exact ⟨by rw [HK1.out]; simp, HP6.out⟩
      · have hk1 : decide (0 < KD) = false := decide_eq_false hk
        have hk2 : KD = 0 := by omega
        subst hk2
        clear hk hk1
        go_wp2_with fail
        go_meet
        exact ⟨rfl, HP0.out⟩
    case rest =>
      obtain ⟨rfl, HP1⟩ := hcut
      have HGP1 : Hid (goodP t0 t1 t2 os = if ((decide (0 < KD) && isNm t1) && ts.all isNm) = true then runW [] os else none) := HGP
      clear HGP HP0
      generalize (decide (0 < KD) && isNm t1) = ok0 at *
      go_wp2
      go_loopw [5, 6] (fun v5 v6 wr => ∃ (j : Nat) (okb : Bool), j ≤ ts.length ∧ v6 = .int .i64 (j : Int) ∧ v5 = .bool okb ∧ Hid ((ok0 && ts.all isNm) = (okb && (ts.drop j).all isNm)) ∧ Hid (PreS w wr gs KD t1 (.slice A5 ts.length c5) ts z)) (fun _ v6 _ => ts.length - (intOf v6).toNat)
      case atStart => exact ⟨0, ok0, Nat.zero_le _, rfl, rfl, rfl, HP1.out⟩
      case round =>
        obtain ⟨j, okb, hj, rfl, rfl, hall, hp⟩ := hrel
        have hj3 : j ≤ 3 := Nat.le_trans hj HCLs
        obtain ⟨x0, x4, x5⟩ := hp.out.cells
        by_cases hgo : j < ts.length
        · obtain ⟨gc, hA, hg4, hgr, hcl⟩ := (show WRow wr (w.heap.size + 1) (.slice A5 ts.length c5) ts from hp.out.own).at_ hgo
          have HNM : Hid (∀ W, Calls Tryz.prog 18 #[.string ⟨⟨ts[j]⟩⟩] W fun e w' => e = .returned (.bool (isNm ts[j])) ∧ Below W.heap.size W w') := Lib.hid fun W => isname_any W (HCN.out _ (List.getElem_mem hgo))
          have hdr : Hid ((ts.drop j).all isNm = (isNm ts[j] && (ts.drop (j + 1)).all isNm)) := by
            show _ = _
            rw [List.drop_eq_getElem_cons hgo]; rfl
          subst hA
          cases okb with
          | true =>
            have hall2 : Hid ((ok0 && ts.all isNm) = (isNm ts[j] && (ts.drop (j + 1)).all isNm)) := Lib.hid (by rw [hall.out, hdr.out]; rfl)
            clear hall hdr
            generalize ts[j] = t' at *
            go_wp2_with (first
              | (go_at_call 18; refine (HNM.out _).mono ?_; rintro e w6 ⟨rfl, hb6⟩; have hP6 := Lib.hid (hp.out.below hb6); clear hb6))
            exact ⟨⟨j + 1, isNm t', Nat.succ_le_of_lt hgo, by go_num, rfl, hall2.out, hP6.out⟩, by simp [intOf]; omega⟩
          | false =>
            have hall2 : Hid ((ok0 && ts.all isNm) = (false && (ts.drop (j + 1)).all isNm)) := Lib.hid (by rw [hall.out]; rfl)
            clear hall hdr
            go_wp2
            exact ⟨⟨j + 1, false, Nat.succ_le_of_lt hgo, by go_num, rfl, hall2.out, hp.out⟩, by simp [intOf]; omega⟩
        · have hjn : j = ts.length := by omega
          have hok : Hid ((ok0 && ts.all isNm) = okb) := Lib.hid (by rw [hall.out, hjn, List.drop_length]; simp)
          clear hall
          have HGP2 : Hid (goodP t0 t1 t2 os = if okb = true then runW [] os else none) := Lib.hid (by rw [HGP1.out, hok.out])
          clear HGP1 hok
          go_upto_block 2 with fail
          rename_i KE hKE
          generalize hwv : World.alloc (World.alloc (World.alloc (World.alloc wr _) _) _) _ = wv
          have hsi : SInv wv wv gs wr.heap.size (wr.heap.size + 1) (wr.heap.size + 1 + 1) (wr.heap.size + 1 + 1 + 1) wv.heap.size ⟨stS KD (.string ⟨⟨t1⟩⟩) (.slice A5 ts.length c5) (.slice none 0 0) (nI []) (fD [])⟩ ⟨stR (nI []) (fD [])⟩ ⟨stF (nI [])⟩ ⟨stB (nI []) (fD [])⟩ ⟨stD (nI []) (fD [])⟩ (.slice none 0 0) (.slice none 0 0) (keysOf []) [] := by rw [← hwv]; exact SInv.new hp.out.bs
          have hpv : PreS w wv gs KD t1 (.slice A5 ts.length c5) ts z := by rw [← hwv]; exact (((hp.out.below ((Below.refl _ _).alloc (Nat.le_refl _) _)).below ((Below.refl _ _).alloc (Nat.le_refl _) _)).below ((Below.refl _ _).alloc (Nat.le_refl _) _)).below ((Below.refl _ _).alloc (Nat.le_refl _) _)
          have HSI := Lib.hid hsi
          have HPV := Lib.hid hpv
          have hgw : w.heap.size < wr.heap.size ∧ w.heap.size < gs ∧ gs < wr.heap.size := ⟨Nat.lt_of_lt_of_le hp.out.lt (Nat.le_of_lt hp.out.bs.lt), hp.out.lt, hp.out.bs.lt⟩
          clear hwv hsi hpv hgo hjn x0 x4 x5
          obtain ⟨gr, hgr⟩ : ∃ gr, gr = wr.heap.size := ⟨_, rfl⟩
          rw [← hgr] at HSI hgw ⊢
          clear hgr hp
          refine wp_of_eq (c := LOOP2) ?_ (loop2 HC.out HNO.out h9 hnc HOS.out hz HZS.out HZ1.out HPV.out hgw HSI.out HGP2.out ?_)
          · unfold LOOP2
            simp only [Tryz.f7, findB, Option.bind, Option.getD, Nat.reduceEqDiff, if_true, if_false]
          intro acc N Q okb szv seenv zs y3 y12 y13 y14 y15 y16 y17 y18 y19 y20 y21 y22 y23 y66 y67 y68 y69 y70 y71 y72 y73 y74 y75 y76 y77 y78 y79 y80 y81 y82 y83 y84 y85 y86 y87 y88 y89 y90 y91 y92 y93 y94 y95 y96 y97 y98 y99 y100 y101 y102 y103 y104 y105 y106 y107 y108 y109 y110 y111 y112 y113 y114 y115 y116 y117 y118 y119 y120 y121 y122 y123 y124 y125 y126 y127 y128 y129 y130 y131 y132 y133 y134 y135 y136 y137 y138 y139 y140 y141 y142 y143 y144 y145 y146 y147 y148 y149 y150 y151 y152 y153 y154 y155 y156 y157 y158 y159 y160 y161 y162 y163 y164 y165 y166 y167 y168 y169 y170 y171 y172 y173 y174 y175 y176 y177 y178 y179 y180 y181 y182 y183 y184 y185 y186 y187 y188 y189 y190 y191 y192 y193 y194 y195 y196 y197 y198 y199 y200 y201 y202 y203 y204 y205 y206 y207 y208 y209 y210 y211 y212 y213 y214 y215 y216 y217 y218 y219 y220 y221 y222 y223 y224 y225 y226 y227 y228 y229 y230 y231 y232 y233 y234 y235 y236 y237 y238 y239 y240 y241 y242 y243 y244 y245 y246 y247 y248 y249 y250 y251 y252 y253 y254 y255 y256 y257 y258 y259 y260 y261 y262 y263 y264 y265 y266 y267 y268 y269 y270 y271 y272 y273 y274 y275 y276 y277 y278 y279 y280 y281 wr hsem hinv
          dsimp only
          refine hKE _ _ ?_
          clear hKE KE
          exact wp_of_eq (c := EXITC) (by kernel_rfl) (exit_any HZS.out HZ1.out hz HTS.out.symm HKD.out.1 HPV.out hgw HSI.out hsem hinv)
end
end Go.Proofs.YtelehhfnomdneaaGreatDoor.Sp
