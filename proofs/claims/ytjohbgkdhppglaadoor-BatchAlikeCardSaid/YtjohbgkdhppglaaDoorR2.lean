/-
  A small fraction of a raw number: hand.R, hand.Q.
-/
import Derived.Test.YtjohbgkdhppglaaDoorR
namespace Go.Proofs.YtjohbgkdhppglaaDoor
open Go.RowKit
open CX (fcall X1 Hp En HR GOk VR Img0 Img okQ qof F2 LR)

def tb (s : Int) : Nat := if s ≤ 2 then 1 else if s = 3 then 2 else if s = 4 then 3 else 4
def qI (n : Int) : Int := n % 41 - 20
def qD (n : Int) : Nat := tb (wrap64 (n.tdiv 41) % 6)
theorem RMet.stored {i : Int} {d : Nat} {w w' : World} {o : Obj} {u v0 v1 v2 : Value} (h : RMet i d (w.alloc o) w' u) :
    RMet i d w (((w'.setCell ⟨w.heap.size, 0, none⟩ v0).setCell ⟨w.heap.size, 1, none⟩ v1).setCell ⟨w.heap.size, 2, none⟩ v2) u := by
  obtain ⟨x1, h1, h2, E, e1, H, hg, hu, hb, hk⟩ := h
  have hf := hk w.heap.size (by simp)
  refine ⟨x1, h1, h2, E, e1, HR.setCell (HR.setCell (HR.setCell H hf 0 v0) hf 1 v1) hf 2 v2, hg, hu, ?_, fun k hl => hk k (by simp; omega)⟩
  exact (((((Below.refl w.heap.size w).alloc (Nat.le_refl _) o).trans (hb.mono (by simp))).setCell (Nat.le_refl _) _).setCell (Nat.le_refl _) _).setCell (Nat.le_refl _) _
set_option maxHeartbeats 2000000 in
set_option maxRecDepth 100000 in
theorem r_0 (n : Int) (w : World) (hs : wrap64 (n.tdiv 41) % 6 = 0) :
    Calls Tryd.prog 10 #[.int .i64 n] w fun e w' => ∃ b A k c B m j, e = .returned (.agg #[.bool b, .slice A k c, .slice B m j]) ∧ RMet (n % 41 - 20) 1 w w' (.agg #[.bool b, .slice A k c, .slice B m j]) := by
  obtain ⟨x, HI⟩ : ∃ x, Hid (n % 41 = x) := ⟨_, rfl⟩
  have hx0 : 0 ≤ x := by rw [← HI.out]; omega
  have hx1 : x < 41 := by rw [← HI.out]; omega
  rw [HI.out]
  have HS := Lib.hid hs
  have HO : ∀ W, Calls Tryd.prog 23 #[.int .i64 (x - 20), .int .i64 1] W fun e w' => ∃ b A n c B m k, e = .returned (.agg #[.bool b, .slice A n c, .slice B m k]) ∧ RMet (x - 20) 1 W w' (.agg #[.bool b, .slice A n c, .slice B m k]) :=
    fun W => over_run (x - 20) 1 W (CX.qk1 _ (by omega) (by omega))
  replace HO := Lib.hid HO
  clear hs
  have ix : ∀ w, (Instr.index 68 (.agg #[.int .i64 1, .int .i64 1, .int .i64 1, .int .i64 2, .int .i64 3, .int .i64 4]) (.int .i64 0)).run Tryd.prog w = .ok (.int .i64 1) w := fun _ => by kernel_rfl
  go_enter Tryd.func10, Tryd.ntmps10
  go_wp2_with (first
    | (go_at_call 4; refine (pick_any _ _ _ (by decide) (by decide)).mono ?_; rintro e w2 ⟨rfl, rfl⟩; first | rw [HI.out] | rw [HS.out])
    | (go_at_call 23; refine (HO.out _).mono ?_; rintro e w3 ⟨b, A, k, c, B, m, j, rfl, hm⟩; have HM := Lib.hid hm; have HB : Hid (Below (w.alloc (.cells #[.bool false, .slice none 0 0, .slice none 0 0] 46)).heap.size (w.alloc (.cells #[.bool false, .slice none 0 0, .slice none 0 0] 46)) w3) := hm.choose_spec.choose_spec.choose_spec.choose_spec.2.2.2.2.1; have HK : Hid (Blk w3 w.heap.size 46 #[.bool false, .slice none 0 0, .slice none 0 0]) := Blk.below (Blk.new w _ _) HB.out (by simp); clear hm; have g0 := HK.out.cell 0; have g1 := HK.out.cell 1; have g2 := HK.out.cell 2; have f0 := HK.out.frozen 0; have f1 := HK.out.frozen 1; have f2 := HK.out.frozen 2; simp only [List.getElem?_toArray, List.getElem?_cons_zero, List.getElem?_cons_succ] at g0 g1 g2))
  refine bodyPost_ret (v := .agg #[.bool b, .slice A k c, .slice B m j]) ?_ rfl ⟨b, A, k, c, B, m, j, rfl, ?_⟩
  · simp [results, Tryd.results10, go_sem, g0, g1, g2]
  · exact RMet.stored HM.out
set_option maxHeartbeats 2000000 in
set_option maxRecDepth 100000 in
theorem r_1 (n : Int) (w : World) (hs : wrap64 (n.tdiv 41) % 6 = 1) :
    Calls Tryd.prog 10 #[.int .i64 n] w fun e w' => ∃ b A k c B m j, e = .returned (.agg #[.bool b, .slice A k c, .slice B m j]) ∧ RMet (n % 41 - 20) 1 w w' (.agg #[.bool b, .slice A k c, .slice B m j]) := by
  obtain ⟨x, HI⟩ : ∃ x, Hid (n % 41 = x) := ⟨_, rfl⟩
  have hx0 : 0 ≤ x := by rw [← HI.out]; omega
  have hx1 : x < 41 := by rw [← HI.out]; omega
  rw [HI.out]
  have HS := Lib.hid hs
  have HO : ∀ W, Calls Tryd.prog 23 #[.int .i64 (x - 20), .int .i64 1] W fun e w' => ∃ b A n c B m k, e = .returned (.agg #[.bool b, .slice A n c, .slice B m k]) ∧ RMet (x - 20) 1 W w' (.agg #[.bool b, .slice A n c, .slice B m k]) :=
    fun W => over_run (x - 20) 1 W (CX.qk1 _ (by omega) (by omega))
  replace HO := Lib.hid HO
  clear hs
  have ix : ∀ w, (Instr.index 68 (.agg #[.int .i64 1, .int .i64 1, .int .i64 1, .int .i64 2, .int .i64 3, .int .i64 4]) (.int .i64 1)).run Tryd.prog w = .ok (.int .i64 1) w := fun _ => by kernel_rfl
  go_enter Tryd.func10, Tryd.ntmps10
  go_wp2_with (first
    | (go_at_call 4; refine (pick_any _ _ _ (by decide) (by decide)).mono ?_; rintro e w2 ⟨rfl, rfl⟩; first | rw [HI.out] | rw [HS.out])
    | (go_at_call 23; refine (HO.out _).mono ?_; rintro e w3 ⟨b, A, k, c, B, m, j, rfl, hm⟩; have HM := Lib.hid hm; have HB : Hid (Below (w.alloc (.cells #[.bool false, .slice none 0 0, .slice none 0 0] 46)).heap.size (w.alloc (.cells #[.bool false, .slice none 0 0, .slice none 0 0] 46)) w3) := hm.choose_spec.choose_spec.choose_spec.choose_spec.2.2.2.2.1; have HK : Hid (Blk w3 w.heap.size 46 #[.bool false, .slice none 0 0, .slice none 0 0]) := Blk.below (Blk.new w _ _) HB.out (by simp); clear hm; have g0 := HK.out.cell 0; have g1 := HK.out.cell 1; have g2 := HK.out.cell 2; have f0 := HK.out.frozen 0; have f1 := HK.out.frozen 1; have f2 := HK.out.frozen 2; simp only [List.getElem?_toArray, List.getElem?_cons_zero, List.getElem?_cons_succ] at g0 g1 g2))
  refine bodyPost_ret (v := .agg #[.bool b, .slice A k c, .slice B m j]) ?_ rfl ⟨b, A, k, c, B, m, j, rfl, ?_⟩
  · simp [results, Tryd.results10, go_sem, g0, g1, g2]
  · exact RMet.stored HM.out
set_option maxHeartbeats 2000000 in
set_option maxRecDepth 100000 in
theorem r_2 (n : Int) (w : World) (hs : wrap64 (n.tdiv 41) % 6 = 2) :
    Calls Tryd.prog 10 #[.int .i64 n] w fun e w' => ∃ b A k c B m j, e = .returned (.agg #[.bool b, .slice A k c, .slice B m j]) ∧ RMet (n % 41 - 20) 1 w w' (.agg #[.bool b, .slice A k c, .slice B m j]) := by
  obtain ⟨x, HI⟩ : ∃ x, Hid (n % 41 = x) := ⟨_, rfl⟩
  have hx0 : 0 ≤ x := by rw [← HI.out]; omega
  have hx1 : x < 41 := by rw [← HI.out]; omega
  rw [HI.out]
  have HS := Lib.hid hs
  have HO : ∀ W, Calls Tryd.prog 23 #[.int .i64 (x - 20), .int .i64 1] W fun e w' => ∃ b A n c B m k, e = .returned (.agg #[.bool b, .slice A n c, .slice B m k]) ∧ RMet (x - 20) 1 W w' (.agg #[.bool b, .slice A n c, .slice B m k]) :=
    fun W => over_run (x - 20) 1 W (CX.qk1 _ (by omega) (by omega))
  replace HO := Lib.hid HO
  clear hs
  have ix : ∀ w, (Instr.index 68 (.agg #[.int .i64 1, .int .i64 1, .int .i64 1, .int .i64 2, .int .i64 3, .int .i64 4]) (.int .i64 2)).run Tryd.prog w = .ok (.int .i64 1) w := fun _ => by kernel_rfl
  go_enter Tryd.func10, Tryd.ntmps10
  go_wp2_with (first
    | (go_at_call 4; refine (pick_any _ _ _ (by decide) (by decide)).mono ?_; rintro e w2 ⟨rfl, rfl⟩; first | rw [HI.out] | rw [HS.out])
    | (go_at_call 23; refine (HO.out _).mono ?_; rintro e w3 ⟨b, A, k, c, B, m, j, rfl, hm⟩; have HM := Lib.hid hm; have HB : Hid (Below (w.alloc (.cells #[.bool false, .slice none 0 0, .slice none 0 0] 46)).heap.size (w.alloc (.cells #[.bool false, .slice none 0 0, .slice none 0 0] 46)) w3) := hm.choose_spec.choose_spec.choose_spec.choose_spec.2.2.2.2.1; have HK : Hid (Blk w3 w.heap.size 46 #[.bool false, .slice none 0 0, .slice none 0 0]) := Blk.below (Blk.new w _ _) HB.out (by simp); clear hm; have g0 := HK.out.cell 0; have g1 := HK.out.cell 1; have g2 := HK.out.cell 2; have f0 := HK.out.frozen 0; have f1 := HK.out.frozen 1; have f2 := HK.out.frozen 2; simp only [List.getElem?_toArray, List.getElem?_cons_zero, List.getElem?_cons_succ] at g0 g1 g2))
  refine bodyPost_ret (v := .agg #[.bool b, .slice A k c, .slice B m j]) ?_ rfl ⟨b, A, k, c, B, m, j, rfl, ?_⟩
  · simp [results, Tryd.results10, go_sem, g0, g1, g2]
  · exact RMet.stored HM.out
set_option maxHeartbeats 2000000 in
set_option maxRecDepth 100000 in
theorem r_3 (n : Int) (w : World) (hs : wrap64 (n.tdiv 41) % 6 = 3) :
    Calls Tryd.prog 10 #[.int .i64 n] w fun e w' => ∃ b A k c B m j, e = .returned (.agg #[.bool b, .slice A k c, .slice B m j]) ∧ RMet (n % 41 - 20) 2 w w' (.agg #[.bool b, .slice A k c, .slice B m j]) := by
  obtain ⟨x, HI⟩ : ∃ x, Hid (n % 41 = x) := ⟨_, rfl⟩
  have hx0 : 0 ≤ x := by rw [← HI.out]; omega
  have hx1 : x < 41 := by rw [← HI.out]; omega
  rw [HI.out]
  have HS := Lib.hid hs
  have HO : ∀ W, Calls Tryd.prog 23 #[.int .i64 (x - 20), .int .i64 2] W fun e w' => ∃ b A n c B m k, e = .returned (.agg #[.bool b, .slice A n c, .slice B m k]) ∧ RMet (x - 20) 2 W w' (.agg #[.bool b, .slice A n c, .slice B m k]) :=
    fun W => over_run (x - 20) 2 W (CX.qk2 _ (by omega) (by omega))
  replace HO := Lib.hid HO
  clear hs
  have ix : ∀ w, (Instr.index 68 (.agg #[.int .i64 1, .int .i64 1, .int .i64 1, .int .i64 2, .int .i64 3, .int .i64 4]) (.int .i64 3)).run Tryd.prog w = .ok (.int .i64 2) w := fun _ => by kernel_rfl
  go_enter Tryd.func10, Tryd.ntmps10
  go_wp2_with (first
    | (go_at_call 4; refine (pick_any _ _ _ (by decide) (by decide)).mono ?_; rintro e w2 ⟨rfl, rfl⟩; first | rw [HI.out] | rw [HS.out])
    | (go_at_call 23; refine (HO.out _).mono ?_; rintro e w3 ⟨b, A, k, c, B, m, j, rfl, hm⟩; have HM := Lib.hid hm; have HB : Hid (Below (w.alloc (.cells #[.bool false, .slice none 0 0, .slice none 0 0] 46)).heap.size (w.alloc (.cells #[.bool false, .slice none 0 0, .slice none 0 0] 46)) w3) := hm.choose_spec.choose_spec.choose_spec.choose_spec.2.2.2.2.1; have HK : Hid (Blk w3 w.heap.size 46 #[.bool false, .slice none 0 0, .slice none 0 0]) := Blk.below (Blk.new w _ _) HB.out (by simp); clear hm; have g0 := HK.out.cell 0; have g1 := HK.out.cell 1; have g2 := HK.out.cell 2; have f0 := HK.out.frozen 0; have f1 := HK.out.frozen 1; have f2 := HK.out.frozen 2; simp only [List.getElem?_toArray, List.getElem?_cons_zero, List.getElem?_cons_succ] at g0 g1 g2))
  refine bodyPost_ret (v := .agg #[.bool b, .slice A k c, .slice B m j]) ?_ rfl ⟨b, A, k, c, B, m, j, rfl, ?_⟩
  · simp [results, Tryd.results10, go_sem, g0, g1, g2]
  · exact RMet.stored HM.out
set_option maxHeartbeats 2000000 in
set_option maxRecDepth 100000 in
theorem r_4 (n : Int) (w : World) (hs : wrap64 (n.tdiv 41) % 6 = 4) :
    Calls Tryd.prog 10 #[.int .i64 n] w fun e w' => ∃ b A k c B m j, e = .returned (.agg #[.bool b, .slice A k c, .slice B m j]) ∧ RMet (n % 41 - 20) 3 w w' (.agg #[.bool b, .slice A k c, .slice B m j]) := by
  obtain ⟨x, HI⟩ : ∃ x, Hid (n % 41 = x) := ⟨_, rfl⟩
  have hx0 : 0 ≤ x := by rw [← HI.out]; omega
  have hx1 : x < 41 := by rw [← HI.out]; omega
  rw [HI.out]
  have HS := Lib.hid hs
  have HO : ∀ W, Calls Tryd.prog 23 #[.int .i64 (x - 20), .int .i64 3] W fun e w' => ∃ b A n c B m k, e = .returned (.agg #[.bool b, .slice A n c, .slice B m k]) ∧ RMet (x - 20) 3 W w' (.agg #[.bool b, .slice A n c, .slice B m k]) :=
    fun W => over_run (x - 20) 3 W (CX.qk3 _ (by omega) (by omega))
  replace HO := Lib.hid HO
  clear hs
  have ix : ∀ w, (Instr.index 68 (.agg #[.int .i64 1, .int .i64 1, .int .i64 1, .int .i64 2, .int .i64 3, .int .i64 4]) (.int .i64 4)).run Tryd.prog w = .ok (.int .i64 3) w := fun _ => by kernel_rfl
  go_enter Tryd.func10, Tryd.ntmps10
  go_wp2_with (first
    | (go_at_call 4; refine (pick_any _ _ _ (by decide) (by decide)).mono ?_; rintro e w2 ⟨rfl, rfl⟩; first | rw [HI.out] | rw [HS.out])
    | (go_at_call 23; refine (HO.out _).mono ?_; rintro e w3 ⟨b, A, k, c, B, m, j, rfl, hm⟩; have HM := Lib.hid hm; have HB : Hid (Below (w.alloc (.cells #[.bool false, .slice none 0 0, .slice none 0 0] 46)).heap.size (w.alloc (.cells #[.bool false, .slice none 0 0, .slice none 0 0] 46)) w3) := hm.choose_spec.choose_spec.choose_spec.choose_spec.2.2.2.2.1; have HK : Hid (Blk w3 w.heap.size 46 #[.bool false, .slice none 0 0, .slice none 0 0]) := Blk.below (Blk.new w _ _) HB.out (by simp); clear hm; have g0 := HK.out.cell 0; have g1 := HK.out.cell 1; have g2 := HK.out.cell 2; have f0 := HK.out.frozen 0; have f1 := HK.out.frozen 1; have f2 := HK.out.frozen 2; simp only [List.getElem?_toArray, List.getElem?_cons_zero, List.getElem?_cons_succ] at g0 g1 g2))
  refine bodyPost_ret (v := .agg #[.bool b, .slice A k c, .slice B m j]) ?_ rfl ⟨b, A, k, c, B, m, j, rfl, ?_⟩
  · simp [results, Tryd.results10, go_sem, g0, g1, g2]
  · exact RMet.stored HM.out
set_option maxHeartbeats 2000000 in
set_option maxRecDepth 100000 in
theorem r_5 (n : Int) (w : World) (hs : wrap64 (n.tdiv 41) % 6 = 5) :
    Calls Tryd.prog 10 #[.int .i64 n] w fun e w' => ∃ b A k c B m j, e = .returned (.agg #[.bool b, .slice A k c, .slice B m j]) ∧ RMet (n % 41 - 20) 4 w w' (.agg #[.bool b, .slice A k c, .slice B m j]) := by
  obtain ⟨x, HI⟩ : ∃ x, Hid (n % 41 = x) := ⟨_, rfl⟩
  have hx0 : 0 ≤ x := by rw [← HI.out]; omega
  have hx1 : x < 41 := by rw [← HI.out]; omega
  rw [HI.out]
  have HS := Lib.hid hs
  have HO : ∀ W, Calls Tryd.prog 23 #[.int .i64 (x - 20), .int .i64 4] W fun e w' => ∃ b A n c B m k, e = .returned (.agg #[.bool b, .slice A n c, .slice B m k]) ∧ RMet (x - 20) 4 W w' (.agg #[.bool b, .slice A n c, .slice B m k]) :=
    fun W => over_run (x - 20) 4 W (CX.qk4 _ (by omega) (by omega))
  replace HO := Lib.hid HO
  clear hs
  have ix : ∀ w, (Instr.index 68 (.agg #[.int .i64 1, .int .i64 1, .int .i64 1, .int .i64 2, .int .i64 3, .int .i64 4]) (.int .i64 5)).run Tryd.prog w = .ok (.int .i64 4) w := fun _ => by kernel_rfl
  go_enter Tryd.func10, Tryd.ntmps10
  go_wp2_with (first
    | (go_at_call 4; refine (pick_any _ _ _ (by decide) (by decide)).mono ?_; rintro e w2 ⟨rfl, rfl⟩; first | rw [HI.out] | rw [HS.out])
    | (go_at_call 23; refine (HO.out _).mono ?_; rintro e w3 ⟨b, A, k, c, B, m, j, rfl, hm⟩; have HM := Lib.hid hm; have HB : Hid (Below (w.alloc (.cells #[.bool false, .slice none 0 0, .slice none 0 0] 46)).heap.size (w.alloc (.cells #[.bool false, .slice none 0 0, .slice none 0 0] 46)) w3) := hm.choose_spec.choose_spec.choose_spec.choose_spec.2.2.2.2.1; have HK : Hid (Blk w3 w.heap.size 46 #[.bool false, .slice none 0 0, .slice none 0 0]) := Blk.below (Blk.new w _ _) HB.out (by simp); clear hm; have g0 := HK.out.cell 0; have g1 := HK.out.cell 1; have g2 := HK.out.cell 2; have f0 := HK.out.frozen 0; have f1 := HK.out.frozen 1; have f2 := HK.out.frozen 2; simp only [List.getElem?_toArray, List.getElem?_cons_zero, List.getElem?_cons_succ] at g0 g1 g2))
  refine bodyPost_ret (v := .agg #[.bool b, .slice A k c, .slice B m j]) ?_ rfl ⟨b, A, k, c, B, m, j, rfl, ?_⟩
  · simp [results, Tryd.results10, go_sem, g0, g1, g2]
  · exact RMet.stored HM.out
theorem r_any (n : Int) (w : World) :
    Calls Tryd.prog 10 #[.int .i64 n] w fun e w' => ∃ b A k c B m j, e = .returned (.agg #[.bool b, .slice A k c, .slice B m j]) ∧ RMet (qI n) (qD n) w w' (.agg #[.bool b, .slice A k c, .slice B m j]) := by
  unfold qI qD
  obtain h | h | h | h | h | h : wrap64 (n.tdiv 41) % 6 = 0 ∨ wrap64 (n.tdiv 41) % 6 = 1 ∨ wrap64 (n.tdiv 41) % 6 = 2 ∨ wrap64 (n.tdiv 41) % 6 = 3 ∨ wrap64 (n.tdiv 41) % 6 = 4 ∨ wrap64 (n.tdiv 41) % 6 = 5 := by omega
  · rw [h]; exact r_0 n w h
  · rw [h]; exact r_1 n w h
  · rw [h]; exact r_2 n w h
  · rw [h]; exact r_3 n w h
  · rw [h]; exact r_4 n w h
  · rw [h]; exact r_5 n w h
theorem qD_le (n : Int) : 1 ≤ qD n ∧ qD n ≤ 4 := by
  unfold qD tb
  split
  · omega
  · split
    · omega
    · split <;> omega
theorem qI_le (n : Int) : -20 ≤ qI n ∧ qI n ≤ 20 := by unfold qI; omega
/- The call of In that follows. -/
theorem in_run (i : Int) (d : Nat) (w w1 : World) (u : Value) (h : RMet i d w w1 u) :
    Calls Tryd.prog 9 #[u] w1 fun e w' => e = .returned (qof i d) ∧ Below w.heap.size w w' := by
  obtain ⟨v1, h1, h2, E, e1, H, hg, hu, hb, hk⟩ := h
  rw [CX.fcall_eq] at e1
  refine (CX.xcall_sound CX.X1_ok e1 H hg (.cons hu .nil)).mono ?_
  rintro e w' ⟨E', u', rfl, st, hv⟩
  have hp : CX.plain (qof i d) = true := by
    unfold qof CX.qv
    rfl
  rw [VR.plain_eq hp hv]
  refine ⟨rfl, hb.trans (st.below hb.size fun k hl hi => hk k hl ?_)⟩
  obtain ⟨j, o, e, a1, _, a3, a4⟩ := hi
  exact ⟨j, o, e, a1, a3, a4⟩
set_option maxHeartbeats 2000000 in
set_option maxRecDepth 100000 in
theorem q_any (n : Int) (w : World) :
    Calls Tryd.prog 5 #[.int .i64 n] w fun e w' => e = .returned (.agg #[.bool (CX.qneg (qI n)), .int .u64 (CX.qnum (qI n) (qD n) : Int), .string ⟨#[]⟩, .int .u64 (CX.qden (qI n) (qD n) : Int), .string ⟨#[]⟩]) ∧ Below w.heap.size w w' := by
  have HI : ∀ (W W1 : World) (u : Value), RMet (qI n) (qD n) W W1 u → Calls Tryd.prog 9 #[u] W1 fun e w' => e = .returned (.agg #[.bool (CX.qneg (qI n)), .int .u64 (CX.qnum (qI n) (qD n) : Int), .string ⟨#[]⟩, .int .u64 (CX.qden (qI n) (qD n) : Int), .string ⟨#[]⟩]) ∧ Below W.heap.size W w' :=
    fun W W1 u h => in_run (qI n) (qD n) W W1 u h
  generalize CX.qneg (qI n) = x at HI ⊢
  generalize CX.qnum (qI n) (qD n) = y at HI ⊢
  generalize CX.qden (qI n) (qD n) = z at HI ⊢
  replace HI := Lib.hid HI
  have HR := Lib.hid (fun W => r_any n W)
  go_enter Tryd.func5, Tryd.ntmps5
  go_wp2_with (first
    | (go_at_call 10; refine (HR.out _).mono ?_; rintro e w2 ⟨b, A, k, c, B, m, j, rfl, hm⟩; have HM := Lib.hid hm; clear hm)
    | (go_at_call 9; refine (HI.out _ _ _ HM.out).mono ?_; rintro e w3 ⟨rfl, hb⟩; have HB := Lib.hid hb; have HK : Hid (Blk w3 w.heap.size 30 #[.bool false, .int .u64 0, .string ⟨#[]⟩, .int .u64 0, .string ⟨#[]⟩]) := Blk.below (Blk.new w _ _) hb (by simp); clear hb; have g0 := HK.out.cell 0; have g1 := HK.out.cell 1; have g2 := HK.out.cell 2; have g3 := HK.out.cell 3; have g4 := HK.out.cell 4; have f0 := HK.out.frozen 0; have f1 := HK.out.frozen 1; have f2 := HK.out.frozen 2; have f3 := HK.out.frozen 3; have f4 := HK.out.frozen 4; simp only [List.getElem?_toArray, List.getElem?_cons_zero, List.getElem?_cons_succ] at g0 g1 g2 g3 g4))
  refine bodyPost_ret (v := .agg #[.bool x, .int .u64 (y : Int), .string ⟨#[]⟩, .int .u64 (z : Int), .string ⟨#[]⟩]) ?_ rfl ⟨rfl, ?_⟩
  · simp [results, Tryd.results5, go_sem, g0, g1, g2, g3, g4]
  · have hb := ((Below.refl w.heap.size w).alloc (Nat.le_refl _) _).trans (HB.out.mono (by simp))
    exact ((((hb.setCell (Nat.le_refl _) _).setCell (Nat.le_refl _) _).setCell (Nat.le_refl _) _).setCell (Nat.le_refl _) _).setCell (Nat.le_refl _) _
end Go.Proofs.YtjohbgkdhppglaaDoor
