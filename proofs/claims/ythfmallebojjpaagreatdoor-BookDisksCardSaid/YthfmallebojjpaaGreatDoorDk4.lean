/-
  The program's disk: Write.
-/
import Derived.Test.YthfmallebojjpaaGreatDoorDk3
import Derived.Deep.RegionLaw
namespace Go.Proofs.YthfmallebojjpaaGreatDoor.Dk
open Go Go.RowKit

def WPost (w : World) (g b0 : Nat) (v : Value) (r : Int × St) (e : Ending) (w' : World) : Prop :=
  e = .returned (.int .i64 r.1) ∧ ∃ A' c' f', Blk w' g 44 (pc (.slice A' r.2.xs.length c') r.2 f') ∧ (∀ k, r.2.fuse = some k → f' = k) ∧ Own w' b0 (.slice A' r.2.xs.length c') r.2.xs ∧
    Alt w w' (fun k => k = g ∨ v.ownBlock = some k) ∧ ((Value.slice A' r.2.xs.length c').ownBlock = v.ownBlock ∨ ∀ k, (Value.slice A' r.2.xs.length c').ownBlock = some k → w.heap.size ≤ k)

set_option maxHeartbeats 1000000 in
set_option maxRecDepth 100000 in
theorem pwrite_any (g : Nat) (A B : Option Addr) (c d b0 : Nat) (S : St) (f : Int) (ys : List Int) (w : World) (h : Blk w g 44 (pc (.slice A S.xs.length c) S f)) (hf : ∀ k, S.fuse = some k → f = k)
    (ho : Own w b0 (.slice A S.xs.length c) S.xs) (hok : Ok S) (hy : Rb w B ys) (_hB : B = none → ys.length = 0 ∧ d = 0) (hl : ys.length ≤ 1000) (hd : ys.length ≤ d) (hBg : ∀ ad, B = some ad → ¬ ad.block = g) (hb0 : b0 ≤ w.heap.size) :
    Calls Tryz.prog 8 #[.pointer (some ⟨g, 0, none⟩), .slice B ys.length d] w (WPost w g b0 (.slice A S.xs.length c) (wr S ys)) := by
  obtain ⟨⟨c0, c1, c2, c3, c4, c5⟩, fz⟩ := cells6 h
  obtain ⟨k1, k2, k3, k4⟩ := hok
  have hne := Lib.hid (ho.ne h (by decide))
  have H := Lib.hid h
  have HO := Lib.hid ho
  have HY := Lib.hid hy
  clear h ho hy
  rcases hdd : S.dead with _ | _
  · by_cases hr : S.room < S.xs.length + ys.length
    · have hw : Hid (wr S ys = (14, S)) := by show _ = _; rw [wr, if_neg (by rw [hdd]; decide), if_pos hr]
      rw [hdd] at c3
      clear hdd
      go_enter Tryz.func8, Tryz.ntmps8
      go_wp2
      go_quiet (fail)
      go_wp2
      go_ret
      rw [hw.out]
      exact ⟨rfl, A, c, f, H.out.drewN _, hf, HO.out, (Alt.refl w _).drewN _, .inl rfl⟩
    · have hw0 := Lib.hid (show ¬ S.dead = true by rw [hdd]; decide)
      have hr0 := Lib.hid hr
      have hsd := Lib.hid hdd
      have hr1 : S.xs.length + ys.length ≤ S.room := by omega
      rw [hdd] at c3
      clear hdd hr
      rcases hfu : S.fuse with _ | k
      · have hw : Hid (wr S ys = (0, { S with xs := S.xs ++ ys })) := by show _ = _; rw [wr, if_neg hw0.out, if_neg hr0.out, hfu]
        have HFU := Lib.hid hfu
        clear hfu
        go_enter Tryz.func8, Tryz.ntmps8
        go_wp2
        go_quiet (fail)
        go_wp2
        go_region_law (first
            | (refine step_app _ rfl _ _ rfl (v := .slice A S.xs.length c) rfl (by exact HO.out) (ys := ys) rfl (by exact HY.out) (by first | omega | (simp; omega)) (by first | exact hb0 | simpa using hb0) ?_; intro A' c' w1 hown hgrow hblk; have HB1 : Hid (Blk w1 g 44 (pc (.slice A S.xs.length c) S f)) := Blk.grown (by exact H.out) hgrow (fun e => hne.out e.symm); have fz1 := HB1.out.frozen 0; have cz1 : w1.cell? ⟨g, 0, none⟩ = some (.slice A S.xs.length c) := HB1.out.cell 0; have cz3 : w1.cell? ⟨g, 3, none⟩ = some (.bool false) := by { refine (HB1.out.cell 3).trans ?_; simp [pc, hsd.out] })
            | (go_simp; go_at_call 21; refine (burn_un g ys.length _ S f _ (by exact H.out) HFU.out).mono ?_; rintro e w1 ⟨rfl, rfl⟩))
        all_goals
          go_wp2
          go_ret
          rw [hw.out]
          refine ⟨rfl, A', c', f, Blk.to (HB1.out.set_ 0 _) (by simp [pc]), hf, ?_, ?_, ?_⟩
          · exact Own.keep (p := fun k => k = g) (by simpa using hown) ((Alt.refl w1 (fun k => k = g)).set_ rfl _) (fun k hk e => by
              subst e
              exact Own.ne (v := .slice A' (S.xs.length + ys.length) c') hown HB1.out (by decide) (by simpa using hk))
          · exact (((Alt.refl w _).drewN _).grown hgrow (fun k hk _ => .inr hk)).set_ (.inl rfl) _
          · rcases hblk with e | e
            · left; simpa using e
            · right
              intro k hk
              simp only [List.length_append] at hk
              rw [e] at hk
              injection hk with hk
              rw [← hk]; exact Nat.le_refl _
      · have hk := k4 k hfu
        obtain rfl := hf k hfu
        by_cases hin : ys.length ≤ k
        · have hw : Hid (wr S ys = (0, { S with xs := S.xs ++ ys, fuse := some (k - ys.length) })) := by show _ = _; rw [wr, if_neg hw0.out, if_neg hr0.out, hfu]; simp only []; rw [if_pos hin]
          have HFU := Lib.hid hfu
          clear hfu hf
          go_enter Tryz.func8, Tryz.ntmps8
          go_wp2
          go_quiet (fail)
          go_wp2
          go_region_law (first
            | (refine step_app _ rfl _ _ rfl (v := .slice A S.xs.length c) rfl (by exact HO.out.keep (((Alt.refl w (fun k => k = g)).drewN _).set_ rfl _) (fun k hk e => hne.out (by rw [hk, e]))) (ys := ys) rfl (by exact HY.out.keep (((Alt.refl w (fun k => k = g)).drewN _).set_ rfl _) hBg) (by first | omega | (simp; omega)) (by first | exact hb0 | simpa using hb0) ?_; intro A' c' w1 hown hgrow hblk; have HB1 : Hid (Blk w1 g 44 ((pc (.slice A S.xs.length c) S k).setIfInBounds 5 (.int .i64 ((k - ys.length : Nat) : Int)))) := Blk.grown (by exact (H.out.drewN _).set_ 5 _) hgrow (fun e => hne.out e.symm); have fz1 := HB1.out.frozen 0; have cz1 : w1.cell? ⟨g, 0, none⟩ = some (.slice A S.xs.length c) := by { refine (HB1.out.cell 0).trans ?_; simp [pc] }; have cz3 : w1.cell? ⟨g, 3, none⟩ = some (.bool false) := by { refine (HB1.out.cell 3).trans ?_; simp [pc, hsd.out] })
            | (go_simp; go_at_call 21; refine (burn_in g ys.length k _ S _ (by exact H.out) HFU.out hin hk).mono ?_; rintro e w1 ⟨rfl, rfl⟩))
          all_goals
            go_wp2
            go_ret
            rw [hw.out]
            refine ⟨rfl, A', c', ((k - ys.length : Nat) : Int), Blk.to (HB1.out.set_ 0 _) (by simp [pc, HFU.out]), ?_, ?_, ?_, ?_⟩
            · intro j hj
              have e : k - ys.length = j := by simpa using hj
              omega
            · exact Own.keep (p := fun k => k = g) (by simpa using hown) ((Alt.refl w1 (fun k => k = g)).set_ rfl _) (fun k hk e => by
                subst e
                exact Own.ne (v := .slice A' (S.xs.length + (ys).length) c') hown HB1.out (by decide) (by simpa using hk))
            · exact ((((Alt.refl w _).drewN _).set_ (.inl rfl) _).grown hgrow (fun k hk _ => .inr hk)).set_ (.inl rfl) _
            · rcases hblk with e | e
              · left; simpa using e
              · right
                intro k hk
                simp only [List.length_append] at hk
                rw [e] at hk
                injection hk with hk
                simp at hk
                omega
        · have hw : Hid (wr S ys = (15, { S with xs := S.xs ++ ys.take k, fuse := some 0, dead := true })) := by show _ = _; rw [wr, if_neg hw0.out, if_neg hr0.out, hfu]; simp only []; rw [if_neg hin]
          have HE := Lib.hid (show (ys.take k).length = k by simp; omega)
          have hov : k < ys.length := by omega
          have hkd : k ≤ d := by omega
          have HFU := Lib.hid hfu
          clear hfu hf hin
          go_enter Tryz.func8, Tryz.ntmps8
          go_wp2
          go_quiet (fail)
          go_wp2
          go_region_law (first
            | (refine step_app _ rfl _ _ rfl (v := .slice A S.xs.length c) rfl (by exact HO.out.keep ((((Alt.refl w (fun k => k = g)).drewN _).set_ rfl _).set_ rfl _) (fun k hk e => hne.out (by rw [hk, e]))) (ys := ys.take k) (by rw [HE.out]; rfl) (by exact (HY.out.take_ k).keep ((((Alt.refl w (fun k => k = g)).drewN _).set_ rfl _).set_ rfl _) hBg) (by first | omega | (simp; omega)) (by first | exact hb0 | simpa using hb0) ?_; intro A' c' w1 hown hgrow hblk; have HB1 : Hid (Blk w1 g 44 (((pc (.slice A S.xs.length c) S k).setIfInBounds 3 (.bool true)).setIfInBounds 5 (.int .i64 0))) := Blk.grown (by exact ((H.out.drewN _).set_ 3 _).set_ 5 _) hgrow (fun e => hne.out e.symm); have fz1 := HB1.out.frozen 0; have cz1 : w1.cell? ⟨g, 0, none⟩ = some (.slice A S.xs.length c) := by { refine (HB1.out.cell 0).trans ?_; simp [pc] }; have cz3 : w1.cell? ⟨g, 3, none⟩ = some (.bool true) := by { refine (HB1.out.cell 3).trans ?_; simp [pc, hsd.out] })
            | (go_simp; go_at_call 21; refine (burn_over g ys.length k _ S _ (by exact H.out) HFU.out hov (by omega)).mono ?_; rintro e w1 ⟨rfl, rfl⟩))
          all_goals
            go_wp2
            go_ret
            rw [hw.out]
            refine ⟨rfl, A', c', 0, Blk.to (HB1.out.set_ 0 _) (by simp [pc, HFU.out]), ?_, ?_, ?_, ?_⟩
            · intro j hj
              have e : 0 = j := by simpa using hj
              omega
            · exact Own.keep (p := fun k => k = g) (by simpa using hown) ((Alt.refl w1 (fun k => k = g)).set_ rfl _) (fun q hq e => by
                subst e
                exact Own.ne (v := .slice A' (S.xs.length + (ys.take k).length) c') hown HB1.out (by decide) (by simpa using hq))
            · exact (((((Alt.refl w _).drewN _).set_ (.inl rfl) _).set_ (.inl rfl) _).grown hgrow (fun k hk _ => .inr hk)).set_ (.inl rfl) _
            · rcases hblk with e | e
              · left; simpa using e
              · right
                intro k hk
                simp only [List.length_append] at hk
                rw [e] at hk
                injection hk with hk
                simp at hk
                omega
  · have hw : Hid (wr S ys = (15, S)) := by show _ = _; rw [wr, if_pos hdd]
    rw [hdd] at c3
    clear hdd
    go_enter Tryz.func8, Tryz.ntmps8
    go_wp2
    go_ret
    rw [hw.out]
    exact ⟨rfl, A, c, f, H.out, hf, HO.out, Alt.refl w _, .inl rfl⟩
end Go.Proofs.YthfmallebojjpaaGreatDoor.Dk
