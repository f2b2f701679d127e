/-
  The program's disk: Swap.
-/
import Derived.Test.YthfmallebojjpaaGreatDoorDk4
namespace Go.Proofs.YthfmallebojjpaaGreatDoor.Dk
open Go Go.RowKit

set_option maxHeartbeats 1000000 in
set_option maxRecDepth 100000 in
theorem pswap_any (g : Nat) (A B : Option Addr) (c d b0 : Nat) (S : St) (f : Int) (ys : List Int) (w : World) (h : Blk w g 44 (pc (.slice A S.xs.length c) S f)) (hf : ∀ k, S.fuse = some k → f = k)
    (ho : Own w b0 (.slice A S.xs.length c) S.xs) (hok : Ok S) (hy : Rb w B ys) (hB : B = none → ys.length = 0 ∧ d = 0) (hl : ys.length ≤ 1000) (hBg : ∀ ad, B = some ad → ¬ ad.block = g) (hb0 : b0 ≤ w.heap.size) :
    Calls Tryz.prog 12 #[.pointer (some ⟨g, 0, none⟩), .slice B ys.length d] w (WPost w g b0 (.slice A S.xs.length c) (sw S ys)) := by
  obtain ⟨⟨c0, c1, c2, c3, c4, c5⟩, fz⟩ := cells6 h
  obtain ⟨k1, k2, k3, k4⟩ := hok
  have hne := Lib.hid (ho.ne h (by decide))
  have H := Lib.hid h
  have HO := Lib.hid ho
  have HY := Lib.hid hy
  clear h ho hy
  rcases hdd : S.dead with _ | _
  · by_cases hr : S.room < ys.length
    · have hw : Hid (sw S ys = (14, S)) := by show _ = _; rw [sw, if_neg (by rw [hdd]; decide), if_pos hr]
      rw [hdd] at c3
      clear hdd
      go_enter Tryz.func12, Tryz.ntmps12
      go_wp2
      go_ret
      rw [hw.out]
      exact ⟨rfl, A, c, f, H.out, hf, HO.out, Alt.refl w _, .inl rfl⟩
    · have hw0 := Lib.hid (show ¬ S.dead = true by rw [hdd]; decide)
      have hr0 := Lib.hid hr
      have hsd := Lib.hid hdd
      have hr1 : ys.length ≤ S.room := by omega
      rw [hdd] at c3
      clear hdd hr
      rcases hfu : S.fuse with _ | k
      · have hw : Hid (sw S ys = (0, { S with xs := ys, safe := ys.length })) := by show _ = _; rw [sw, if_neg hw0.out, if_neg hr0.out, hfu]
        have HFU := Lib.hid hfu
        clear hfu
        go_enter Tryz.func12, Tryz.ntmps12
        go_wp2_with (first
            | (go_at_call 21; refine (burn_un g ys.length _ S f _ (by exact H.out) HFU.out).mono ?_; rintro e w1 ⟨rfl, hw1⟩; rw [hw1]; clear hw1 w1)
            | (go_at_call 22; refine (clone_any B d ys _ (by exact HY.out) (by omega) hB).mono ?_; rintro e w1 ⟨A', c', rfl, hown, halt⟩; have HB1 : Hid (Blk w1 g 44 (pc (.slice A S.xs.length c) S f)) := Blk.kept (by exact H.out) halt (fun h => h); have fz1 := HB1.out.frozen 0; have fz2 := HB1.out.frozen 2; have cz0 : w1.cell? ⟨g, 0, none⟩ = some (.slice A S.xs.length c) := by { refine (HB1.out.cell 0).trans ?_; simp [pc] }; have cz2 : w1.cell? ⟨g, 2, none⟩ = some (.int .i64 S.safe) := by { refine (HB1.out.cell 2).trans ?_; simp [pc] }))
        go_ret
        rw [hw.out]
        refine ⟨rfl, A', c', f, Blk.to ((HB1.out.set_ 0 _).set_ 2 _) (by simp [pc]), ?_, ?_, ?_, ?_⟩
        · exact hf
        · exact own_more (Own.keep (p := fun k => k = g) hown (((Alt.refl w1 (fun k => k = g)).set_ rfl _).set_ rfl _) (fun k hk e => by
            subst e
            exact Own.ne hown HB1.out (by decide) hk)) (by first | exact hb0 | simpa using hb0)
        · exact ((Alt.trans (Alt.refl w _) halt (fun _ _ h => h.elim)).set_ (.inl rfl) _).set_ (.inl rfl) _
        · right
          intro k hk
          have := (Own.base hown hk).1
          first | exact this | simpa using this
      · have hk := k4 k hfu
        obtain rfl := hf k hfu
        by_cases hin : ys.length ≤ k
        · have hw : Hid (sw S ys = (0, { S with xs := ys, safe := ys.length, fuse := some (k - ys.length) })) := by show _ = _; rw [sw, if_neg hw0.out, if_neg hr0.out, hfu]; simp only []; rw [if_pos hin]
          have HFU := Lib.hid hfu
          clear hfu hf
          go_enter Tryz.func12, Tryz.ntmps12
          go_wp2_with (first
              | (go_at_call 21; refine (burn_in g ys.length k _ S _ (by exact H.out) HFU.out hin hk).mono ?_; rintro e w1 ⟨rfl, rfl⟩)
              | (go_at_call 22; refine (clone_any B d ys _ (by exact HY.out.keep (((Alt.refl w (fun k => k = g))).set_ rfl _) hBg) (by omega) hB).mono ?_; rintro e w1 ⟨A', c', rfl, hown, halt⟩; have HB1 : Hid (Blk w1 g 44 ((pc (.slice A S.xs.length c) S k).setIfInBounds 5 (.int .i64 ((k - ys.length : Nat) : Int)))) := Blk.kept (by exact H.out.set_ 5 _) halt (fun h => h); have fz1 := HB1.out.frozen 0; have fz2 := HB1.out.frozen 2; have cz0 : w1.cell? ⟨g, 0, none⟩ = some (.slice A S.xs.length c) := by { refine (HB1.out.cell 0).trans ?_; simp [pc] }; have cz2 : w1.cell? ⟨g, 2, none⟩ = some (.int .i64 S.safe) := by { refine (HB1.out.cell 2).trans ?_; simp [pc] }))
          go_ret
          rw [hw.out]
          refine ⟨rfl, A', c', ((k - ys.length : Nat) : Int), Blk.to ((HB1.out.set_ 0 _).set_ 2 _) (by simp [pc, HFU.out]), ?_, ?_, ?_, ?_⟩
          · intro j hj
            have e : k - ys.length = j := by simpa using hj
            omega
          · exact own_more (Own.keep (p := fun k => k = g) hown (((Alt.refl w1 (fun k => k = g)).set_ rfl _).set_ rfl _) (fun k hk e => by
              subst e
              exact Own.ne hown HB1.out (by decide) hk)) (by first | exact hb0 | simpa using hb0)
          · exact ((Alt.trans ((Alt.refl w _).set_ (.inl rfl) _) halt (fun _ _ h => h.elim)).set_ (.inl rfl) _).set_ (.inl rfl) _
          · right
            intro k hk
            have := (Own.base hown hk).1
            first | exact this | simpa using this
        · have hw : Hid (sw S ys = (15, { S with fuse := some 0, dead := true })) := by show _ = _; rw [sw, if_neg hw0.out, if_neg hr0.out, hfu]; simp only []; rw [if_neg hin]
          have hov : k < ys.length := by omega
          have HFU := Lib.hid hfu
          clear hfu hf hin
          go_enter Tryz.func12, Tryz.ntmps12
          go_wp2_with (go_at_call 21; refine (burn_over g ys.length k _ S _ (by exact H.out) HFU.out hov (by omega)).mono ?_; rintro e w1 ⟨rfl, rfl⟩)
          go_ret
          rw [hw.out]
          refine ⟨rfl, A, c, 0, Blk.to ((H.out.set_ 3 _).set_ 5 _) (by simp [pc, HFU.out]), ?_, ?_, ((Alt.refl w _).set_ (.inl rfl) _).set_ (.inl rfl) _, .inl rfl⟩
          · intro j hj
            have e : 0 = j := by simpa using hj
            omega
          · exact HO.out.keep (((Alt.refl w (fun k => k = g)).set_ rfl _).set_ rfl _) (fun k hk e => hne.out (by rw [hk, e]))
  · have hw : Hid (sw S ys = (15, S)) := by show _ = _; rw [sw, if_pos hdd]
    rw [hdd] at c3
    clear hdd
    go_enter Tryz.func12, Tryz.ntmps12
    go_wp2
    go_ret
    rw [hw.out]
    exact ⟨rfl, A, c, f, H.out, hf, HO.out, Alt.refl w _, .inl rfl⟩
end Go.Proofs.YthfmallebojjpaaGreatDoor.Dk
