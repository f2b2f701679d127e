/-
  The document's disk: Swap, Crash.
-/
import Derived.Test.YthfmallebojjpaaGreatDoorDk6
namespace Go.Proofs.YthfmallebojjpaaGreatDoor.Dk
open Go Go.RowKit

set_option maxHeartbeats 1000000 in
set_option maxRecDepth 100000 in
theorem rswap_any (g : Nat) (A B : Option Addr) (c d b0 : Nat) (S : St) (f : Int) (ys : List Int) (w : World) (h : Blk w g 39 (rc (.slice A S.xs.length c) S f)) (hf : RF S f)
    (ho : Own w b0 (.slice A S.xs.length c) S.xs) (hok : Ok S) (hy : Rb w B ys) (hl : ys.length ≤ 1000) (_hd : ys.length ≤ d) (hBg : ∀ ad, B = some ad → ¬ ad.block = g) (hb0 : b0 ≤ w.heap.size) :
    Calls Tryz.prog 13 #[.pointer (some ⟨g, 0, none⟩), .slice B ys.length d] w (RPost w g b0 (.slice A S.xs.length c) (sw S ys)) := by
  obtain ⟨⟨c0, c1, c2, c3, c4⟩, fz⟩ := cells5 h
  obtain ⟨k1, k2, k3, k4⟩ := hok
  have hne := Lib.hid (ho.ne h (by decide))
  have H := Lib.hid h
  have HO := Lib.hid ho
  have HY := Lib.hid hy
  have HF := Lib.hid hf
  clear h ho hy hf
  rcases hdd : S.dead with _ | _
  · by_cases hr : S.room < ys.length
    · have hw : Hid (sw S ys = (14, S)) := by show _ = _; rw [sw, if_neg (by rw [hdd]; decide), if_pos hr]
      rw [hdd] at c4
      clear hdd
      go_enter Tryz.func13, Tryz.ntmps13
      go_wp2
      go_ret
      rw [hw.out]
      exact ⟨rfl, A, c, f, H.out, HF.out, HO.out, Alt.refl w _, .inl rfl⟩
    · have hw0 := Lib.hid (show ¬ S.dead = true by rw [hdd]; decide)
      have hr0 := Lib.hid hr
      have hsd := Lib.hid hdd
      have hr1 : ys.length ≤ S.room := by omega
      have hff := HF.out hdd
      rw [hdd] at c4
      clear hdd hr
      rcases hfu : S.fuse with _ | k
      · have hw : Hid (sw S ys = (0, { S with xs := ys, safe := ys.length })) := by show _ = _; rw [sw, if_neg hw0.out, if_neg hr0.out, hfu]
        have hneg := hff.1 hfu
        have HFU := Lib.hid hfu
        clear hfu hff
        go_enter Tryz.func13, Tryz.ntmps13
        go_wp2_with (at_builtin; refine wpList_app _ rfl _ _ rfl (v := .slice (some ⟨w.heap.size, 0, none⟩) 0 0) rfl (own_empty w) (ys := ys) rfl (HY.out.keep (Alt.alloc (Alt.refl w (fun _ => False)) _) (fun _ _ h => h)) (by simp; omega) (by simp) ?_; intro A' c' w1 hown hgrow hblk; simp only [List.nil_append, List.length_nil, Nat.zero_add] at hown hblk; have HB1 : Hid (Blk w1 g 39 (rc (.slice A S.xs.length c) S f)) := Blk.grown (H.out.alloc _) hgrow (fun e => by { have := H.out.lt; injection (show some g = some w.heap.size from e) with e; omega }); have fz1 : ∀ i, w1.frozen? ⟨g, i, none⟩ = false := HB1.out.frozen; have cz0 : w1.cell? ⟨g, 0, none⟩ = some (.slice A S.xs.length c) := by { refine (HB1.out.cell 0).trans ?_; simp [rc, hsd.out] }; have cz1 : w1.cell? ⟨g, 1, none⟩ = some (.int .i64 S.safe) := by { refine (HB1.out.cell 1).trans ?_; simp [rc, hsd.out] }; have cz3 : w1.cell? ⟨g, 3, none⟩ = some (.int .i64 f) := by { refine (HB1.out.cell 3).trans ?_; simp [rc, hsd.out] })
        go_ret
        rw [hw.out]
        refine ⟨rfl, A', c', f, Blk.to ((HB1.out.set_ 0 _).set_ 1 _) (by simp [rc]), ?_, ?_, ?_, ?_⟩
        · exact fun h => ⟨fun _ => hneg, fun k hk => by simp [HFU.out] at hk⟩
        · exact own_more (Own.keep (p := fun k => k = g) (by simpa using hown) (((Alt.refl w1 (fun k => k = g)).set_ rfl _).set_ rfl _) (fun q hq e => by
            subst e
            exact Own.ne (v := .slice A' ys.length c') hown HB1.out (by decide) (by simpa using hq))) hb0
        · exact ((((Alt.alloc (Alt.refl w (fun k => k = g ∨ (Value.slice A S.xs.length c).ownBlock = some k)) _).grown hgrow (fun q hq hlt => by { have e : w.heap.size = q := by { injection (show some w.heap.size = some q from hq) }; omega })).set_ (.inl rfl) _).set_ (.inl rfl) _)
        · right
          intro q hq
          exact (Own.base (v := .slice A' ys.length c') hown (by simpa using hq)).1
      · have hk := k4 k hfu
        obtain rfl := hff.2 k hfu
        by_cases hin : ys.length ≤ k
        · have hw : Hid (sw S ys = (0, { S with xs := ys, safe := ys.length, fuse := some (k - ys.length) })) := by show _ = _; rw [sw, if_neg hw0.out, if_neg hr0.out, hfu]; simp only []; rw [if_pos hin]
          have HFU := Lib.hid hfu
          have HS := Lib.hid (show ((k - ys.length : Nat) : Int) = (k : Int) - ys.length by omega)
          clear hfu hff
          go_enter Tryz.func13, Tryz.ntmps13
          go_wp2_with (at_builtin; refine wpList_app _ rfl _ _ rfl (v := .slice (some ⟨w.heap.size, 0, none⟩) 0 0) rfl (own_empty w) (ys := ys) rfl (HY.out.keep (Alt.alloc (Alt.refl w (fun _ => False)) _) (fun _ _ h => h)) (by simp; omega) (by simp) ?_; intro A' c' w1 hown hgrow hblk; simp only [List.nil_append, List.length_nil, Nat.zero_add] at hown hblk; have HB1 : Hid (Blk w1 g 39 (rc (.slice A S.xs.length c) S k)) := Blk.grown (H.out.alloc _) hgrow (fun e => by { have := H.out.lt; injection (show some g = some w.heap.size from e) with e; omega }); have fz1 : ∀ i, w1.frozen? ⟨g, i, none⟩ = false := HB1.out.frozen; have cz0 : w1.cell? ⟨g, 0, none⟩ = some (.slice A S.xs.length c) := by { refine (HB1.out.cell 0).trans ?_; simp [rc, hsd.out] }; have cz1 : w1.cell? ⟨g, 1, none⟩ = some (.int .i64 S.safe) := by { refine (HB1.out.cell 1).trans ?_; simp [rc, hsd.out] }; have cz3 : w1.cell? ⟨g, 3, none⟩ = some (.int .i64 k) := by { refine (HB1.out.cell 3).trans ?_; simp [rc, hsd.out] })
          go_ret
          rw [hw.out]
          refine ⟨rfl, A', c', ((k - ys.length : Nat) : Int), Blk.to (((HB1.out.set_ 0 _).set_ 1 _).set_ 3 _) (by simp [rc, HS.out]), ?_, ?_, ?_, ?_⟩
          · refine fun h => ⟨fun h => by simp at h, fun j hj => ?_⟩
            have e : k - ys.length = j := by simpa using hj
            omega
          · exact own_more (Own.keep (p := fun k => k = g) (by simpa using hown) ((((Alt.refl w1 (fun k => k = g)).set_ rfl _).set_ rfl _).set_ rfl _) (fun q hq e => by
              subst e
              exact Own.ne (v := .slice A' ys.length c') hown HB1.out (by decide) (by simpa using hq))) hb0
          · exact (((((Alt.alloc (Alt.refl w (fun k => k = g ∨ (Value.slice A S.xs.length c).ownBlock = some k)) _).grown hgrow (fun q hq hlt => by { have e : w.heap.size = q := by { injection (show some w.heap.size = some q from hq) }; omega })).set_ (.inl rfl) _).set_ (.inl rfl) _).set_ (.inl rfl) _)
          · right
            intro q hq
            exact (Own.base (v := .slice A' ys.length c') hown (by simpa using hq)).1
        · have hw : Hid (sw S ys = (15, { S with fuse := some 0, dead := true })) := by show _ = _; rw [sw, if_neg hw0.out, if_neg hr0.out, hfu]; simp only []; rw [if_neg hin]
          have hov : k < ys.length := by omega
          have HFU := Lib.hid hfu
          clear hfu hff hin
          go_enter Tryz.func13, Tryz.ntmps13
          go_wp2
          go_ret
          rw [hw.out]
          refine ⟨rfl, A, c, k, Blk.to (H.out.set_ 4 _) (by simp [rc]), fun h => by simp at h, ?_, (Alt.refl w _).set_ (.inl rfl) _, .inl rfl⟩
          exact HO.out.keep ((Alt.refl w (fun k => k = g)).set_ rfl _) (fun q hq e => hne.out (by rw [hq, e]))
  · have hw : Hid (sw S ys = (15, S)) := by show _ = _; rw [sw, if_pos hdd]
    rw [hdd] at c4
    clear hdd
    go_enter Tryz.func13, Tryz.ntmps13
    go_wp2
    go_ret
    rw [hw.out]
    exact ⟨rfl, A, c, f, H.out, HF.out, HO.out, Alt.refl w _, .inl rfl⟩

end Go.Proofs.YthfmallebojjpaaGreatDoor.Dk
