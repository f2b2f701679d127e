/-
  The document's disk: NewDisk, Sync, Write, Swap, Crash.
-/
import Derived.Test.YthfmallebojjpaaGreatDoorDk5
namespace Go.Proofs.YthfmallebojjpaaGreatDoor.Dk
open Go Go.RowKit

def rc (v : Value) (S : St) (f : Int) : Array Value := #[v, .int .i64 S.safe, .int .i64 S.room, .int .i64 f, .bool S.dead]
def RF (S : St) (f : Int) : Prop := S.dead = false → (S.fuse = none → f < 0) ∧ ∀ k, S.fuse = some k → f = k

set_option maxHeartbeats 400000 in
set_option maxRecDepth 100000 in
theorem rnew_any (n : Int) (w : World) (h0 : -10 ≤ n) (h1 : n ≤ 1000) :
    Calls Tryz.prog 6 #[.int .i64 n] w fun e w' => e = .returned (.pointer (some ⟨w.heap.size, 0, none⟩)) ∧
      w' = w.alloc (.cells (rc (.slice none 0 0) ⟨[], n.toNat, 0, none, false⟩ (-1)) 39) := by
  go_enter Tryz.func6, Tryz.ntmps6
  rcases (show n < 0 ∨ n = 0 ∨ 0 < n by omega) with h | rfl | h
  · have e : n.toNat = 0 := by omega
    go_wp2
    go_ret
    refine ⟨rfl, ?_⟩
    simp [rc, e]
  · go_wp2
    go_ret
    refine ⟨rfl, ?_⟩
    simp [rc]
  · have e : ((n.toNat : Nat) : Int) = n := by omega
    go_wp2
    go_ret
    refine ⟨rfl, ?_⟩
    simp [rc, e]

set_option maxHeartbeats 400000 in
set_option maxRecDepth 100000 in
theorem rsync_any (g : Nat) (A : Option Addr) (c : Nat) (S : St) (f : Int) (w : World) (h : Blk w g 39 (rc (.slice A S.xs.length c) S f)) :
    Calls Tryz.prog 11 #[.pointer (some ⟨g, 0, none⟩)] w fun e w' => e = .returned (.int .i64 (sy S).1) ∧
      Blk w' g 39 (rc (.slice A S.xs.length c) (sy S).2 f) ∧ Alt w w' (fun k => k = g) := by
  obtain ⟨⟨c0, c1, c2, c3, c4⟩, fz⟩ := cells5 h
  have H := Lib.hid h
  clear h
  rcases hd : S.dead with _ | _
  · have HD := Lib.hid hd
    rw [hd] at c4
    clear hd
    go_enter Tryz.func11, Tryz.ntmps11
    go_wp2
    go_ret
    refine ⟨?_, ?_, (Alt.refl w (fun k => k = g)).set_ rfl _⟩
    · rw [sy, if_neg (by rw [HD.out]; decide)]; rfl
    · have h2 := H.out.set_ 1 (.int .i64 (S.xs.length : Int))
      rw [sy, if_neg (by rw [HD.out]; decide)]
      simpa [rc] using h2
  · have HD := Lib.hid hd
    rw [hd] at c4
    clear hd
    go_enter Tryz.func11, Tryz.ntmps11
    go_wp2
    go_ret
    refine ⟨?_, ?_, Alt.refl w (fun k => k = g)⟩
    · rw [sy, if_pos HD.out]; rfl
    · rw [sy, if_pos HD.out]; exact H.out

def RPost (w : World) (g b0 : Nat) (v : Value) (r : Int × St) (e : Ending) (w' : World) : Prop :=
  e = .returned (.int .i64 r.1) ∧ ∃ A' c' f', Blk w' g 39 (rc (.slice A' r.2.xs.length c') r.2 f') ∧ RF r.2 f' ∧ Own w' b0 (.slice A' r.2.xs.length c') r.2.xs ∧
    Alt w w' (fun k => k = g ∨ v.ownBlock = some k) ∧ ((Value.slice A' r.2.xs.length c').ownBlock = v.ownBlock ∨ ∀ k, (Value.slice A' r.2.xs.length c').ownBlock = some k → w.heap.size ≤ k)

set_option maxHeartbeats 1000000 in
set_option maxRecDepth 100000 in
theorem rwrite_any (g : Nat) (A B : Option Addr) (c d b0 : Nat) (S : St) (f : Int) (ys : List Int) (w : World) (h : Blk w g 39 (rc (.slice A S.xs.length c) S f)) (hf : RF S f)
    (ho : Own w b0 (.slice A S.xs.length c) S.xs) (hok : Ok S) (hy : Rb w B ys) (hl : ys.length ≤ 1000) (hd : ys.length ≤ d) (hBg : ∀ ad, B = some ad → ¬ ad.block = g) (hb0 : b0 ≤ w.heap.size) :
    Calls Tryz.prog 9 #[.pointer (some ⟨g, 0, none⟩), .slice B ys.length d] w (RPost w g b0 (.slice A S.xs.length c) (wr S ys)) := by
  obtain ⟨⟨c0, c1, c2, c3, c4⟩, fz⟩ := cells5 h
  obtain ⟨k1, k2, k3, k4⟩ := hok
  have hne := Lib.hid (ho.ne h (by decide))
  have H := Lib.hid h
  have HO := Lib.hid ho
  have HY := Lib.hid hy
  have HF := Lib.hid hf
  clear h ho hy hf
  rcases hdd : S.dead with _ | _
  · by_cases hr : S.room < S.xs.length + ys.length
    · have hw : Hid (wr S ys = (14, S)) := by show _ = _; rw [wr, if_neg (by rw [hdd]; decide), if_pos hr]
      rw [hdd] at c4
      clear hdd
      go_enter Tryz.func9, Tryz.ntmps9
      go_wp2
      go_quiet (fail)
      go_wp2
      go_ret
      rw [hw.out]
      exact ⟨rfl, A, c, f, H.out.drewN _, HF.out, HO.out, (Alt.refl w _).drewN _, .inl rfl⟩
    · have hw0 := Lib.hid (show ¬ S.dead = true by rw [hdd]; decide)
      have hr0 := Lib.hid hr
      have hsd := Lib.hid hdd
      have hr1 : S.xs.length + ys.length ≤ S.room := by omega
      have hff := HF.out hdd
      rw [hdd] at c4
      clear hdd hr
      rcases hfu : S.fuse with _ | k
      · have hw : Hid (wr S ys = (0, { S with xs := S.xs ++ ys })) := by show _ = _; rw [wr, if_neg hw0.out, if_neg hr0.out, hfu]
        have hneg := hff.1 hfu
        have HFU := Lib.hid hfu
        clear hfu hff
        go_enter Tryz.func9, Tryz.ntmps9
        go_wp2
        go_quiet (fail)
        go_wp2_with (at_builtin; refine wpList_app _ rfl _ _ rfl (v := .slice A S.xs.length c) rfl (by exact HO.out) (ys := ys) (by first | rfl | (rw [HE.out]; rfl)) (by exact HY.out) (by first | omega | (simp; omega)) (by first | exact hb0 | simpa using hb0) ?_; intro A' c' w1 hown hgrow hblk; have HB1 : Hid (Blk w1 g 39 (rc (.slice A S.xs.length c) S f)) := Blk.grown (by exact H.out) hgrow (fun e => hne.out e.symm); have fz1 : ∀ i, w1.frozen? ⟨g, i, none⟩ = false := HB1.out.frozen; have cz0 : w1.cell? ⟨g, 0, none⟩ = some (.slice A S.xs.length c) := by { refine (HB1.out.cell 0).trans ?_; simp [rc, hsd.out] }; have cz3 : w1.cell? ⟨g, 3, none⟩ = some (.int .i64 f) := by { refine (HB1.out.cell 3).trans ?_; simp [rc, hsd.out] }; have cz4 : w1.cell? ⟨g, 4, none⟩ = some (.bool false) := by { refine (HB1.out.cell 4).trans ?_; simp [rc, hsd.out] })
        go_ret
        rw [hw.out]
        refine ⟨rfl, A', c', f, Blk.to (HB1.out.set_ 0 _) (by simp [rc]), ?_, ?_, ?_, ?_⟩
        · exact fun h => ⟨fun _ => hneg, fun k hk => by simp [HFU.out] at hk⟩
        · exact Own.keep (p := fun k => k = g) (by simpa using hown) ((Alt.refl w1 (fun k => k = g)).set_ rfl _) (fun q hq e => by
            subst e
            exact Own.ne (v := .slice A' (S.xs.length + (ys).length) c') hown HB1.out (by decide) (by simpa using hq))
        · exact (((Alt.refl w _).drewN _).grown hgrow (fun k hk _ => .inr hk)).set_ (.inl rfl) _
        · rcases hblk with e | e
          · left; simpa using e
          · right
            intro q hq
            simp only [List.length_append] at hq
            rw [e] at hq
            injection hq with hq
            first | (simp at hq; omega) | omega
      · have hk := k4 k hfu
        obtain rfl := hff.2 k hfu
        by_cases hin : ys.length ≤ k
        · have hw : Hid (wr S ys = (0, { S with xs := S.xs ++ ys, fuse := some (k - ys.length) })) := by show _ = _; rw [wr, if_neg hw0.out, if_neg hr0.out, hfu]; simp only []; rw [if_pos hin]
          have HFU := Lib.hid hfu
          have HS := Lib.hid (show ((k - ys.length : Nat) : Int) = (k : Int) - ys.length by omega)
          clear hfu hff
          go_enter Tryz.func9, Tryz.ntmps9
          go_wp2
          go_quiet (fail)
          go_wp2_with (at_builtin; refine wpList_app _ rfl _ _ rfl (v := .slice A S.xs.length c) rfl (by exact HO.out) (ys := ys) (by first | rfl | (rw [HE.out]; rfl)) (by exact HY.out) (by first | omega | (simp; omega)) (by first | exact hb0 | simpa using hb0) ?_; intro A' c' w1 hown hgrow hblk; have HB1 : Hid (Blk w1 g 39 (rc (.slice A S.xs.length c) S k)) := Blk.grown (by exact H.out) hgrow (fun e => hne.out e.symm); have fz1 : ∀ i, w1.frozen? ⟨g, i, none⟩ = false := HB1.out.frozen; have cz0 : w1.cell? ⟨g, 0, none⟩ = some (.slice A S.xs.length c) := by { refine (HB1.out.cell 0).trans ?_; simp [rc, hsd.out] }; have cz3 : w1.cell? ⟨g, 3, none⟩ = some (.int .i64 k) := by { refine (HB1.out.cell 3).trans ?_; simp [rc, hsd.out] }; have cz4 : w1.cell? ⟨g, 4, none⟩ = some (.bool false) := by { refine (HB1.out.cell 4).trans ?_; simp [rc, hsd.out] })
          go_ret
          rw [hw.out]
          refine ⟨rfl, A', c', ((k - ys.length : Nat) : Int), Blk.to ((HB1.out.set_ 0 _).set_ 3 _) (by simp [rc, HS.out]), ?_, ?_, ?_, ?_⟩
          · refine fun h => ⟨fun h => by simp at h, fun j hj => ?_⟩
            have e : k - ys.length = j := by simpa using hj
            omega
          · exact Own.keep (p := fun k => k = g) (by simpa using hown) (((Alt.refl w1 (fun k => k = g)).set_ rfl _).set_ rfl _) (fun q hq e => by
              subst e
              exact Own.ne (v := .slice A' (S.xs.length + (ys).length) c') hown HB1.out (by decide) (by simpa using hq))
          · exact ((((Alt.refl w _).drewN _).grown hgrow (fun k hk _ => .inr hk)).set_ (.inl rfl) _).set_ (.inl rfl) _
          · rcases hblk with e | e
            · left; simpa using e
            · right
              intro q hq
              simp only [List.length_append] at hq
              rw [e] at hq
              injection hq with hq
              first | (simp at hq; omega) | omega
        · have hw : Hid (wr S ys = (15, { S with xs := S.xs ++ ys.take k, fuse := some 0, dead := true })) := by show _ = _; rw [wr, if_neg hw0.out, if_neg hr0.out, hfu]; simp only []; rw [if_neg hin]
          have HE := Lib.hid (show (ys.take k).length = k by simp; omega)
          have hov : k < ys.length := by omega
          have hkd : k ≤ d := by omega
          have HFU := Lib.hid hfu
          clear hfu hff hin
          go_enter Tryz.func9, Tryz.ntmps9
          go_wp2
          go_quiet (fail)
          go_wp2
          go_region_law (first | (refine step_app _ rfl _ _ rfl (v := .slice A S.xs.length c) rfl (by exact HO.out) (ys := ys.take k) (by first | rfl | (rw [HE.out]; rfl)) (by exact HY.out.take_ k) (by first | omega | (simp; omega)) (by first | exact hb0 | simpa using hb0) ?_; intro A' c' w1 hown hgrow hblk; have HB1 : Hid (Blk w1 g 39 (rc (.slice A S.xs.length c) S k)) := Blk.grown (by exact H.out) hgrow (fun e => hne.out e.symm); have fz1 : ∀ i, w1.frozen? ⟨g, i, none⟩ = false := HB1.out.frozen; have cz0 : w1.cell? ⟨g, 0, none⟩ = some (.slice A S.xs.length c) := by { refine (HB1.out.cell 0).trans ?_; simp [rc, hsd.out] }; have cz3 : w1.cell? ⟨g, 3, none⟩ = some (.int .i64 k) := by { refine (HB1.out.cell 3).trans ?_; simp [rc, hsd.out] }; have cz4 : w1.cell? ⟨g, 4, none⟩ = some (.bool false) := by { refine (HB1.out.cell 4).trans ?_; simp [rc, hsd.out] }))
          all_goals
            go_wp2
            go_ret
            rw [hw.out]
            refine ⟨rfl, A', c', 0, Blk.to (((HB1.out.set_ 0 _).set_ 3 _).set_ 4 _) (by simp [rc]), ?_, ?_, ?_, ?_⟩
            · exact fun h => by simp at h
            · exact Own.keep (p := fun k => k = g) (by simpa using hown) ((((Alt.refl w1 (fun k => k = g)).set_ rfl _).set_ rfl _).set_ rfl _) (fun q hq e => by
                subst e
                exact Own.ne (v := .slice A' (S.xs.length + (ys.take k).length) c') hown HB1.out (by decide) (by simpa using hq))
            · exact (((((Alt.refl w _).drewN _).grown hgrow (fun k hk _ => .inr hk)).set_ (.inl rfl) _).set_ (.inl rfl) _).set_ (.inl rfl) _
            · rcases hblk with e | e
              · left; simpa using e
              · right
                intro q hq
                simp only [List.length_append] at hq
                rw [e] at hq
                injection hq with hq
                first | (simp at hq; omega) | omega
  · have hw : Hid (wr S ys = (15, S)) := by show _ = _; rw [wr, if_pos hdd]
    rw [hdd] at c4
    clear hdd
    go_enter Tryz.func9, Tryz.ntmps9
    go_wp2
    go_ret
    rw [hw.out]
    exact ⟨rfl, A, c, f, H.out, HF.out, HO.out, Alt.refl w _, .inl rfl⟩

end Go.Proofs.YthfmallebojjpaaGreatDoor.Dk
