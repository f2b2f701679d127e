/-
  A cell that is made: the plain one.
-/
import Derived.Test.YtdlggegdlknkeaaGreatDoorGp2
namespace Go.Proofs.YtdlggegdlknkeaaGreatDoor.Gp
open Go Go.RowKit Ut

/- A cell: does it lack, its fraction, its word. -/
structure RC where
  lk : Bool
  t : Pt
  wd : Nat
def RCellAt (w : World) (r : RC) (v : Value) : Prop := ∃ sA sD, v = .agg ⟨[.bool r.lk, .bool r.t.neg, sA, sD, .int .i64 r.wd]⟩ ∧ FracAt w r.t (.agg ⟨[.bool r.t.neg, sA, sD]⟩)
def rcOk (kd : Nat) (r : RC) : Prop := (r.lk = true ∧ r.t = patZ ∧ r.wd = 0) ∨ (r.lk = false ∧ kd = 0 ∧ isPat r.t = true ∧ r.wd = 0) ∨ (r.lk = false ∧ kd ≠ 0 ∧ r.t = patZ ∧ r.wd < kd)
theorem infoRCell : (Tryz.prog.info? 58).map (·.size) = some 5 := by kernel_rfl
def wdOf (g kd : Nat) : Value := if kd = 0 then .slice none 0 0 else .slice (some ⟨g, 0, none⟩) kd 5
theorem Blk.keep {w w' : World} {g : Nat} {t : TypeId} {cs : Array Value} (h : Blk w g t cs) (hb : Below w.heap.size w w') : Blk w' g t cs := (hb.block g h.lt).trans h
theorem blk5 {w : World} {g : Nat} {T : TypeId} {a b c d e : Value} (h : Blk w g T #[a, b, c, d, e]) : (w.cell? ⟨g, 0, none⟩ = some a ∧ w.cell? ⟨g, 1, none⟩ = some b ∧ w.cell? ⟨g, 2, none⟩ = some c ∧ w.cell? ⟨g, 3, none⟩ = some d ∧ w.cell? ⟨g, 4, none⟩ = some e) ∧ (∀ i, w.frozen? ⟨g, i, none⟩ = false) :=
  ⟨⟨h.cell 0, h.cell 1, h.cell 2, h.cell 3, h.cell 4⟩, h.frozen⟩
def set5 (w : World) (g : Nat) (a b c d e : Value) : World := ((((w.setCell ⟨g, 0, none⟩ a).setCell ⟨g, 1, none⟩ b).setCell ⟨g, 2, none⟩ c).setCell ⟨g, 3, none⟩ d).setCell ⟨g, 4, none⟩ e
theorem set5_blk {w : World} {g : Nat} {T : TypeId} {a b c d e a' b' c' d' e' : Value} (h : Blk w g T #[a', b', c', d', e']) : Blk (set5 w g a b c d e) g T #[a, b, c, d, e] := ((((h.set_ 0 a).set_ 1 b).set_ 2 c).set_ 3 d).set_ 4 e
theorem set5_digs {w : World} {g : Nat} {T : TypeId} {a b c d e a' b' c' d' e' : Value} (h : Blk w g T #[a', b', c', d', e']) (hT : T ≠ 285) : Digs w (set5 w g a b c d e) :=
  ((((Digs.setCell h hT a).trans (Digs.setCell (h.set_ 0 a) hT b)).trans (Digs.setCell ((h.set_ 0 a).set_ 1 b) hT c)).trans (Digs.setCell (((h.set_ 0 a).set_ 1 b).set_ 2 c) hT d)).trans (Digs.setCell ((((h.set_ 0 a).set_ 1 b).set_ 2 c).set_ 3 d) hT e)
theorem set5_below {w w' : World} {B g : Nat} {a b c d e : Value} (h : Below B w w') (hg : B ≤ g) : Below B w (set5 w' g a b c d e) := ((((h.setCell hg a).setCell hg b).setCell hg c).setCell hg d).setCell hg e
def zc : Array Value := #[.bool false, .bool false, .slice none 0 0, .slice none 0 0, .int .i64 0]
theorem Blk.new2 (w : World) (o : Obj) (t : TypeId) (cs : Array Value) : Blk ((w.alloc o).alloc (.cells cs t)) (w.heap.size + 1) t cs := by
  have := Blk.new (w.alloc o) t cs
  rwa [show (w.alloc o).heap.size = w.heap.size + 1 by simp] at this
/- The end of a made cell. -/
theorem cell_end {w w2 : World} {g kd : Nat} {lk : Bool} {t : Pt} {sA sD : Value} {wd : Nat} (hk : Blk w2 g 58 zc) (hg : w.heap.size ≤ g) (hb : Below w.heap.size w w2) (hu : FracAt w2 t (.agg #[.bool t.neg, sA, sD])) (hok : rcOk kd ⟨lk, t, wd⟩) {a : Act} (hp : a.tmps.getD 4 undef = .pointer (some ⟨g, 0, none⟩)) (hd : a.defers = []) :
    bodyPost Tryz.prog Tryz.f15 (fun e w' => ∃ (r : RC) (v : Value), e = .returned v ∧ rcOk kd r ∧ RCellAt w' r v ∧ Below w.heap.size w w') .ret a (set5 w2 g (.bool lk) (.bool t.neg) sA sD (.int .i64 wd)) := by
  refine bodyPost_ret (results_row rfl _ _ g _ _ _ hp (set5_blk hk) Tryz.underlying58 rfl infoRCell) hd ⟨⟨lk, t, wd⟩, _, rfl, hok, ⟨sA, sD, rfl, hu.keep (set5_digs hk (by decide))⟩, set5_below hb hg⟩
set_option maxHeartbeats 4000000 in
set_option maxRecDepth 100000 in
theorem mcell_any (nm : ByteArray) (g kd : Nat) (n : Int) (w : World) (hkd : kd ≤ 5) :
    Calls Tryz.prog 15 #[.agg #[.string nm, .int .i64 (kindOf kd), wdOf g kd], .int .i64 n] w fun e w' => ∃ (r : RC) (v : Value), e = .returned v ∧ rcOk kd r ∧ RCellAt w' r v ∧ Below w.heap.size w w' := by
  by_cases h0 : kd = 0
  · subst h0
    have e1 : kindOf 0 = 1 := rfl
    have e2 : wdOf g 0 = .slice none 0 0 := rfl
    rw [e1, e2]
    go_enter Tryz.func15, Tryz.ntmps15
    go_wp2_with (first
      | (go_at_call 6; refine (pick_some _ _ _ (by omega) (by omega)).mono ?_; rintro e w1 ⟨r, hr, rfl, rfl⟩)
      | (go_at_call 30; refine (of_any _).mono ?_; rintro e w2 ⟨u, rfl, hu, hb⟩; obtain ⟨A, nA, cA, A', nA', cA', rfl⟩ := hu.form; have hk : Blk w2 (w.heap.size + 1) 58 zc := Blk.keep (Blk.new2 _ _ _ _) hb; obtain ⟨⟨c0, c1, c2, c3, c4⟩, fz⟩ := blk5 hk; have hbw : Below w.heap.size w w2 := (((Below.refl _ _).alloc (Nat.le_refl _) _).alloc (by simp) _).trans (hb.mono (by simp; omega)))
      | (go_at_call 31; refine (r_any _ _).mono ?_; rintro e w2 ⟨t, u, rfl, ht, hu, hb⟩; obtain ⟨A, nA, cA, A', nA', cA', rfl⟩ := hu.form; have hk : Blk w2 (w.heap.size + 1) 58 zc := Blk.keep (Blk.new2 _ _ _ _) hb; obtain ⟨⟨c0, c1, c2, c3, c4⟩, fz⟩ := blk5 hk; have hbw : Below w.heap.size w w2 := (((Below.refl _ _).alloc (Nat.le_refl _) _).alloc (by simp) _).trans (hb.mono (by simp; omega))))
    · exact cell_end hk (by omega) hbw hu (.inl ⟨rfl, rfl, rfl⟩) rfl rfl
    · exact cell_end hk (by omega) hbw hu (.inr (.inl ⟨rfl, rfl, ht, rfl⟩)) rfl rfl
  · have e1 : kindOf kd = 2 := if_neg h0
    have e2 : wdOf g kd = .slice (some ⟨g, 0, none⟩) kd 5 := if_neg h0
    rw [e1, e2]
    go_enter Tryz.func15, Tryz.ntmps15
    go_wp2_with (first
      | (go_at_call 6; refine (pick_some _ _ _ (by omega) (by omega)).mono ?_; rintro e w1 ⟨r, hr, rfl, rfl⟩)
      | (go_at_call 30; refine (of_any _).mono ?_; rintro e w2 ⟨u, rfl, hu, hb⟩; obtain ⟨A, nA, cA, A', nA', cA', rfl⟩ := hu.form; have hk : Blk w2 (w.heap.size + 1) 58 zc := Blk.keep (Blk.new2 _ _ _ _) hb; obtain ⟨⟨c0, c1, c2, c3, c4⟩, fz⟩ := blk5 hk; have hbw : Below w.heap.size w w2 := (((Below.refl _ _).alloc (Nat.le_refl _) _).alloc (by simp) _).trans (hb.mono (by simp; omega))))
    · exact cell_end hk (by omega) hbw hu (.inl ⟨rfl, rfl, rfl⟩) rfl rfl
    · have hS : ∀ (W : World) (i : Nat) (v : Value), (W.setCell ⟨w.heap.size + 1, i, none⟩ v).cell? ⟨w.heap.size, 2, none⟩ = W.cell? ⟨w.heap.size, 2, none⟩ := fun W i v => World.cell?_setCell_other W _ _ v (fun e => by have h := congrArg Addr.block e; simp at h; try omega)
      go_region_held3 (fun w' => w'.cell? ⟨w.heap.size, 2, none⟩ = some (.slice (some ⟨g, 0, none⟩) kd 5)) (simp [*]) (first
        | (go_at_call 6; refine (pick_some _ _ _ (by omega) (by omega)).mono ?_; rintro e w1 ⟨r', hr', rfl, rfl⟩)
        | (go_at_call 30; refine (of_any _).mono ?_; rintro e w2 ⟨u, rfl, hu, hb⟩; obtain ⟨A, nA, cA, A', nA', cA', rfl⟩ := hu.form; have hk : Blk w2 (w.heap.size + 1) 58 zc := (hb.block (w.heap.size + 1) (by simp [World.size_drew])).trans (Blk.new2 w _ _ _); obtain ⟨⟨c0, c1, c2, c3, c4⟩, fz⟩ := blk5 hk; have hbw : Below w.heap.size w w2 := (((Below.refl _ _).alloc (Nat.le_refl _) _).alloc (by simp) _).drew.trans (hb.mono (by simp [World.size_drew]; omega)); have x0 : w2.cell? ⟨w.heap.size, 2, none⟩ = some (.slice (some ⟨g, 0, none⟩) kd 5) := (hb.cell (p := ⟨w.heap.size, 2, none⟩) (by simp [World.size_drew]; omega)).trans (by simp [*])))
      all_goals go_wp2
      all_goals exact cell_end hk (by omega) hbw hu (.inr (.inr ⟨rfl, h0, rfl, by show r' < kd; omega⟩)) rfl rfl
end Go.Proofs.YtdlggegdlknkeaaGreatDoor.Gp
