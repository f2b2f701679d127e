/-
  part.Folds and part.Even, walked. cross.Parts, walked. The document's goal by name, and its parts.
-/
import Derived.Test.YthallgbggkgboaaGreatDoorQd
namespace Go.Proofs.YthallgbggkgboaaGreatDoor.Gp
open Go Go.RowKit Ut

theorem Alt.then_below {w w' w'' : World} {p : Nat → Prop} (h : Alt w w' p) (hb : Below w'.heap.size w' w'') : Alt w w'' p :=
  ⟨hb.os.trans h.os, hb.tape.trans h.tape, hb.output.trans h.output, Nat.le_trans h.size hb.size, fun k hk hp => (hb.block k (Nat.lt_of_lt_of_le hk h.size)).trans (h.block k hk hp)⟩
def ordL (F n s : Nat) : List Nat := (ordP F (n - 1) (List.range n) s).1
theorem ordL_length (F n s : Nat) : (ordL F n s).length = n := by unfold ordL; rw [ordP_length, List.length_range]
theorem ordL_all {F n s : Nat} (h : 0 < n) : ∀ x ∈ ordL F n s, x < n := ordP_all F (n - 1) (List.range n) s n (fun _ hx => List.mem_range.1 hx) h
def dealt (k : Nat) (l : List Nat) : List (List Nat) := (dealP k l 0 (List.replicate k [])).map ascP
def foldsP (F n k s : Nat) : List (List Nat) × Nat := if 2 ≤ k ∧ k ≤ n then (dealt k (ordL F n s), 0) else ([], 1)
def big (lab : List Nat) : Bool := lab.any fun x => decide (12 ≤ x)
def evenP (F : Nat) (lab : List Nat) (n k s : Nat) : List (List Nat) × Nat := if 2 ≤ k ∧ k ≤ n ∧ big lab = false then (dealt k (srtP lab (n - 1) 1 (ordL F n s)), 0) else ([], 1)
def PartsOut (R : List (List Nat) × Nat) (w : World) (p : Nat → Prop) (e : Ending) (w' : World) : Prop := ∃ v, e = .returned (.tuple #[v, .int .i64 (R.2 : Int)]) ∧ RdP w' v R.1 ∧ Alt w w' p
theorem PartsOut.none_ {w w' : World} {p : Nat → Prop} (h : Alt w w' p) : PartsOut ([], 1) w p (.returned (.tuple #[.slice none 0 0, .int .i64 1])) w' := ⟨_, rfl, RdP.nil _, h⟩
theorem order_at {F : Nat} (hF : F = 12) (g s n : Nat) (w : World) (h : Blk w g 112 #[.int .u64 (s : Int)]) (hs : s < MM) (h2 : 2 ≤ n) (h12 : n ≤ 12) :
    Calls Tryz.prog 33 #[.pointer (some ⟨g, 0, none⟩), .int .i64 (n : Int)] w fun e w' => e = .returned (.slice (some ⟨w.heap.size, 0, none⟩) n n) ∧ Blk w' w.heap.size 3 (ints (ordL F n s)) ∧ Alt w w' (fun k => k = g) := (order_any hF g s n w h hs h2 h12).mono fun _ _ ⟨h1, h2, _, _, h3⟩ => ⟨h1, h2, h3⟩
set_option maxHeartbeats 2000000 in
set_option maxRecDepth 100000 in
theorem folds_any {F : Nat} (hF : F = 12) {g s n k : Nat} {w : World} (h : Blk w g 112 #[.int .u64 (s : Int)]) (hs : s < MM) (h12 : n ≤ 12) (h6 : k ≤ 6) :
    Calls Tryz.prog 20 #[.int .i64 (n : Int), .int .i64 (k : Int), .pointer (some ⟨g, 0, none⟩)] w fun e w' => PartsOut (foldsP F n k s) w (fun k => k = g) e w' := by
  by_cases h2 : 2 ≤ k
  · by_cases hkn : k ≤ n
    · have hR : foldsP F n k s = (dealt k (ordL F n s), 0) := if_pos ⟨h2, hkn⟩
      rw [hR]
      have HO : Hid (Calls Tryz.prog _ _ w _) := Lib.hid (order_at hF g s n w h hs (by omega) h12)
      have HL : Hid ((ordL F n s).length = n) := ordL_length F n s
      clear h hs hR
      generalize ordL F n s = l at *
      have d1 : decide ((k : Int) < 2) = false := by simp; omega
      have d2 : decide ((n : Int) < (k : Int)) = false := by simp; omega
      have d3 : decide ((300 : Int) < (n : Int)) = false := by simp; omega
      have e1 : ¬ (k : Int) < 2 := by omega
      have e2 : ¬ (n : Int) < (k : Int) := by omega
      have e3 : ¬ (300 : Int) < (n : Int) := by omega
      go_enter Tryz.func20, Tryz.ntmps20
      go_wp2_with (first
        | (go_at_call 33; refine HO.out.mono ?_; rintro e w2 ⟨rfl, hb2, ha2⟩; have HB2 := Lib.hid hb2; have HA2 := Lib.hid ha2; clear hb2 ha2)
        | (go_at_call 37; refine (deal_any HB2.out HL.out h12 h2 h6 hkn).mono ?_; rintro e w3 ⟨v, rfl, hv, hb3⟩))
      go_ret2
      exact ⟨_, rfl, hv, HA2.out.then_below hb3⟩
    · have hR : foldsP F n k s = ([], 1) := if_neg (fun h => hkn h.2)
      rw [hR]
      clear h hs hR
      have d1 : decide ((k : Int) < 2) = false := by simp; omega
      have d2 : decide ((n : Int) < (k : Int)) = true := by simp; omega
      have e1 : ¬ (k : Int) < 2 := by omega
      have e2 : (n : Int) < (k : Int) := by omega
      go_enter Tryz.func20, Tryz.ntmps20
      go_wp2
      go_ret2
      exact PartsOut.none_ (Alt.refl _ _)
  · have hR : foldsP F n k s = ([], 1) := if_neg (fun h => h2 h.1)
    rw [hR]
    clear h hs hR
    have d1 : decide ((k : Int) < 2) = true := by simp; omega
    have e1 : (k : Int) < 2 := by omega
    go_enter Tryz.func20, Tryz.ntmps20
    go_wp2
    go_ret2
    exact PartsOut.none_ (Alt.refl _ _)
set_option maxHeartbeats 4000000 in
set_option maxRecDepth 100000 in
theorem even_any {F : Nat} (hF : F = 12) {g s n k c G : Nat} {lab : List Nat} {w : World} (h : Blk w g 112 #[.int .u64 (s : Int)]) (hs : s < MM) (h12 : n ≤ 12) (h6 : k ≤ 6) (hG : G < w.heap.size) (hlen : lab.length = n) (hcell : ∀ (j : Nat) (h : j < lab.length), w.cell? ⟨G, j, none⟩ = some (.int .i64 (lab[j] : Int))) (hGg : G ≠ g) :
    Calls Tryz.prog 19 #[.slice (some ⟨G, 0, none⟩) n c, .int .i64 (k : Int), .pointer (some ⟨g, 0, none⟩)] w fun e w' => PartsOut (evenP F lab n k s) w (fun k => k = g) e w' := by
  have hg := h.lt
  by_cases h2 : 2 ≤ k
  · by_cases hkn : k ≤ n
    · have HLAB : Hid (Lab (w.alloc (.cells #[.slice (some ⟨G, 0, none⟩) n c] 22)) w.heap.size G n c lab) := ⟨Blk.new _ _ _, by rw [World.size_alloc]; omega, hlen, fun j hj => (World.cell?_alloc_lt _ _ _ hG).trans (hcell j hj)⟩
      have HCELL : Hid (∀ (j : Nat) (h : j < lab.length), (w.alloc (.cells #[.slice (some ⟨G, 0, none⟩) n c] 22)).cell? ⟨G, j, none⟩ = some (.int .i64 (lab[j] : Int))) := HLAB.out.cell
      have HO : Hid (Calls Tryz.prog _ _ (w.alloc (.cells #[.slice (some ⟨G, 0, none⟩) n c] 22)) _) := Lib.hid (order_at hF g s n _ (h.alloc _) hs (by omega) h12)
      have HL : Hid ((ordL F n s).length = n) := ordL_length F n s
      have HALL : Hid (∀ x ∈ ordL F n s, x < n) := ordL_all (by omega)
      have HR : Hid ((big lab = false → evenP F lab n k s = (dealt k (srtP lab (n - 1) 1 (ordL F n s)), 0)) ∧ (big lab = true → evenP F lab n k s = ([], 1))) := ⟨fun hb => if_pos ⟨h2, hkn, hb⟩, fun hb => if_neg (fun h => by rw [hb] at h; exact absurd h.2.2 (by decide))⟩
      clear h hs hcell
      have HLEN := Lib.hid hlen
      clear hlen
      generalize evenP F lab n k s = R at *
      generalize ordL F n s = l at *
      have d1 : decide ((k : Int) < 2) = false := by simp; omega
      have d2 : decide ((n : Int) < (k : Int)) = false := by simp; omega
      have d3 : decide ((300 : Int) < (n : Int)) = false := by simp; omega
      have e1 : ¬ (k : Int) < 2 := by omega
      have e2 : ¬ (n : Int) < (k : Int) := by omega
      have e3 : ¬ (300 : Int) < (n : Int) := by omega
      go_enter Tryz.func19, Tryz.ntmps19
      go_wp2
      generalize hw1 : w.alloc (.cells #[.slice (some ⟨G, 0, none⟩) n c] 22) = w1 at *
      have hs1 : w1.heap.size = w.heap.size + 1 := by rw [← hw1, World.size_alloc]
      have HA1 : Hid (Alt w w1 (fun k => k = g)) := by rw [← hw1]; exact (Alt.refl _ _).alloc _
      go_loopw [27] (fun iv wr => ∃ j : Nat, j ≤ n ∧ iv = .int .i64 (j : Int) ∧ wr = w1 ∧ Hid (∀ (i : Nat) (h : i < lab.length), i < j → lab[i] < 12)) (fun iv _ => n - (intOf iv).toNat)
      case atStart => exact ⟨0, Nat.zero_le _, rfl, rfl, fun i _ hi => absurd hi (Nat.not_lt_zero _)⟩
      case round =>
        obtain ⟨j, hj, rfl, rfl, hsm⟩ := hrel
        by_cases hgo : j < n
        · have hjl : j < lab.length := by rw [HLEN.out]; exact hgo
          have c0 := HCELL.out j hjl
          have hx0 : ¬ ((lab[j] : Nat) : Int) < 0 := by omega
          by_cases hx : 12 ≤ lab[j]
          · have hbig : big lab = true := List.any_eq_true.2 ⟨lab[j], List.getElem_mem hjl, by simpa using hx⟩
            have hRR := Lib.hid (HR.out.2 hbig)
            have hx1 : ((lab[j] : Nat) : Int) ≥ 12 := by omega
            generalize lab[j] = x at *
            go_wp2
            go_ret2
            rw [hRR.out]
            exact PartsOut.none_ HA1.out
          · have hx1 : ¬ ((lab[j] : Nat) : Int) ≥ 12 := by omega
            have hnew : Hid (∀ (i : Nat) (h : i < lab.length), i < j + 1 → lab[i] < 12) := fun i hi hij => by
              by_cases e : i = j
              · subst e; omega
              · exact hsm.out i hi (by omega)
            generalize lab[j] = x at *
            go_wp2
            exact ⟨⟨j + 1, by omega, by go_num, by first | rfl | trivial, hnew.out⟩, by simp [intOf]; omega⟩
        · have hjn : j = n := by omega
          subst hjn
          have hbig : big lab = false := by
            unfold big
            rw [List.any_eq_false]
            intro x hx
            obtain ⟨i, hi, rfl⟩ := List.getElem_of_mem hx
            have := hsm.out i hi (by rw [← HLEN.out]; exact hi)
            simp; omega
          have hRR := Lib.hid (HR.out.1 hbig)
          clear hbig
          go_wp2_with (first
            | (go_at_call 33; refine HO.out.mono ?_; rintro e w2 ⟨rfl, hb2, ha2⟩; rw [hs1] at hb2; have HB2 := Lib.hid hb2; have HA2 := Lib.hid ha2; clear hb2 ha2)
            | (go_at_call 34; refine (sortStable_any (HLAB.out.kept HA2.out (by show w.heap.size ≠ g; omega) hGg) HB2.out HL.out HALL.out (by omega) h12 (by omega) (by omega)).mono ?_; rintro e w3 ⟨rfl, hb3, ha3⟩; have HB3 := Lib.hid hb3; have HA3 := Lib.hid ha3; clear hb3 ha3)
            | (go_at_call 37; refine (deal_any HB3.out (by rw [srtP_length]; exact HL.out) h12 h2 h6 hkn).mono ?_; rintro e w4 ⟨v, rfl, hv, hb4⟩))
          go_ret2
          rw [hRR.out]
          exact ⟨_, rfl, hv, (((HA1.out.trans HA2.out (fun k _ h => h)).trans HA3.out (fun k hk h => by omega)).then_below hb4)⟩
    · have hR : evenP F lab n k s = ([], 1) := if_neg (fun h => hkn h.2.1)
      rw [hR]
      clear h hs hR hcell
      have d1 : decide ((k : Int) < 2) = false := by simp; omega
      have d2 : decide ((n : Int) < (k : Int)) = true := by simp; omega
      have e1 : ¬ (k : Int) < 2 := by omega
      have e2 : (n : Int) < (k : Int) := by omega
      go_enter Tryz.func19, Tryz.ntmps19
      go_wp2
      go_ret2
      exact PartsOut.none_ ((Alt.refl _ _).alloc _)
  · have hR : evenP F lab n k s = ([], 1) := if_neg (fun h => h2 h.1)
    rw [hR]
    clear h hs hR hcell
    have d1 : decide ((k : Int) < 2) = true := by simp; omega
    have e1 : (k : Int) < 2 := by omega
    go_enter Tryz.func19, Tryz.ntmps19
    go_wp2
    go_ret2
    exact PartsOut.none_ ((Alt.refl _ _).alloc _)
end Go.Proofs.YthallgbggkgboaaGreatDoor.Gp
namespace Go.Proofs.YthallgbggkgboaaGreatDoor.Gp
open Go Go.RowKit Ut

def partsD (F : Nat) (D : GD) (n k s : Nat) : List (List Nat) × Nat := if D.er = 0 then (if D.a = 1 then evenP F D.ns n k s else foldsP F n k s) else ([], D.er.toNat)
def ofD (cs : List CI) (gs : List (List PC × Value)) (nm : ByteArray) : GD := if (colF nm cs 0).2 = true then goalD cs gs ((colF nm cs 0).1 : Int) else ⟨11, 0, 0, [], []⟩
def partsP (F : Nat) (cs : List CI) (gs : List (List PC × Value)) (nm : ByteArray) (k s : Nat) : List (List Nat) × Nat := partsD F (ofD cs gs nm) gs.length k s
def PartsB (R : List (List Nat) × Nat) (w : World) (e : Ending) (w' : World) : Prop := ∃ v, e = .returned (.tuple #[v, .int .i64 (R.2 : Int)]) ∧ RdP w' v R.1 ∧ Below w.heap.size w w'
/- What a goal's data say about their sizes. -/
structure GOk (D : GD) (n : Nat) : Prop where
  er : 0 ≤ D.er
  one : D.er = 0 → D.a = 1 → D.ns.length = n ∧ 1 ≤ n
  two : D.er = 0 → D.a ≠ 1 → D.fs.length = n
theorem goalD_ok (cs : List CI) (gs : List (List PC × Value)) (col : Int) : GOk (goalD cs gs col) gs.length := by
  unfold goalD
  split
  · rename_i h
    split
    · exact ⟨by decide, fun h => absurd h (by decide), fun h => absurd h (by decide)⟩
    · split
      · exact ⟨by show (0 : Int) ≤ 0; decide, fun _ h => absurd (show (2 : Int) = 1 from h) (by decide), fun _ _ => by simp⟩
      · exact ⟨by show (0 : Int) ≤ 0; decide, fun _ _ => ⟨by simp, by omega⟩, fun _ h => absurd rfl h⟩
  · exact ⟨by decide, fun h => absurd h (by decide), fun h => absurd h (by decide)⟩
theorem ofD_ok (cs : List CI) (gs : List (List PC × Value)) (nm : ByteArray) : GOk (ofD cs gs nm) gs.length := by
  unfold ofD
  split
  · exact goalD_ok _ _ _
  · exact ⟨by decide, fun h => absurd h (by decide), fun h => absurd h (by decide)⟩
theorem new_at (s : Nat) (w : World) : Calls Tryz.prog 18 #[.int .u64 (s : Int)] w fun e w' => e = .returned (.pointer (some ⟨w.heap.size, 0, none⟩)) ∧ Blk w' w.heap.size 112 #[.int .u64 (s : Int)] ∧ Below w.heap.size w w' ∧ w'.heap.size = w.heap.size + 1 :=
  (new_any s w).mono fun _ _ ⟨h1, h2⟩ => by subst h2; exact ⟨h1, Blk.new _ _ _, (Below.refl _ _).alloc (Nat.le_refl _) _, by simp⟩
theorem PartsOut.b {R : List (List Nat) × Nat} {w w0 w' : World} {p : Nat → Prop} {e : Ending} (h : PartsOut R w p e w') (hb : Below w0.heap.size w0 w) (hp : ∀ k, p k → w0.heap.size ≤ k) : PartsB R w0 e w' := by
  obtain ⟨v, h1, h2, h3⟩ := h
  exact ⟨v, h1, h2, hb.trans (h3.below hp hb.size)⟩
theorem ReadI.form {w : World} {v : Value} {ns : List Nat} (h : ReadI w v ns) : ∃ A n c, v = .slice A n c := by
  obtain ⟨b, h⟩ := h
  obtain ⟨A, c, e, _⟩ := own_slice h
  exact ⟨_, _, _, e⟩
theorem ReadQ.form {w : World} {v : Value} {fs : List PC} (h : ReadQ w v fs) : ∃ A n c, v = .slice A n c := by
  obtain ⟨b, h⟩ := h
  obtain ⟨A, c, e, _⟩ := own_slice h
  exact ⟨_, _, _, e⟩
theorem ReadI.row {w : World} {v : Value} {ns : List Nat} {m : Nat} (h : ReadI w v ns) (hm : ns.length = m) (h0 : 1 ≤ m) : ∃ G c, v = .slice (some ⟨G, 0, none⟩) m c ∧ G < w.heap.size ∧ ∀ (j : Nat) (h : j < ns.length), w.cell? ⟨G, j, none⟩ = some (.int .i64 (ns[j] : Int)) := by
  subst hm
  obtain ⟨base, h⟩ := h
  obtain ⟨G, c, rfl, hG⟩ := row_form h h0
  obtain ⟨g', hA, _, _, hc⟩ := own_cell h h0
  injection hA with hA
  injection hA with hA
  subst hA
  exact ⟨G, c, rfl, hG, fun j hj => hc j _ (by rw [List.getElem?_map, List.getElem?_eq_getElem hj]; rfl)⟩
set_option maxHeartbeats 4000000 in
set_option maxRecDepth 100000 in
theorem parts_any {F : Nat} (hF : F = 12) (cu ru : Value) (cs : List CI) (b : Nat) (gs : List (List PC × Value)) (nm : ByteArray) (k s : Nat) (w : World) (h : SheetOk w cu ru cs b gs) (h6 : k ≤ 6) (hs : s < MM) :
    Calls Tryz.prog 7 #[.agg #[cu, ru], .string nm, .int .i64 (k : Int), .int .u64 (s : Int)] w fun e w' => PartsB (partsP F cs gs nm k s) w e w' := by
  have HCHK : Hid (∀ o, Calls Tryz.prog _ _ (w.alloc o) _) := Lib.hid (fun o => check_any _ _ cs b gs (w.alloc o) (h.below ((Below.refl _ _).alloc (Nat.le_refl _) o)))
  have HGO : Hid (∀ W col, Below w.heap.size w W → Calls Tryz.prog _ _ W _) := Lib.hid (fun W col hb => goal_any _ _ cs b gs col W (h.below hb))
  have HCOL : Hid (∀ W, Below w.heap.size w W → Calls Tryz.prog _ _ W _) := Lib.hid (fun W hb => column_any _ _ cs b gs nm W (h.below hb))
  have h12 := h.r12
  obtain ⟨g, c, A2, c2, rfl, rfl, hcc⟩ := h.form
  have HBOX : Hid (∀ W, Below (w.heap.size + 1) (w.alloc (.cells #[.slice (some ⟨g, 0, none⟩) cs.length c, .slice A2 gs.length c2] 29)) W → (W.cell? ⟨w.heap.size, 0, none⟩ = some (.slice (some ⟨g, 0, none⟩) cs.length c) ∧ W.cell? ⟨w.heap.size, 1, none⟩ = some (.slice A2 gs.length c2)) ∧ Below w.heap.size w W ∧ w.heap.size + 1 ≤ W.heap.size) := fun W h => by
    have hk := (h.block w.heap.size (by omega)).trans (Blk.new w _ _)
    exact ⟨⟨Blk.cell hk 0, Blk.cell hk 1⟩, ((Below.refl _ _).alloc (Nat.le_refl _) _).trans (h.mono (by omega)), by have := h.size; simpa using this⟩
  clear h
  have HR : Hid (partsP F cs gs nm k s = partsD F (ofD cs gs nm) gs.length k s) := rfl
  have HD : Hid (ofD cs gs nm = if (colF nm cs 0).2 = true then goalD cs gs ((colF nm cs 0).1 : Int) else ⟨11, 0, 0, [], []⟩) := rfl
  have HOK := Lib.hid (ofD_ok cs gs nm)
  generalize partsP F cs gs nm k s = R at *
  generalize colF nm cs 0 = cb at *
  obtain ⟨ci, bo⟩ := cb
  cases bo with
  | false =>
    have hD := HD.out
    rw [if_neg (fun h => absurd (show false = true from h) (by decide))] at hD
    rw [hD] at HR
    have hR : R = ([], 11) := HR.out
    subst hR
    clear hD
    go_enter Tryz.func7, Tryz.ntmps7
    go_wp2_with (first
      | (go_at_call 15; refine (HCHK.out _).mono ?_; rintro e w2 ⟨rfl, hb2⟩; rw [World.size_alloc] at hb2; obtain ⟨⟨r0, r1⟩, hB2, hsz2⟩ := HBOX.out _ hb2; have HB2 := Lib.hid hb2; clear hb2)
      | (go_at_call 16; refine (HCOL.out _ hB2).mono ?_; rintro e w3 ⟨rfl, hb3⟩; obtain ⟨⟨q0, q1⟩, hB3, hsz3⟩ := HBOX.out _ (HB2.out.trans (hb3.mono hsz2)); have HB3 := Lib.hid (HB2.out.trans (hb3.mono hsz2)); clear hb3))
    go_ret2
    exact ⟨_, rfl, RdP.nil _, hB3⟩
  | true =>
    have hD := HD.out
    rw [if_pos rfl] at hD
    rw [hD] at HR HOK
    clear hD HD
    have HGC : Hid (∀ W, Below w.heap.size w W → Calls Tryz.prog _ _ W _) := Lib.hid (fun W hb => HGO.out W ((ci : Nat) : Int) hb)
    clear HGO
    change Hid (R = partsD F (goalD cs gs ((ci : Nat) : Int)) gs.length k s) at HR
    change Hid (GOk (goalD cs gs ((ci : Nat) : Int)) gs.length) at HOK
    generalize goalD cs gs ((ci : Nat) : Int) = D at *
    obtain ⟨er, a, n, ns, fs⟩ := D
    have HG2 : Hid (∀ W, Below w.heap.size w W → Calls Tryz.prog 17 #[.agg #[.slice (some ⟨g, 0, none⟩) cs.length c, .slice A2 gs.length c2], .int .i64 (ci : Int)] W fun e w' => ∃ lv qv, e = .returned (.tuple #[.agg #[.int .i64 a, .int .i64 n, lv, qv], .int .i64 er]) ∧ ReadI w' lv ns ∧ ReadQ w' qv fs ∧ Below W.heap.size W w') := fun W hb => (HGC.out W hb).mono fun _ _ ⟨lv, qv, h1, h2, h3, _, h4⟩ => ⟨lv, qv, h1, h2, h3, h4⟩
    clear HGC
    obtain ⟨m, rfl⟩ := Int.eq_ofNat_of_zero_le (show 0 ≤ er from HOK.out.er)
    by_cases hm : m = 0
    · subst hm
      by_cases ha : a = 1
      · subst ha
        obtain ⟨hnl, hn1⟩ := HOK.out.one rfl rfl
        replace hnl : ns.length = gs.length := hnl
        have hRR : R = evenP F ns gs.length k s := HR.out
        subst hRR
        clear HR HOK
        generalize gs.length = N at *
        have HNL := Lib.hid hnl
        clear hnl
        go_enter Tryz.func7, Tryz.ntmps7
        go_wp2_with (first
          | (go_at_call 15; refine (HCHK.out _).mono ?_; rintro e w2 ⟨rfl, hb2⟩; rw [World.size_alloc] at hb2; obtain ⟨⟨r0, r1⟩, hB2, hsz2⟩ := HBOX.out _ hb2; have HB2 := Lib.hid hb2; clear hb2)
          | (go_at_call 16; refine (HCOL.out _ hB2).mono ?_; rintro e w3 ⟨rfl, hb3⟩; obtain ⟨⟨q0, q1⟩, hB3, hsz3⟩ := HBOX.out _ (HB2.out.trans (hb3.mono hsz2)); have HB3 := Lib.hid (HB2.out.trans (hb3.mono hsz2)); clear hb3)
          | (go_at_call 17; refine (HG2.out _ hB3).mono ?_; rintro e w4 ⟨lv, qv, rfl, hl, hq, hb4⟩; obtain ⟨Q1, Q2, Q3, rfl⟩ := hq.form; clear hq; obtain ⟨G, cl, rfl, hG, hcell⟩ := hl.row HNL.out hn1; have HCELL := Lib.hid hcell; clear hcell hl; obtain ⟨⟨t0, t1⟩, hB4, hsz4⟩ := HBOX.out _ (HB3.out.trans (hb4.mono hsz3)); have HB4 := Lib.hid (HB3.out.trans (hb4.mono hsz3)); clear hb4)
          | (go_at_call 18; refine (new_at s _).mono ?_; rintro e w5 ⟨rfl, hd5, hb5, hs5⟩; rw [World.size_alloc] at *; have kG := (hb5.block w4.heap.size (by omega)).trans (Blk.new w4 _ _); have a0 := Blk.cell kG 0; have a2 := Blk.cell kG 2; simp only [List.getElem?_toArray, List.getElem?_cons_zero, List.getElem?_cons_succ] at a0 a2; have B45 : Below w4.heap.size w4 w5 := ((Below.refl _ _).alloc (Nat.le_refl _) _).trans (hb5.mono (by omega)); have HD5 := Lib.hid hd5; clear kG hb5 hd5)
          | (go_at_call 19; refine (even_any hF HD5.out hs h12 h6 (by omega) HNL.out (fun j hj => (B45.cell (p := ⟨G, j, none⟩) hG).trans (HCELL.out j hj)) (by omega)).mono ?_; rintro e w6 ⟨v, rfl, hv, ha6⟩))
        go_ret2
        subst hF
        exact ⟨_, rfl, hv, (hB4.trans (B45.mono hB4.size)).trans (ha6.below (by intro k hk; omega) (by omega))⟩
      · have hRR : R = foldsP F gs.length k s := HR.out.trans ((if_pos rfl).trans (if_neg ha))
        subst hRR
        have da : decide (a = 1) = false := by simp [ha]
        clear HR HOK
        generalize gs.length = N at *
        go_enter Tryz.func7, Tryz.ntmps7
        go_wp2_with (first
          | (go_at_call 15; refine (HCHK.out _).mono ?_; rintro e w2 ⟨rfl, hb2⟩; rw [World.size_alloc] at hb2; obtain ⟨⟨r0, r1⟩, hB2, hsz2⟩ := HBOX.out _ hb2; have HB2 := Lib.hid hb2; clear hb2)
          | (go_at_call 16; refine (HCOL.out _ hB2).mono ?_; rintro e w3 ⟨rfl, hb3⟩; obtain ⟨⟨q0, q1⟩, hB3, hsz3⟩ := HBOX.out _ (HB2.out.trans (hb3.mono hsz2)); have HB3 := Lib.hid (HB2.out.trans (hb3.mono hsz2)); clear hb3)
          | (go_at_call 17; refine (HG2.out _ hB3).mono ?_; rintro e w4 ⟨lv, qv, rfl, hl, hq, hb4⟩; obtain ⟨Q1, Q2, Q3, rfl⟩ := hq.form; obtain ⟨L1, L2, L3, rfl⟩ := hl.form; clear hl hq; obtain ⟨⟨t0, t1⟩, hB4, hsz4⟩ := HBOX.out _ (HB3.out.trans (hb4.mono hsz3)); have HB4 := Lib.hid (HB3.out.trans (hb4.mono hsz3)); clear hb4)
          | (go_at_call 18; refine (new_at s _).mono ?_; rintro e w5 ⟨rfl, hd5, hb5, hs5⟩; rw [World.size_alloc] at *; have kG := (hb5.block w4.heap.size (by omega)).trans (Blk.new w4 _ _); have a0 := Blk.cell kG 0; simp only [List.getElem?_toArray, List.getElem?_cons_zero] at a0; have B45 : Below w4.heap.size w4 w5 := ((Below.refl _ _).alloc (Nat.le_refl _) _).trans (hb5.mono (by omega)); obtain ⟨⟨u0, u1⟩, hB5, hsz5⟩ := HBOX.out _ (HB4.out.trans (B45.mono hsz4)); have HD5 := Lib.hid hd5; clear kG hb5 hd5)
          | (go_at_call 20; refine (folds_any hF HD5.out hs h12 h6).mono ?_; rintro e w6 ⟨v, rfl, hv, ha6⟩))
        go_ret2
        subst hF
        exact ⟨_, rfl, hv, hB5.trans (ha6.below (by intro k hk; omega) (by omega))⟩
    · have hRR : R = ([], m) := HR.out.trans ((if_neg (by simpa using hm)).trans (by simp))
      subst hRR
      clear HR HOK
      have dm : decide ((m : Int) = 0) = false := by simp; omega
      have em : ¬ (m : Int) = 0 := by omega
      generalize gs.length = N at *
      go_enter Tryz.func7, Tryz.ntmps7
      go_wp2_with (first
        | (go_at_call 15; refine (HCHK.out _).mono ?_; rintro e w2 ⟨rfl, hb2⟩; rw [World.size_alloc] at hb2; obtain ⟨⟨r0, r1⟩, hB2, hsz2⟩ := HBOX.out _ hb2; have HB2 := Lib.hid hb2; clear hb2)
        | (go_at_call 16; refine (HCOL.out _ hB2).mono ?_; rintro e w3 ⟨rfl, hb3⟩; obtain ⟨⟨q0, q1⟩, hB3, hsz3⟩ := HBOX.out _ (HB2.out.trans (hb3.mono hsz2)); have HB3 := Lib.hid (HB2.out.trans (hb3.mono hsz2)); clear hb3)
        | (go_at_call 17; refine (HG2.out _ hB3).mono ?_; rintro e w4 ⟨lv, qv, rfl, hl, hq, hb4⟩; obtain ⟨Q1, Q2, Q3, rfl⟩ := hq.form; obtain ⟨L1, L2, L3, rfl⟩ := hl.form; clear hl hq; obtain ⟨⟨t0, t1⟩, hB4, hsz4⟩ := HBOX.out _ (HB3.out.trans (hb4.mono hsz3)); have HB4 := Lib.hid (HB3.out.trans (hb4.mono hsz3)); clear hb4))
      go_ret2
      exact ⟨_, rfl, RdP.nil _, hB4.alloc hB4.size _⟩
end Go.Proofs.YthallgbggkgboaaGreatDoor.Gp
namespace Go.Proofs.YthallgbggkgboaaGreatDoor.Gp
open Go Go.RowKit Ut

set_option maxHeartbeats 4000000 in
set_option maxRecDepth 100000 in
theorem of36_any (cu ru : Value) (cs : List CI) (b : Nat) (gs : List (List PC × Value)) (nm : ByteArray) (w : World) (h : SheetOk w cu ru cs b gs) :
    Calls Tryz.prog 21 #[.agg #[cu, ru], .string nm] w fun e w' => GoalOut (ofD cs gs nm) w e w' := by
  have HCHK : Hid (∀ o o', Calls Tryz.prog _ _ ((w.alloc o).alloc o') _) := Lib.hid (fun o o' => check_any _ _ cs b gs ((w.alloc o).alloc o') (h.below (((Below.refl _ _).alloc (Nat.le_refl _) o).alloc (by simp) o')))
  have HGO : Hid (∀ W col, Below w.heap.size w W → Calls Tryz.prog _ _ W _) := Lib.hid (fun W col hb => of_goal_any _ _ cs b gs col W (h.below hb))
  have HCOL : Hid (∀ W, Below w.heap.size w W → Calls Tryz.prog _ _ W _) := Lib.hid (fun W hb => column_any _ _ cs b gs nm W (h.below hb))
  obtain ⟨g, c, A2, c2, rfl, rfl, hcc⟩ := h.form
  have HBOX : Hid (∀ W, Below (w.heap.size + 2) ((w.alloc (.cells #[.slice (some ⟨g, 0, none⟩) cs.length c, .slice A2 gs.length c2] 29)).alloc (.cells gz 67)) W → (W.cell? ⟨w.heap.size, 0, none⟩ = some (.slice (some ⟨g, 0, none⟩) cs.length c) ∧ W.cell? ⟨w.heap.size, 1, none⟩ = some (.slice A2 gs.length c2)) ∧ Blk W (w.heap.size + 1) 67 gz ∧ Below w.heap.size w W ∧ w.heap.size + 2 ≤ W.heap.size) := fun W h => by
    have hk := (h.block w.heap.size (by omega)).trans ((Blk.new w _ _).alloc _)
    exact ⟨⟨Blk.cell hk 0, Blk.cell hk 1⟩, (h.block (w.heap.size + 1) (by omega)).trans (Blk.new2 w _ _ _), (((Below.refl _ _).alloc (Nat.le_refl _) _).alloc (by simp) _).trans (h.mono (by omega)), by have := h.size; simpa using this⟩
  clear h
  have HD : Hid (ofD cs gs nm = if (colF nm cs 0).2 = true then goalD cs gs ((colF nm cs 0).1 : Int) else ⟨11, 0, 0, [], []⟩) := rfl
  generalize ofD cs gs nm = D0 at *
  generalize colF nm cs 0 = cb at *
  obtain ⟨ci, bo⟩ := cb
  cases bo with
  | false =>
    have hD : D0 = ⟨11, 0, 0, [], []⟩ := HD.out.trans (if_neg (fun h => absurd (show false = true from h) (by decide)))
    subst hD
    go_enter Tryz.func21, Tryz.ntmps21
    go_wp2_with (first
      | (go_at_call 15; refine (HCHK.out _ _).mono ?_; rintro e w2 ⟨rfl, hb2⟩; rw [show ∀ o o', ((w.alloc o).alloc o').heap.size = w.heap.size + 2 from fun _ _ => by simp] at hb2; obtain ⟨⟨r0, r1⟩, _, hB2, hsz2⟩ := HBOX.out _ hb2; have HB2 := Lib.hid hb2; clear hb2)
      | (go_at_call 16; refine (HCOL.out _ hB2).mono ?_; rintro e w3 ⟨rfl, hb3⟩; obtain ⟨⟨q0, q1⟩, hres, hB3, hsz3⟩ := HBOX.out _ (HB2.out.trans (hb3.mono hsz2)); clear hb3; have fz := hres.frozen; have s0 := hres.cell 0; have s1 := hres.cell 1; have s2 := hres.cell 2; have s3 := hres.cell 3; simp only [gz, List.getElem?_toArray, List.getElem?_cons_zero, List.getElem?_cons_succ] at s0 s1 s2 s3))
    exact goal_end (D := ⟨11, 0, 0, [], []⟩) rfl hres (by omega) hB3 (readI_nil _) (readQ_nil _) (fun c hc => by cases hc) rfl rfl rfl
  | true =>
    have hD : D0 = goalD cs gs ((ci : Nat) : Int) := HD.out.trans (if_pos rfl)
    have HGC : Hid (∀ W, Below w.heap.size w W → Calls Tryz.prog _ _ W _) := Lib.hid (fun W hb => HGO.out W ((ci : Nat) : Int) hb)
    rw [← hD] at HGC
    clear HGO HD hD
    go_enter Tryz.func21, Tryz.ntmps21
    go_wp2_with (first
      | (go_at_call 15; refine (HCHK.out _ _).mono ?_; rintro e w2 ⟨rfl, hb2⟩; rw [show ∀ o o', ((w.alloc o).alloc o').heap.size = w.heap.size + 2 from fun _ _ => by simp] at hb2; obtain ⟨⟨r0, r1⟩, _, hB2, hsz2⟩ := HBOX.out _ hb2; have HB2 := Lib.hid hb2; clear hb2)
      | (go_at_call 16; refine (HCOL.out _ hB2).mono ?_; rintro e w3 ⟨rfl, hb3⟩; obtain ⟨⟨q0, q1⟩, _, hB3, hsz3⟩ := HBOX.out _ (HB2.out.trans (hb3.mono hsz2)); have HB3 := Lib.hid (HB2.out.trans (hb3.mono hsz2)); clear hb3)
      | (go_at_call 38; refine (HGC.out _ hB3).mono ?_; rintro e w4 ⟨lv, qv, rfl, hl, hq, hqk, hb4⟩; obtain ⟨L1, L2, L3, rfl⟩ := hl.form; obtain ⟨Q1, Q2, Q3, rfl⟩ := hq.form; have HL := Lib.hid hl; have HQ := Lib.hid hq; have HQK := Lib.hid hqk; clear hl hq hqk; obtain ⟨_, hres, hB4, hsz4⟩ := HBOX.out _ (HB3.out.trans (hb4.mono hsz3)); clear hb4; have fz := hres.frozen; have s0 := hres.cell 0; have s1 := hres.cell 1; have s2 := hres.cell 2; have s3 := hres.cell 3; simp only [gz, List.getElem?_toArray, List.getElem?_cons_zero, List.getElem?_cons_succ] at s0 s1 s2 s3))
    exact goal_end rfl hres (by omega) hB4 HL.out HQ.out HQK.out rfl rfl rfl
theorem ReadQ.row {w : World} {v : Value} {fs : List PC} {m : Nat} (h : ReadQ w v fs) (hm : fs.length = m) : ∃ A c, v = .slice A m c := by
  subst hm
  obtain ⟨b, h⟩ := h
  obtain ⟨A, c, e, _⟩ := own_slice h
  exact ⟨A, c, e⟩
end Go.Proofs.YthallgbggkgboaaGreatDoor.Gp
