/-
  batch.Form: its contract.
-/
import Derived.Test.YtjohbgkdhppglaaDoorA
import Derived.OwnWalk
import Derived.OneCell
import Derived.Laws.MakeOwn
import Derived.Laws.Entries
namespace Go.Proofs.YtjohbgkdhppglaaDoor
open Go.RowKit

theorem Tryd.infoGroup : (Tryd.prog.info? 56).map (fun i => (i.zero, i.size, i.bytes)) = some (some (.agg #[.slice none 0 0, .int .i64 0]), 2, 32) := by kernel_rfl
theorem Tryd.infoInt : (Tryd.prog.info? 3).map (fun i => (i.zero, i.size, i.bytes)) = some (some (.int .i64 0), 1, 8) := by kernel_rfl

theorem run_make_rowN {P : Program} (t e : TypeId) (i : TypeInfo) (z : Value) (ht : P.underlying t = some (.slice e)) (hi : P.info? e = some i) (hz : i.zero = some z)
    (kl kc : IntKind) (n c : Nat) (hnc : n ≤ c) (hbytes : i.bytes * c ≤ 281474976710656) (h63 : c ≤ 9223372036854775807) (w : World) :
    (Instr.makeSlice t (.int kl (n : Int)) (.int kc (c : Int))).run P w = .ok (.slice (some ⟨w.heap.size, 0, none⟩) n c) (w.alloc (.cells (madeCells z.cells (c * i.size)) e)) := by
  have hb : (i.bytes : Int) * (c : Int) ≤ 281474976710656 := by
    have h : ((i.bytes * c : Nat) : Int) ≤ 281474976710656 := by omega
    rwa [Int.natCast_mul] at h
  have hr := run_make (P := P) w t e i z ht hi hz kl kc n c (by omega) (by omega) hb (by omega)
  simp only [Int.toNat_natCast] at hr
  exact hr

def Blk (w : World) (g : Nat) (t : TypeId) (cs : Array Value) : Prop := w.heap[g]? = some (.cells cs t (0, 0))
section
variable {w w' : World} {g : Nat} {t : TypeId} {cs : Array Value}
theorem Blk.lt (h : Blk w g t cs) : g < w.heap.size := lt_of_block h
theorem Blk.cell (h : Blk w g t cs) (i : Nat) : w.cell? ⟨g, i, none⟩ = cs[i]? := by
  unfold Blk at h; simp [World.cell?, h]
theorem Blk.frozen (h : Blk w g t cs) (i : Nat) : w.frozen? ⟨g, i, none⟩ = false := by
  unfold Blk at h
  simp [World.frozen?, h]
theorem Blk.new (w : World) (t : TypeId) (cs : Array Value) : Blk (w.alloc (.cells cs t)) w.heap.size t cs := heap_alloc_new w _
theorem Blk.drewN (h : Blk w g t cs) (n : Nat) : Blk (w.drewN n) g t cs := h
theorem Blk.alloc (h : Blk w g t cs) (o : Obj) : Blk (w.alloc o) g t cs := (Below.heap_alloc w o g h.lt).trans h
theorem Blk.set_ (h : Blk w g t cs) (i : Nat) (u : Value) : Blk (w.setCell ⟨g, i, none⟩ u) g t (cs.setIfInBounds i u) := by
  unfold Blk at h ⊢
  simp [World.setCell, Array.getElem?_modify, h]
theorem Blk.far (h : Blk w g t cs) {p : Addr} (hp : g ≠ p.block) (u : Value) : Blk (w.setCell p u) g t cs := (Below.heap_setCell w p u g hp).trans h
theorem Blk.below {B : Nat} (h : Blk w g t cs) (hb : Below B w w') (hg : g < B) : Blk w' g t cs := (hb.block g hg).trans h
theorem Blk.grown {row : Option Nat} (h : Blk w g t cs) (hb : w.grownBy w' row) (hg : some g ≠ row) : Blk w' g t cs := (hb.block g h.lt hg).trans h
theorem Blk.ne_ {g' : Nat} {t' : TypeId} {cs' : Array Value} (h : Blk w g t cs) (h' : Blk w g' t' cs') (hne : t ≠ t') : g ≠ g' := by
  rintro rfl
  unfold Blk at h h'
  rw [h] at h'
  injection h' with h'
  injection h' with _ ht
  exact hne ht
theorem own_blk_ne {base : Nat} {e : TypeId} {size n : Nat} {v : Value} {xs : List Value} (h : w.ownsRow base e size v n xs) (hg : Blk w g t cs) (hne : e ≠ t) : v.ownBlock ≠ some g := by
  rcases h.2 with ⟨rfl, _⟩ | ⟨g', cap, cur, rfl, _, hh, _⟩
  · simp [Value.ownBlock]
  · intro he
    have : g' = g := by simpa [Value.ownBlock] using he
    subst this
    exact Blk.ne_ (t := e) hh hg hne rfl
end

/- The numbers 0 to n - 1 in a row, the first k of them laid. -/
def fillA (n k : Nat) : Array Value := ((List.range n).map fun i => if i < k then Value.int .i64 i else Value.int .i64 0).toArray
theorem fillA_at {n k i : Nat} (h : i < n) : (fillA n k)[i]? = some (if i < k then Value.int .i64 i else Value.int .i64 0) := by
  simp [fillA, h]
theorem fillA_step {n k : Nat} (h : k < n) : (fillA n k).setIfInBounds k (.int .i64 (k : Int)) = fillA n (k + 1) := by
  apply Array.ext_getElem?
  intro i
  rw [Array.getElem?_setIfInBounds]
  by_cases hi : i < n
  · by_cases he : k = i
    · subst he; simp [fillA, hi]
    · rw [if_neg he, fillA_at hi, fillA_at hi]
      have e : (i < k) = (i < k + 1) := propext ⟨fun h => by omega, fun h => by omega⟩
      simp only [e]
  · rw [if_neg (by omega)]
    simp [fillA, hi]
theorem fillA_zero (n : Nat) : madeCells #[.int .i64 0] n = fillA n 0 := by
  apply Array.ext'
  rw [toList_madeCells_one]
  simp [fillA]
  rw [List.map_const']
  simp

/- The groups' cells: each of two, the requests' slice (a part of the row of block 'ba') and the time. -/
def flat (ba : Nat) : List Pl.Grp → List Value
  | [] => []
  | g :: l => .slice (some ⟨ba, g.fr, none⟩) (g.to - g.fr) (g.to - g.fr) :: .int .i64 g.time :: flat ba l
theorem flat_length (ba : Nat) : ∀ l, (flat ba l).length = l.length * 2
  | [] => rfl
  | _ :: l => by simp [flat, flat_length ba l]; omega
theorem flat_snoc (ba : Nat) (g : Pl.Grp) : ∀ l, flat ba (l ++ [g]) = flat ba l ++ [.slice (some ⟨ba, g.fr, none⟩) (g.to - g.fr) (g.to - g.fr), .int .i64 g.time]
  | [] => rfl
  | _ :: l => by simp [flat, flat_snoc ba g l]

theorem own_base {w : World} {base : Nat} {e : TypeId} {size n : Nat} {v : Value} {xs : List Value} (h : w.ownsRow base e size v n xs) {k : Nat} (hk : v.ownBlock = some k) : base ≤ k ∧ k < w.heap.size := by
  rcases h.2 with ⟨rfl, _⟩ | ⟨g', cap, cur, rfl, hb, hh, _⟩
  · simp [Value.ownBlock] at hk
  · have : g' = k := by simpa [Value.ownBlock] using hk
    subst this
    exact ⟨hb, lt_of_block hh⟩
theorem own_less {w : World} {base base' : Nat} {e : TypeId} {size n : Nat} {v : Value} {xs : List Value} (h : w.ownsRow base e size v n xs) (hb : base' ≤ base) : w.ownsRow base' e size v n xs := by
  refine ⟨h.1, ?_⟩
  rcases h.2 with h0 | ⟨g', cap, cur, h1, h2, h3⟩
  · exact .inl h0
  · exact .inr ⟨g', cap, cur, h1, by omega, h3⟩
theorem two_new (wd : World) (o : Obj) (x y : Value) (t : TypeId) : ∀ j u, [x, y][j]? = some u → ((wd.alloc o).alloc (.cells #[x, y] t)).cell? (Addr.add ⟨wd.heap.size + 1, 0, none⟩ j) = some u := by
  intro j u h
  have hb : Blk ((wd.alloc o).alloc (.cells #[x, y] t)) (wd.heap.size + 1) t #[x, y] := by
    have := Blk.new (wd.alloc o) t #[x, y]; simpa using this
  match j, h with
  | 0, h => rw [show Addr.add ⟨wd.heap.size + 1, 0, none⟩ 0 = ⟨wd.heap.size + 1, 0, none⟩ by rfl, hb.cell]; simpa using h
  | 1, h => rw [show Addr.add ⟨wd.heap.size + 1, 0, none⟩ 1 = ⟨wd.heap.size + 1, 1, none⟩ by rfl, hb.cell]; simpa using h
theorem two_one (a : Option Addr) (n c : Nat) (x : Int) : ∀ u ∈ [Value.slice a n c, .int .i64 x], u.oneCell' = true := by
  intro u hu
  simp at hu
  rcases hu with rfl | rfl <;> rfl
theorem grp_full {xs : List Int} {M : Nat} {wait : Int} {fr to : Nat} (hS : Pl.endOf xs M wait fr = to) (hM : to - fr = M) (h : to - 1 < xs.length) : Pl.grp xs M wait fr = ⟨fr, to, xs[to - 1]⟩ := by
  unfold Pl.grp Pl.timeOf
  rw [hS, if_pos hM, show xs.getD (to - 1) 0 = xs[to - 1] by simp [h]]
theorem grp_part {xs : List Int} {M : Nat} {wait : Int} {fr to : Nat} (hS : Pl.endOf xs M wait fr = to) (hM : ¬ to - fr = M) (h : fr < xs.length) : Pl.grp xs M wait fr = ⟨fr, to, xs[fr] + wait⟩ := by
  unfold Pl.grp Pl.timeOf
  rw [hS, if_neg hM, show xs.getD fr 0 = xs[fr] by simp [h]]
theorem form_step {w wd w1 : World} {xs : List Int} {M : Nat} {wait : Int} {fr to : Nat} {time : Int} {gs : List Pl.Grp} {v v' : Value} {o1 o2 : Obj} {cs : Array Value}
    (hown : wd.ownsRow (w.heap.size + 3) 56 2 v gs.length (flat (w.heap.size + 1 + 1) gs)) (hB : Blk wd (w.heap.size + 1 + 1) 3 (fillA xs.length xs.length))
    (hR : Blk wd w.heap.size 53 cs) (hbel : Below w.heap.size w wd) (hsz : w.heap.size + 3 ≤ wd.heap.size)
    (hown' : w1.ownsRow (w.heap.size + 3) 56 2 v' (gs.length + 1) (flat (w.heap.size + 1 + 1) gs ++ [.slice (some ⟨w.heap.size + 1 + 1, fr, none⟩) (to - fr) (to - fr), .int .i64 time]))
    (hgrow : ((wd.alloc o1).alloc o2).grownBy w1 v.ownBlock) (hG : Pl.grp xs M wait fr = ⟨fr, to, time⟩) (hform : Pl.form xs M wait 0 = gs ++ Pl.form xs M wait fr) (hfr : fr < xs.length) (hS : Pl.endOf xs M wait fr = to) :
    Hid (Pl.form xs M wait 0 = (gs ++ [(⟨fr, to, time⟩ : Pl.Grp)]) ++ Pl.form xs M wait to) ∧
    Hid (w1.ownsRow (w.heap.size + 3) 56 2 v' (gs ++ [(⟨fr, to, time⟩ : Pl.Grp)]).length (flat (w.heap.size + 1 + 1) (gs ++ [(⟨fr, to, time⟩ : Pl.Grp)]))) ∧ Hid (Blk w1 (w.heap.size + 1 + 1) 3 (fillA xs.length xs.length)) ∧
    Hid (Blk w1 w.heap.size 53 cs) ∧ Below w.heap.size w w1 ∧ w.heap.size + 3 ≤ w1.heap.size := by
  have hne1 := own_blk_ne hown hB (by decide)
  have hne2 := own_blk_ne hown hR (by decide)
  have hs1 := hgrow.size
  simp at hs1
  refine ⟨?_, ?_, ?_, ?_, ?_, ?_⟩
  · show _ = _
    rw [hform, Pl.form_cons hfr, hG, hS]; simp
  · show World.ownsRow _ _ _ _ _ _ _
    rw [flat_snoc, List.length_append]; exact hown'
  · exact ((hB.alloc _).alloc _).grown hgrow (fun e => hne1 e.symm)
  · exact ((hR.alloc _).alloc _).grown hgrow (fun e => hne2 e.symm)
  · refine ((hbel.alloc (by omega) _).alloc (by simp; omega) _).grown hgrow (by simp; omega) (fun k hk => ?_)
    have := own_base hown hk; omega
  · omega

def FormGood (w : World) (xs : List Int) (most : Nat) (wait : Int) (e : Ending) (w' : World) : Prop :=
  ∃ v ba, e = .returned (.tuple #[v, .int .i64 0]) ∧ w'.ownsRow w.heap.size 56 2 v (Pl.form xs most wait 0).length (flat ba (Pl.form xs most wait 0)) ∧
    w.heap.size ≤ ba ∧ Blk w' ba 3 (fillA xs.length xs.length) ∧ Below w.heap.size w w'
def FormPost (w : World) (xs : List Int) (most wait : Int) (e : Ending) (w' : World) : Prop :=
  (Pl.code xs most wait ≠ 0 ∧ e = .returned (.tuple #[.slice none 0 0, .int .i64 (Pl.code xs most wait)]) ∧ Below w.heap.size w w') ∨
  (Pl.code xs most wait = 0 ∧ FormGood w xs most.toNat wait e w')

theorem bad_post {w w' : World} {xs : List Int} {most wait : Int} {n : Int} {e : Ending} (hc : Pl.code xs most wait = n) (hn : n ≠ 0) (he : e = .returned (.tuple #[.slice none 0 0, .int .i64 n])) (hb : Below w.heap.size w w') :
    FormPost w xs most wait e w' := .inl ⟨by omega, by rw [hc]; exact he, hb⟩

set_option maxHeartbeats 2000000 in
set_option maxRecDepth 100000 in
theorem form_any (A : Option Addr) (c : Nat) (xs : List Int) (most wait : Int) (w : World) (hx : IntsIn w w.heap.size A xs) (hl : xs.length ≤ 9223372036854775806) :
    Calls Tryd.prog 11 #[.slice A xs.length c, .agg #[.int .i64 most, .int .i64 wait]] w (FormPost w xs most wait) := by
  have HX := Lib.hid hx
  clear hx
  rcases hrb : Pl.okRules most wait with _ | _
  · have HR := Lib.hid hrb
    clear hrb
    have hcode : Hid (Pl.code xs most wait = 1) := by unfold Pl.code; rw [if_pos HR.out]; rfl
    go_enter Tryd.func11, Tryd.ntmps11
    go_wp2_with (go_at_call 24; refine (fine_any _ _ _).mono ?_; rintro e w' ⟨rfl, rfl⟩; rw [HR.out])
    go_ret2
    exact bad_post hcode.out (by omega) rfl (((Below.refl _ _).alloc (Nat.le_refl _) _).alloc (by simp) _)
  · have HR := Lib.hid hrb
    have hb : 1 ≤ most ∧ most ≤ 300 ∧ 0 ≤ wait ∧ wait ≤ 1073741824 := by simpa [Pl.okRules, and_assoc] using hrb
    clear hrb
    obtain ⟨r1, r2, r3, r4⟩ := hb
    obtain ⟨M, rfl⟩ := Int.eq_ofNat_of_zero_le (show 0 ≤ most by omega)
    go_enter Tryd.func11, Tryd.ntmps11
    go_wp2_with (go_at_call 24; refine (fine_any _ _ _).mono ?_; rintro e w' ⟨rfl, rfl⟩; rw [HR.out])
    have HX2 := Lib.hid ((HX.out.alloc (Nat.le_refl _) (.cells #[.int .i64 (M : Int), .int .i64 wait] 53)).alloc (by simp) (.cells #[.int .i64 (M : Int), .int .i64 wait] 53))
    go_loop [20] (fun i => ∃ k : Nat, k ≤ xs.length ∧ i = .int .i64 k ∧ Hid (Pl.okUpto xs k = true)) (fun i => xs.length - (intOf i).toNat)
    case atStart => exact ⟨0, Nat.zero_le _, rfl, rfl⟩
    case round =>
      obtain ⟨k, hk, rfl, ht⟩ := hrel
      by_cases hlt : k < xs.length
      · obtain ⟨ad, rfl, _, hc⟩ := IntsIn.at_ HX2.out hlt
        by_cases h1 : xs[k] < 0 ∨ 1073741824 < xs[k]
        · have hcode : Hid (Pl.code xs (M : Int) wait = 1) := by
            unfold Pl.code; rw [HR.out, if_neg (by simp), if_pos (okUpto_no (okAt_no hlt (by omega)) hlt)]; rfl
          rcases h1 with h1 | h1
          all_goals
            go_wp2
            go_ret2
            exact bad_post hcode.out (by omega) rfl (((Below.refl _ _).alloc (Nat.le_refl _) _).alloc (by simp) _)
        · have h1a : 0 ≤ xs[k] := by omega
          have h1b : xs[k] ≤ 1073741824 := by omega
          clear h1
          by_cases h3 : 0 < k
          · have hk1 : k - 1 < xs.length := by omega
            obtain ⟨ad', e', _, hc'⟩ := IntsIn.at_ HX2.out hk1
            cases e'
            have e0 := Lib.hid (show xs.getD (k - 1) 0 = xs[k - 1] by simp [hk1])
            have w1 : ((k : Int) - 1) = ((k - 1 : Nat) : Int) := by omega
            by_cases h4 : xs[k] < xs[k - 1]
            · have hcode : Hid (Pl.code xs (M : Int) wait = 1) := by
                unfold Pl.code; rw [HR.out, if_neg (by simp), if_pos (okUpto_no (okAt_no hlt (.inr (.inr ⟨h3, by rw [e0.out]; exact h4⟩))) hlt)]; rfl
              go_wp2
              go_ret2
              exact bad_post hcode.out (by omega) rfl (((Below.refl _ _).alloc (Nat.le_refl _) _).alloc (by simp) _)
            · go_wp2
              go_round
              case rel => exact ⟨k + 1, by omega, by go_num, by show Pl.okUpto xs (k + 1) = true; rw [Pl.okUpto_succ, ht.out, okAt_yes hlt (by omega) (by omega) (.inr (by rw [e0.out]; omega))]; rfl⟩
              case measure => simp [intOf]; omega
          · go_wp2
            go_round
            case rel => exact ⟨k + 1, by omega, by go_num, by show Pl.okUpto xs (k + 1) = true; rw [Pl.okUpto_succ, ht.out, okAt_yes hlt (by omega) (by omega) (.inl (by omega))]; rfl⟩
            case measure => simp [intOf]; omega
      · have hkl := Lib.hid (show k = xs.length by omega)
        have hok : Hid (Pl.okUpto xs xs.length = true) := by rw [← hkl.out]; exact ht
        by_cases hlong : 65536 < xs.length
        · have hcode : Hid (Pl.code xs (M : Int) wait = 4) := by
            unfold Pl.code; rw [HR.out, if_neg (by simp), if_neg (by rw [hok.out]; simp), if_pos hlong]; rfl
          go_wp2
          go_ret2
          exact bad_post hcode.out (by omega) rfl (((Below.refl _ _).alloc (Nat.le_refl _) _).alloc (by simp) _)
        · have hcode : Hid (Pl.code xs (M : Int) wait = 0) := by
            unfold Pl.code; rw [HR.out, if_neg (by simp), if_neg (by rw [hok.out]; simp), if_neg hlong]; rfl
          obtain ⟨i0, hi0, hz0, hz1, hz2⟩ := info_parts Tryd.infoInt
          have hmk := fun W => run_make_rowN (P := Tryd.prog) 51 3 i0 _ Tryd.underlying51 hi0 hz0 .i64 .i64 xs.length xs.length (Nat.le_refl _) (by rw [hz2]; omega) (by omega) W
          rw [hz1] at hmk
          simp only [Value.cells, Nat.mul_one, fillA_zero] at hmk
          clear hi0 hz0 hz1 hz2
          have hdl : decide ((65536 : Int) < (xs.length : Int)) = false := decide_eq_false (by omega)
          go_wp2
          clear hmk
          go_loopw [53] (fun i wr => ∃ k : Nat, k ≤ xs.length ∧ i = .int .i64 k ∧ Hid (Blk wr (w.heap.size + 1 + 1) 3 (fillA xs.length k)) ∧ Hid (Blk wr w.heap.size 53 #[.int .i64 (M : Int), .int .i64 wait]) ∧ Below w.heap.size w wr) (fun i _ => xs.length - (intOf i).toNat)
          case atStart => exact ⟨0, Nat.zero_le _, rfl, by have := Blk.new ((w.alloc (.cells #[.int .i64 (M : Int), .int .i64 wait] 53)).alloc (.cells #[.int .i64 (M : Int), .int .i64 wait] 53)) 3 (fillA xs.length 0); simp at this; exact this, ((Blk.new w 53 #[.int .i64 (M : Int), .int .i64 wait]).alloc _).alloc _, (((Below.refl _ _).alloc (Nat.le_refl _) _).alloc (by simp) _).alloc (by simp; omega) _⟩
          case round =>
            obtain ⟨k2, hk2, rfl, hB, hR, hbel⟩ := hrel
            by_cases hlt2 : k2 < xs.length
            · have hcell : wr.cell? ⟨w.heap.size + 1 + 1, k2, none⟩ = some (.int .i64 0) := by rw [hB.out.cell, fillA_at hlt2, if_neg (by omega)]
              have hfz : wr.frozen? ⟨w.heap.size + 1 + 1, k2, none⟩ = false := hB.out.frozen _
              have hn : w.heap.size ≠ w.heap.size + 1 + 1 := by omega
              go_wp2
              go_roundw
              case rel => exact ⟨k2 + 1, by omega, by go_num, by have := hB.out.set_ k2 (.int .i64 k2); rw [fillA_step hlt2] at this; exact this, hR.out.far hn _, hbel.setCell (by simp; omega) _⟩
              case measure => simp [intOf]; omega
            · have hfull : Hid (Blk wr (w.heap.size + 1 + 1) 3 (fillA xs.length xs.length)) := by
                have : k2 = xs.length := by omega
                rw [← this]; rw [this] at hB ⊢; exact hB
              have hbs := Lib.hid hB.out.lt
              obtain ⟨i1, hi1, hz3, hz4, hz5⟩ := info_parts Tryd.infoGroup
              have HI := Lib.hid hi1
              have HZ3 := Lib.hid hz3
              have HZ4 := Lib.hid hz4
              have HZ5 := Lib.hid hz5
              clear hi1 hz3 hz4 hz5 hB
              go_wp2
              obtain ⟨wo, rfl⟩ : ∃ wo : World, wo = wr := ⟨_, rfl⟩
              go_loopw [10, 11] (fun v f wr => ∃ (gs : List Pl.Grp) (fr : Nat), fr ≤ xs.length ∧ gs.length ≤ fr ∧ f = .int .i64 fr ∧ Hid (Pl.form xs M wait 0 = gs ++ Pl.form xs M wait fr) ∧
                  Hid (wr.ownsRow (w.heap.size + 3) 56 2 v gs.length (flat (w.heap.size + 1 + 1) gs)) ∧ Hid (Blk wr (w.heap.size + 1 + 1) 3 (fillA xs.length xs.length)) ∧
                  Hid (Blk wr w.heap.size 53 #[.int .i64 (M : Int), .int .i64 wait]) ∧ Below w.heap.size w wr ∧ w.heap.size + 3 ≤ wr.heap.size) (fun _ f _ => xs.length - (intOf f).toNat)
              case atStart => exact ⟨[], 0, Nat.zero_le _, Nat.le_refl _, rfl, rfl, World.ownsRow_nil _ _ _ _, hfull, hR, hbel, hbs⟩
              case round =>
                obtain ⟨gs, fr, hfr, hgl, rfl, hform, hown, hB, hR3, hbel3, hsz3⟩ := hrel
                by_cases hlt3 : fr < xs.length
                · have HXr := Lib.hid (Reads.below HX.out hbel3)
                  obtain ⟨ad, rfl, hadb, hcf⟩ := IntsIn.at_ HXr.out hlt3
                  have hwait : wr.cell? ⟨w.heap.size, 1, none⟩ = some (.int .i64 wait) := by rw [hR3.out.cell]; rfl
                  have hmost : wr.cell? ⟨w.heap.size, 0, none⟩ = some (.int .i64 (M : Int)) := by rw [hR3.out.cell]; rfl
                  have hbd := Pl.ok_bounds hok.out hlt3
                  rw [show xs.getD fr 0 = xs[fr] by simp [hlt3]] at hbd
                  obtain ⟨hb1, hb2⟩ := hbd
                  go_wp2
                  go_quiet (fail)
                  have hown : Hid ((wr.drewN nq).ownsRow (w.heap.size + 3) 56 2 u10 gs.length (flat (w.heap.size + 1 + 1) gs)) := hown
                  have hB : Hid (Blk (wr.drewN nq) (w.heap.size + 1 + 1) 3 (fillA xs.length xs.length)) := hB
                  have hR3 : Hid (Blk (wr.drewN nq) w.heap.size 53 #[.int .i64 (M : Int), .int .i64 wait]) := hR3
                  have hbel3 : Below w.heap.size w (wr.drewN nq) := ⟨hbel3.os, hbel3.tape, hbel3.output, hbel3.size, hbel3.block⟩
                  have hsz3 : w.heap.size + 3 ≤ (wr.drewN nq).heap.size := hsz3
                  have HXr := Lib.hid (Reads.below HX.out hbel3)
                  have hwait : (wr.drewN nq).cell? ⟨w.heap.size, 1, none⟩ = some (.int .i64 wait) := hwait
                  have hmost : (wr.drewN nq).cell? ⟨w.heap.size, 0, none⟩ = some (.int .i64 (M : Int)) := hmost
                  generalize wr.drewN nq = wd at hown hB hR3 hbel3 hsz3 HXr hwait hmost ⊢
                  have hmost' : ∀ o : Obj, (wd.alloc o).cell? ⟨w.heap.size, 0, none⟩ = some (.int .i64 (M : Int)) := fun o => by rw [World.cell?_alloc_lt _ _ _ (by simp; omega)]; exact hmost
                  go_wp2
                  go_loop [13] (fun t => ∃ to : Nat, fr + 1 ≤ to ∧ to ≤ xs.length ∧ to - fr ≤ M ∧ t = .int .i64 to ∧ Hid (Pl.endOf xs M wait fr = Pl.stop xs (xs[fr] + wait) M fr to)) (fun t => xs.length - (intOf t).toNat)
                  case atStart => exact ⟨fr + 1, Nat.le_refl _, hlt3, by omega, by go_num, by unfold Pl.endOf; rw [show xs.getD fr 0 = xs[fr] by simp [hlt3]]; rfl⟩
                  case round =>
                    obtain ⟨to, ht1, ht2, ht3, rfl, hst⟩ := hrel
                    by_cases hgo : to < xs.length ∧ to - fr < M ∧ xs.getD to 0 ≤ xs[fr] + wait
                    · obtain ⟨g1, g2, g3⟩ := hgo
                      have HS := Lib.hid (hst.out.trans (Pl.stop_go g1 g2 g3))
                      obtain ⟨ad', e', _, hct⟩ := IntsIn.at_ HXr.out g1
                      cases e'
                      rw [show xs.getD to 0 = xs[to] by simp [g1]] at g3
                      go_wp2
                      go_round
                      case rel => exact ⟨to + 1, by omega, by omega, by omega, by go_num, HS⟩
                      case measure => simp [intOf]; omega
                    · have HS : Hid (Pl.endOf xs M wait fr = to) := hst.out.trans (Pl.stop_end (by omega))
                      clear hst
                      have hexit : (xs.length ≤ to) ∨ (to < xs.length ∧ M ≤ to - fr) ∨ (to < xs.length ∧ to - fr < M ∧ xs[fr] + wait < xs.getD to 0) := by omega
                      clear hgo
                      rcases hexit with g1 | ⟨g1, g2⟩ | ⟨g1, g2, g3⟩
                      · by_cases hM : to - fr = M
                        · skip
                          have hMb : (((to : Int) - (fr : Int)) == (M : Int)) = true := beq_iff_eq.2 (by omega)
                          have hk1 : to - 1 < xs.length := by omega
                          obtain ⟨ad', e', hadb', hc'⟩ := IntsIn.at_ HXr.out hk1
                          cases e'
                          have hc'' : ∀ o : Obj, (wd.alloc o).cell? (ad.add (to - 1)) = some (.int .i64 xs[to - 1]) := fun o => by rw [World.cell?_alloc_lt _ _ _ (by rw [block_of_add]; omega)]; exact hc'
                          have hto : (to : Int) - 1 = ((to - 1 : Nat) : Int) := by omega
                          have HG : Hid (Pl.grp xs M wait fr = ⟨fr, to, xs[to - 1]⟩) := grp_full HS.out hM (by omega)
                          clear hM
                          go_wp2_with (at_builtin; refine wpList_append_own _ rfl _ _ 48 rfl (w.heap.size + 3) 56 i1 _ 2 32 Tryd.underlying48 HI.out HZ3.out HZ4.out HZ5.out rfl (by decide) _ gs.length _ rfl ((hown.out.alloc _).alloc _) ⟨wd.heap.size + 1, 0, none⟩ 1 1 [.slice (some ⟨w.heap.size + 1 + 1, fr, none⟩) (to - fr) (to - fr), .int .i64 xs[to - 1]] rfl rfl (two_new wd _ _ _ _) (two_one _ _ _ _) (by unfold maxLen; omega) (by omega) (by simp; omega) ?_; intro v' w1 hown' hgrow _hn)
                          have R := form_step hown.out hB.out hR3.out hbel3 hsz3 hown' hgrow HG.out hform.out hlt3 HS.out
                          clear hown' hgrow _hn hown hB hR3 hbel3
                          go_wp2
                          go_roundw
                          case rel => exact ⟨gs ++ [⟨fr, to, xs[to - 1]⟩], to, ht2, by simp; omega, rfl, R.1, R.2.1, R.2.2.1, R.2.2.2.1, R.2.2.2.2.1, R.2.2.2.2.2⟩
                          case measure => simp [intOf]; omega
                        · skip
                          have hMb : (((to : Int) - (fr : Int)) == (M : Int)) = false := beq_eq_false_iff_ne.2 (by omega)
                          have HG : Hid (Pl.grp xs M wait fr = ⟨fr, to, xs[fr] + wait⟩) := grp_part HS.out hM hlt3
                          clear hM
                          go_wp2_with (at_builtin; refine wpList_append_own _ rfl _ _ 48 rfl (w.heap.size + 3) 56 i1 _ 2 32 Tryd.underlying48 HI.out HZ3.out HZ4.out HZ5.out rfl (by decide) _ gs.length _ rfl ((hown.out.alloc _).alloc _) ⟨wd.heap.size + 1, 0, none⟩ 1 1 [.slice (some ⟨w.heap.size + 1 + 1, fr, none⟩) (to - fr) (to - fr), .int .i64 (xs[fr] + wait)] rfl rfl (two_new wd _ _ _ _) (two_one _ _ _ _) (by unfold maxLen; omega) (by omega) (by simp; omega) ?_; intro v' w1 hown' hgrow _hn)
                          have R := form_step hown.out hB.out hR3.out hbel3 hsz3 hown' hgrow HG.out hform.out hlt3 HS.out
                          clear hown' hgrow _hn hown hB hR3 hbel3
                          go_wp2
                          go_roundw
                          case rel => exact ⟨gs ++ [⟨fr, to, (xs[fr] + wait)⟩], to, ht2, by simp; omega, rfl, R.1, R.2.1, R.2.2.1, R.2.2.2.1, R.2.2.2.2.1, R.2.2.2.2.2⟩
                          case measure => simp [intOf]; omega
                      · have hM : to - fr = M := by omega
                        have hMb : (((to : Int) - (fr : Int)) == (M : Int)) = true := beq_iff_eq.2 (by omega)
                        have hk1 : to - 1 < xs.length := by omega
                        obtain ⟨ad', e', hadb', hc'⟩ := IntsIn.at_ HXr.out hk1
                        cases e'
                        have hc'' : ∀ o : Obj, (wd.alloc o).cell? (ad.add (to - 1)) = some (.int .i64 xs[to - 1]) := fun o => by rw [World.cell?_alloc_lt _ _ _ (by rw [block_of_add]; omega)]; exact hc'
                        have hto : (to : Int) - 1 = ((to - 1 : Nat) : Int) := by omega
                        have HG : Hid (Pl.grp xs M wait fr = ⟨fr, to, xs[to - 1]⟩) := grp_full HS.out hM (by omega)
                        clear hM
                        go_wp2_with (at_builtin; refine wpList_append_own _ rfl _ _ 48 rfl (w.heap.size + 3) 56 i1 _ 2 32 Tryd.underlying48 HI.out HZ3.out HZ4.out HZ5.out rfl (by decide) _ gs.length _ rfl ((hown.out.alloc _).alloc _) ⟨wd.heap.size + 1, 0, none⟩ 1 1 [.slice (some ⟨w.heap.size + 1 + 1, fr, none⟩) (to - fr) (to - fr), .int .i64 xs[to - 1]] rfl rfl (two_new wd _ _ _ _) (two_one _ _ _ _) (by unfold maxLen; omega) (by omega) (by simp; omega) ?_; intro v' w1 hown' hgrow _hn)
                        have R := form_step hown.out hB.out hR3.out hbel3 hsz3 hown' hgrow HG.out hform.out hlt3 HS.out
                        clear hown' hgrow _hn hown hB hR3 hbel3
                        go_wp2
                        go_roundw
                        case rel => exact ⟨gs ++ [⟨fr, to, xs[to - 1]⟩], to, ht2, by simp; omega, rfl, R.1, R.2.1, R.2.2.1, R.2.2.2.1, R.2.2.2.2.1, R.2.2.2.2.2⟩
                        case measure => simp [intOf]; omega
                      · have hM : ¬ to - fr = M := by omega
                        obtain ⟨ad', e', hadb', hct⟩ := IntsIn.at_ HXr.out g1
                        cases e'
                        rw [show xs.getD to 0 = xs[to] by simp [g1]] at g3
                        have hMb : (((to : Int) - (fr : Int)) == (M : Int)) = false := beq_eq_false_iff_ne.2 (by omega)
                        have HG : Hid (Pl.grp xs M wait fr = ⟨fr, to, xs[fr] + wait⟩) := grp_part HS.out hM hlt3
                        clear hM
                        go_wp2_with (at_builtin; refine wpList_append_own _ rfl _ _ 48 rfl (w.heap.size + 3) 56 i1 _ 2 32 Tryd.underlying48 HI.out HZ3.out HZ4.out HZ5.out rfl (by decide) _ gs.length _ rfl ((hown.out.alloc _).alloc _) ⟨wd.heap.size + 1, 0, none⟩ 1 1 [.slice (some ⟨w.heap.size + 1 + 1, fr, none⟩) (to - fr) (to - fr), .int .i64 (xs[fr] + wait)] rfl rfl (two_new wd _ _ _ _) (two_one _ _ _ _) (by unfold maxLen; omega) (by omega) (by simp; omega) ?_; intro v' w1 hown' hgrow _hn)
                        have R := form_step hown.out hB.out hR3.out hbel3 hsz3 hown' hgrow HG.out hform.out hlt3 HS.out
                        clear hown' hgrow _hn hown hB hR3 hbel3
                        go_wp2
                        go_roundw
                        case rel => exact ⟨gs ++ [⟨fr, to, (xs[fr] + wait)⟩], to, ht2, by simp; omega, rfl, R.1, R.2.1, R.2.2.1, R.2.2.2.1, R.2.2.2.2.1, R.2.2.2.2.2⟩
                        case measure => simp [intOf]; omega
                · have hfe := Lib.hid (show fr = xs.length by omega)
                  have HF : Hid (Pl.form xs M wait 0 = gs) := by have := hform.out; rw [Pl.form_nil (fr := fr) (by omega), List.append_nil] at this; exact this
                  go_wp2
                  go_ret2
                  refine .inr ⟨hcode.out, u10, w.heap.size + 1 + 1, rfl, ?_, by omega, hB.out, hbel3⟩
                  rw [Int.toNat_natCast, HF.out]
                  exact own_less hown.out (by omega)
end Go.Proofs.YtjohbgkdhppglaaDoor
