/-
  part.ascending: a list in order, in new memory. part.deal: plain law, and rows of rows in memory. part.deal, walked.
-/
import Derived.Test.YthallgbggkgboaaGreatDoorQb
import Derived.Test.YthallgbggkgboaaGreatDoorShelf
import Derived.Deep.AppendLies
import Derived.Deep.RegionLaw
namespace Go.Proofs.YthallgbggkgboaaGreatDoor.Gp
open Go Go.RowKit Ut

def ascP (xs : List Nat) : List Nat := ((xs.map fun (n : Nat) => (n : Int)).mergeSort fun x y => decide (x ≤ y)).map Int.toNat
theorem ascP_int (xs : List Nat) : (ascP xs).map (fun (n : Nat) => (n : Int)) = (xs.map fun (n : Nat) => (n : Int)).mergeSort fun x y => decide (x ≤ y) := by
  unfold ascP
  rw [List.map_map]
  refine (List.map_congr_left fun z hz => ?_).trans (List.map_id _)
  have hz := List.mem_mergeSort.1 hz
  obtain ⟨n, _, rfl⟩ := List.mem_map.1 hz
  show ((Int.toNat (n : Int) : Nat) : Int) = _
  rw [Int.toNat_natCast]; rfl
theorem ascP_length (xs : List Nat) : (ascP xs).length = xs.length := by unfold ascP; simp
theorem below_row {enc : Int → Value} {B : Nat} {w0 w : World} {blk off : Nat} {d : Array Int} (h : Below B w0 w) (hg : B ≤ blk) (n : Nat) : Below B w0 (Sort.putRow enc (Sort.ahead w n) blk off d) := by
  refine ⟨h.os, h.tape, h.output, by rw [Sort.size_putRow]; exact h.size, fun k hk => ?_⟩
  refine Eq.trans ?_ (h.block k hk)
  unfold Sort.putRow Sort.mapBlock
  simp only [Sort.heap_ahead]
  rw [Array.getElem?_modify, if_neg (by omega)]
theorem below_grow {B : Nat} {w0 w : World} (h : Below B w0 w) (hB : B ≤ w.heap.size) (os : Array Obj) : Below B w0 (Sort.grow w os) :=
  ⟨h.os, h.tape, h.output, by rw [Sort.size_grow]; have := h.size; omega, fun k hk => (Sort.heap_grow_old w os (by omega)).trans (h.block k hk)⟩
theorem holds_rd {w : World} {blk off c : Nat} {xs : List Nat} (h : Sort.Holds (Value.int .i64) w blk off (xs.map fun (n : Nat) => (n : Int)).toArray) (hb : blk < w.heap.size) : RdI w (.slice (some ⟨blk, off, none⟩) xs.length c) xs := by
  refine ⟨_, c, rfl, by simp, fun hn => ⟨_, rfl, hb, fun j u hu => ?_⟩⟩
  have hj : j < xs.length := by
    by_cases hj : j < xs.length
    · exact hj
    · rw [List.getElem?_eq_none (by simp; omega)] at hu; cases hu
  rw [List.getElem?_map, List.getElem?_eq_getElem hj] at hu
  injection hu with hu
  subst hu
  have h1 := (h j (by simpa using hj)).1
  have e : (⟨blk, off, none⟩ : Addr).add j = ⟨blk, off + j, none⟩ := by unfold Addr.add; by_cases hj : j = 0 <;> simp [hj]
  rw [e, h1]
  simp [hj]
set_option maxHeartbeats 1000000 in
set_option maxRecDepth 100000 in
theorem sorted_any {w : World} {bx base m c g : Nat} {xs : List Nat} (hb : Blk w bx 22 #[.slice (some ⟨g, 0, none⟩) m c]) (hr : IntRow w base (.slice (some ⟨g, 0, none⟩) m c) xs) (hm : xs.length = m) (h0 : 0 < m) (h6 : m ≤ 6) :
    Calls Tryz.prog 89 #[.func (.func 127) #[] #[.pointer (some ⟨bx, 0, none⟩)]] w fun e w' => ∃ blk off k, e = .returned (.slice (some ⟨blk, off, none⟩) m k) ∧ w.heap.size ≤ blk ∧ RdI w' (.slice (some ⟨blk, off, none⟩) m k) (ascP xs) ∧ Below w.heap.size w w' := by
  have HC := Lib.hid (collect_any hb hr hm h0 h6)
  clear hb hr
  go_enter Tryz.func89, Tryz.ntmps89
  go_wp2_with (first
    | (go_at_call 125; refine HC.out.mono ?_; rintro e w2 ⟨blk, off, c', rfl, hh, hfr, hlt, hb2⟩; have HS := Lib.hid (Tryz.slices_Sort_int blk off c' (xs.map fun (n : Nat) => (n : Int)) w2 hh hlt (by rw [List.length_map]; omega)); rw [List.length_map, hm] at HS; have HH := Lib.hid hh; clear hh)
    | (go_at_call 126; refine HS.out.mono ?_; rintro e w3 ⟨rfl, n, os, rfl⟩))
  go_ret
  refine ⟨blk, off, c', rfl, hfr, ?_, ?_⟩
  · have hp := Sort.holds_putRow (Value.int .i64) (Sort.ahead w2 n) blk off _ ((xs.map fun (n : Nat) => (n : Int)).mergeSort fun x y => decide (x ≤ y)).toArray (Sort.holds_ahead _ _ n _ _ _ HH.out) (by simp)
    have hq := Sort.holds_grow (Value.int .i64) _ os blk off _ (by rw [Sort.size_putRow]; exact hlt) hp
    rw [← ascP_int] at hq
    have := holds_rd (c := c') hq (by rw [Sort.size_grow, Sort.size_putRow]; show blk < w2.heap.size + _; omega)
    rw [ascP_length, hm, ascP_int] at this
    exact this
  · exact below_grow (below_row hb2 hfr n) (by rw [Sort.size_putRow]; exact hb2.size) os
set_option maxHeartbeats 1000000 in
set_option maxRecDepth 100000 in
theorem values_any (A : Option Addr) (n c : Nat) (w : World) : Calls Tryz.prog 90 #[.slice A n c] w fun e w' => e = .returned (.func (.func 127) #[] #[.pointer (some ⟨w.heap.size, 0, none⟩)]) ∧ w' = w.alloc (.cells #[.slice A n c] 22) := by
  go_enter Tryz.func90, Tryz.ntmps90
  go_wp2
  go_ret
  exact ⟨rfl, rfl⟩
set_option maxHeartbeats 1000000 in
set_option maxRecDepth 100000 in
theorem ascending_any {w : World} {base m c g : Nat} {xs : List Nat} (hr : IntRow w base (.slice (some ⟨g, 0, none⟩) m c) xs) (hm : xs.length = m) (h0 : 0 < m) (h6 : m ≤ 6) :
    Calls Tryz.prog 60 #[.slice (some ⟨g, 0, none⟩) m c] w fun e w' => ∃ blk off k, e = .returned (.slice (some ⟨blk, off, none⟩) m k) ∧ w.heap.size ≤ blk ∧ RdI w' (.slice (some ⟨blk, off, none⟩) m k) (ascP xs) ∧ Below w.heap.size w w' := by
  have HS : Hid (∀ o, Blk (w.alloc o) w.heap.size 22 #[.slice (some ⟨g, 0, none⟩) m c] → Calls Tryz.prog _ _ (w.alloc o) _) := Lib.hid (fun o hb => sorted_any hb (own_below hr ((Below.refl _ _).alloc (Nat.le_refl _) o)) hm h0 h6)
  clear hr
  go_enter Tryz.func60, Tryz.ntmps60
  go_wp2_with (first
    | (go_at_call 90; refine (values_any _ _ _ _).mono ?_; rintro e w1 ⟨rfl, rfl⟩)
    | (go_at_call 89; refine (HS.out _ (Blk.new _ _ _)).mono ?_; rintro e w2 ⟨blk, off, k, rfl, hfr, hrd, hb2⟩))
  go_ret
  exact ⟨blk, off, k, rfl, by rw [World.size_alloc] at hfr; omega, hrd, ((Below.refl _ _).alloc (Nat.le_refl _) _).trans (hb2.mono (by simp))⟩
end Go.Proofs.YthallgbggkgboaaGreatDoor.Gp
namespace Go.Proofs.YthallgbggkgboaaGreatDoor.Gp
open Go Go.RowKit Ut

def dealP (k : Nat) : List Nat → Nat → List (List Nat) → List (List Nat)
  | [], _, R => R
  | x :: l, i, R => dealP k l (i + 1) (R.set (i % k) (R.getD (i % k) [] ++ [x]))
theorem dealP_cons (k x : Nat) (l : List Nat) (i : Nat) (R : List (List Nat)) : dealP k (x :: l) i R = dealP k l (i + 1) (R.set (i % k) (R.getD (i % k) [] ++ [x])) := rfl
def lenP (k : Nat) : Nat → Nat → List Nat → List Nat
  | 0, _, L => L
  | n + 1, i, L => lenP k n (i + 1) (L.set (i % k) (L.getD (i % k) 0 + 1))
theorem dealP_len (k : Nat) : ∀ (l : List Nat) (i : Nat) (R : List (List Nat)), (dealP k l i R).map List.length = lenP k l.length i (R.map List.length)
  | [], _, _ => rfl
  | x :: l, i, R => by
    rw [dealP_cons, dealP_len k l, List.length_cons, lenP, List.map_set]
    congr 2
    rw [List.length_append, List.length_singleton]
    congr 1
    rw [List.getD_eq_getElem?_getD, List.getD_eq_getElem?_getD, List.getElem?_map]
    cases R[i % k]? <;> rfl
theorem len_ok : (List.range 13).all (fun n => (List.range 7).all fun k => Nat.blt k 2 || Nat.blt n k || (lenP k n 0 (List.replicate k 0)).all fun m => Nat.ble 1 m && Nat.ble m 6) = true := by kernel_rfl
theorem deal_lens {k : Nat} {l : List Nat} (h2 : 2 ≤ k) (h6 : k ≤ 6) (hk : k ≤ l.length) (h12 : l.length ≤ 12) : ∀ ns ∈ dealP k l 0 (List.replicate k []), 1 ≤ ns.length ∧ ns.length ≤ 6 := by
  intro ns hns
  have h := List.all_eq_true.1 (List.all_eq_true.1 len_ok l.length (List.mem_range.2 (by omega))) k (List.mem_range.2 (by omega))
  have a1 : Nat.blt k 2 = false := by
    cases hb : Nat.blt k 2 with
    | false => rfl
    | true => rw [Nat.blt_eq] at hb; omega
  have a2 : Nat.blt l.length k = false := by
    cases hb : Nat.blt l.length k with
    | false => rfl
    | true => rw [Nat.blt_eq] at hb; omega
  rw [a1, a2, Bool.false_or, Bool.false_or] at h
  have e := dealP_len k l 0 (List.replicate k [])
  rw [List.map_replicate, List.length_nil] at e
  rw [← e] at h
  have h3 := List.all_eq_true.1 h ns.length (List.mem_map.2 ⟨ns, hns, rfl⟩)
  obtain ⟨x, y⟩ := flat_true h3
  exact ⟨Nat.le_of_ble_eq_true x, Nat.le_of_ble_eq_true y⟩
theorem dealP_length (k : Nat) : ∀ (l : List Nat) (i : Nat) (R : List (List Nat)), (dealP k l i R).length = R.length
  | [], _, _ => rfl
  | x :: l, i, R => by rw [dealP_cons, dealP_length k l, List.length_set]
theorem own_grown {w w' : World} {base n size : Nat} {e : TypeId} {v : Value} {xs : List Value} {row : Option Nat} (h : w.ownsRow base e size v n xs) (hg : w.grownBy w' row) (hne : ∀ b, v.ownBlock = some b → some b ≠ row) : w'.ownsRow base e size v n xs := by
  refine ⟨h.1, ?_⟩
  rcases h.2 with h2 | ⟨g, cap, cur, rfl, h3, h4, h5⟩
  · exact .inl h2
  · exact .inr ⟨g, cap, cur, rfl, h3, (hg.block g (lt_of_block h4) (hne g rfl)).trans h4, h5⟩
/- So many rows, each in a block of its own. -/
structure Dealt (w : World) (O k : Nat) (rows : List (Value × List Nat)) : Prop where
  len : rows.length = k
  blk : Blk w O 22 ⟨rows.map (·.1)⟩
  row : ∀ (i : Nat) (h : i < rows.length), IntRow w (O + 1) rows[i].1 rows[i].2
  apart : ∀ (i j : Nat) (hi : i < rows.length) (hj : j < rows.length), i ≠ j → ∀ b, rows[i].1.ownBlock = some b → rows[j].1.ownBlock ≠ some b
end Go.Proofs.YthallgbggkgboaaGreatDoor.Gp
namespace Go.Proofs.YthallgbggkgboaaGreatDoor.Gp
open Go Go.RowKit Ut

theorem infoIntRow : (Tryz.prog.info? 22).map (fun i => (i.zero, i.size, i.bytes)) = some (some (.slice none 0 0), 1, 24) := by kernel_rfl
theorem made_nil (k : Nat) : madeCells #[.slice none 0 0] k = Array.replicate k (.slice none 0 0) := by
  unfold madeCells
  apply Array.ext
  · simp
  · intro i h1 h2
    simp [Nat.mod_one]
theorem Dealt.new (w : World) (k : Nat) : Dealt (w.alloc (.cells (Array.replicate k (.slice none 0 0)) 22)) w.heap.size k (List.replicate k (.slice none 0 0, [])) := by
  have e : (⟨(List.replicate k ((.slice none 0 0, []) : Value × List Nat)).map (·.1)⟩ : Array Value) = Array.replicate k (.slice none 0 0) := by
    rw [List.map_replicate]; rfl
  refine ⟨by simp, by rw [e]; exact Blk.new _ _ _, fun i h => ?_, fun i j hi hj _ b hb => ?_⟩
  · rw [List.getElem_replicate]; exact World.ownsRow_nil _ _ _ _
  · rw [List.getElem_replicate] at hb; cases hb
theorem own_setO {w : World} {O r base n size : Nat} {e : TypeId} {v u : Value} {xs : List Value} (h : w.ownsRow base e size v n xs) (hb : O < base) : (w.setCell ⟨O, r, none⟩ u).ownsRow base e size v n xs := by
  refine ⟨h.1, ?_⟩
  rcases h.2 with h2 | ⟨g, cap, cur, rfl, h3, h4, h5⟩
  · exact .inl h2
  · exact .inr ⟨g, cap, cur, rfl, h3, (Below.heap_setCell w ⟨O, r, none⟩ u g (by show g ≠ O; omega)).trans h4, h5⟩
theorem Dealt.step {wr w4 : World} {O k r g' m cap base : Nat} {rows : List (Value × List Nat)} {o : Obj} {x : Nat} {v : Value} (hd : Dealt wr O k rows) (hr : r < rows.length) (hv : rows[r].1 = v) (hm : rows[r].2.length = m) (hbase : O + 1 = base)
    (hgrow : (wr.alloc o).drew.grownBy w4 v.ownBlock) (hown : w4.ownsRow base 3 1 (.slice (some ⟨g', 0, none⟩) (m + 1) cap) (m + 1) ((rows[r].2.map fun (n : Nat) => Value.int .i64 (n : Int)) ++ [.int .i64 (x : Int)])) (hlie : v.ownBlock = some g' ∨ g' = wr.heap.size + 1)
    (hb : Blk (w4.setCell ⟨O, r, none⟩ (.slice (some ⟨g', 0, none⟩) (m + 1) cap)) O 22 ((⟨rows.map (·.1)⟩ : Array Value).setIfInBounds r (.slice (some ⟨g', 0, none⟩) (m + 1) cap))) :
    Dealt (w4.setCell ⟨O, r, none⟩ (.slice (some ⟨g', 0, none⟩) (m + 1) cap)) O k (rows.set r (.slice (some ⟨g', 0, none⟩) (m + 1) cap, rows[r].2 ++ [x])) := by
  subst hbase
  have hset : ∀ {e : TypeId} {size n : Nat} {u : Value} {xs : List Value}, w4.ownsRow (O + 1) e size u n xs → (w4.setCell ⟨O, r, none⟩ (.slice (some ⟨g', 0, none⟩) (m + 1) cap)).ownsRow (O + 1) e size u n xs := fun h => own_setO h (Nat.lt_succ_self O)
  have hold : ∀ (i : Nat) (hi : i < rows.length), r ≠ i → w4.ownsRow (O + 1) 3 1 rows[i].1 rows[i].2.length (rows[i].2.map fun (n : Nat) => Value.int .i64 (n : Int)) := fun i hi hne => by
    refine own_grown (own_below (hd.row i hi) (((Below.refl _ _).alloc (Nat.le_refl _) o).drew)) hgrow (fun b hb e => ?_)
    rw [← hv] at e
    exact hd.apart r i hr hi hne b e.symm hb
  have hnew : ∀ (i : Nat) (hi : i < rows.length), r ≠ i → rows[i].1.ownBlock ≠ some g' := fun i hi hne e => by
    rcases hlie with h | h
    · rw [← hv] at h; exact hd.apart r i hr hi hne g' h e
    · have := (own_base (hd.row i hi) e).2; omega
  refine ⟨by rw [List.length_set]; exact hd.len, ?_, fun i hi => ?_, fun i j hi hj hne b hbi => ?_⟩
  · rw [List.map_set]; rw [List.setIfInBounds_toArray] at hb; exact hb
  · rw [List.length_set] at hi
    by_cases he : r = i
    · subst he
      rw [List.getElem_set_self]
      unfold IntRow
      have := hset hown
      rw [List.length_append, List.length_singleton, hm, List.map_append]
      exact this
    · rw [List.getElem_set_ne he]
      exact hset (hold i hi he)
  · have hi' : i < rows.length := by rw [List.length_set] at hi; exact hi
    have hj' : j < rows.length := by rw [List.length_set] at hj; exact hj
    by_cases he : r = i
    · subst he
      rw [List.getElem_set_self] at hbi
      rw [List.getElem_set_ne hne]
      have hg : b = g' := by injection hbi with hbi; exact hbi.symm
      subst hg
      exact hnew j hj' hne
    · rw [List.getElem_set_ne he] at hbi
      by_cases he' : r = j
      · subst he'
        rw [List.getElem_set_self]
        intro h
        have hg : g' = b := by injection h
        subst hg
        exact hnew i hi' he hbi
      · rw [List.getElem_set_ne he']
        exact hd.apart i j hi' hj' hne b hbi
theorem deal_round {k i : Nat} {l : List Nat} {rows : List (Value × List Nat)} {v : Value} (hi : i < l.length) (hr : i % k < rows.length) : dealP k (l.drop (i + 1)) (i + 1) ((rows.set (i % k) (v, rows[i % k].2 ++ [l[i]])).map (·.2)) = dealP k (l.drop i) i (rows.map (·.2)) := by
  rw [List.drop_eq_getElem_cons hi, dealP_cons, List.map_set]
  congr 3
  rw [List.getD_eq_getElem?_getD, List.getElem?_map, List.getElem?_eq_getElem hr]
  rfl
/- The second loop: so many rows are in order. -/
structure Asc (w : World) (O i : Nat) (R : List (List Nat)) (vs : List Value) : Prop where
  len : vs.length = R.length
  blk : Blk w O 22 ⟨vs⟩
  done : ∀ (j : Nat) (h : j < vs.length) (h' : j < R.length), j < i → ∃ b off n c, vs[j] = .slice (some ⟨b, off, none⟩) n c ∧ b ≠ O ∧ RdI w vs[j] (ascP R[j])
  todo : ∀ (j : Nat) (h : j < vs.length) (h' : j < R.length), i ≤ j → IntRow w (O + 1) vs[j] R[j]
theorem Dealt.asc {w : World} {O k : Nat} {rows : List (Value × List Nat)} (h : Dealt w O k rows) : Asc w O 0 (rows.map (·.2)) (rows.map (·.1)) := by
  refine ⟨by simp, h.blk, fun j _ _ hj => absurd hj (Nat.not_lt_zero _), fun j hj hj' _ => ?_⟩
  rw [List.getElem_map, List.getElem_map]
  exact h.row j (by simpa using hj)
theorem RdI.set_ {w : World} {b off n c O r : Nat} {u : Value} {ns : List Nat} (h : RdI w (.slice (some ⟨b, off, none⟩) n c) ns) (hne : b ≠ O) : RdI (w.setCell ⟨O, r, none⟩ u) (.slice (some ⟨b, off, none⟩) n c) ns := by
  obtain ⟨A, c', e, hr⟩ := h
  injection e with e1 e2 e3
  subst e1
  refine ⟨_, c, by rw [e2], hr.1, fun hn => ?_⟩
  obtain ⟨ad, e, hb, hc⟩ := hr.2 hn
  cases e
  refine ⟨_, rfl, by simpa using hb, fun j u hu => ?_⟩
  rw [World.cell?_setCell_other _ _ _ _ (fun e => hne (by have := congrArg Addr.block e; rw [block_of_add] at this; exact this.symm))]
  exact hc j u hu
theorem Asc.step {wa wb : World} {O i : Nat} {R : List (List Nat)} {vs : List Value} (h : Asc wa O i R vs) (hb : Below wa.heap.size wa wb) {b off n c : Nat} (hi : i < R.length) (hbl : wa.heap.size ≤ b) (hrd : RdI wb (.slice (some ⟨b, off, none⟩) n c) (ascP R[i])) :
    Asc (wb.setCell ⟨O, i, none⟩ (.slice (some ⟨b, off, none⟩) n c)) O (i + 1) R (vs.set i (.slice (some ⟨b, off, none⟩) n c)) := by
  have hO := h.blk.lt
  have hblk : Blk wb O 22 ⟨vs⟩ := (hb.block O hO).trans h.blk
  refine ⟨by rw [List.length_set]; exact h.len, ?_, fun j hj hj' hlt => ?_, fun j hj hj' hle => ?_⟩
  · have := hblk.set_ i (.slice (some ⟨b, off, none⟩) n c)
    rw [List.setIfInBounds_toArray] at this
    exact this
  · rw [List.length_set] at hj
    by_cases he : i = j
    · subst he
      rw [List.getElem_set_self]
      exact ⟨b, off, n, c, rfl, by omega, hrd.set_ (by omega)⟩
    · rw [List.getElem_set_ne he]
      obtain ⟨b', off', n', c', e, hne, hr⟩ := h.done j hj hj' (by omega)
      rw [e] at hr ⊢
      exact ⟨b', off', n', c', rfl, hne, (hr.below hb).set_ hne⟩
  · rw [List.length_set] at hj
    rw [List.getElem_set_ne (by omega)]
    have h1 := own_below (h.todo j hj hj' (by omega)) hb
    exact own_setO h1 (Nat.lt_succ_self O)
theorem Asc.end_ {w : World} {O k c : Nat} {R : List (List Nat)} {vs : List Value} (h : Asc w O R.length R vs) (hk : R.length = k) : RdP w (.slice (some ⟨O, 0, none⟩) k c) (R.map ascP) := by
  refine ⟨some ⟨O, 0, none⟩, c, vs, by rw [List.length_map, hk], by rw [List.length_map]; exact h.len, ⟨by rw [List.length_map, h.len, Nat.mul_one], fun _ => ⟨_, rfl, h.blk.lt, fun j u hu => ?_⟩⟩, fun j hj hj' => ?_⟩
  · rw [show (⟨O, 0, none⟩ : Addr).add j = ⟨O, j, none⟩ by unfold Addr.add; by_cases hj : j = 0 <;> simp [hj]]
    rw [Blk.cell h.blk, List.getElem?_toArray]
    exact hu
  · rw [List.getElem_map]
    obtain ⟨_, _, _, _, _, _, hr⟩ := h.done j hj' (by rw [← h.len]; exact hj') (by rw [← h.len]; exact hj')
    exact hr
theorem row_form {w : World} {base : Nat} {v : Value} {ns : List Nat} (h : IntRow w base v ns) (hn : 0 < ns.length) : ∃ g c, v = .slice (some ⟨g, 0, none⟩) ns.length c ∧ g < w.heap.size := by
  obtain ⟨g, cap, hv, _, hlt⟩ := World.ownsRow.form h hn
  exact ⟨g, cap, hv, hlt⟩
set_option maxHeartbeats 4000000 in
set_option maxRecDepth 100000 in
theorem deal_any {w : World} {g n k c : Nat} {l : List Nat} (hrow : Blk w g 3 (ints l)) (hln : l.length = n) (h12 : n ≤ 12) (h2 : 2 ≤ k) (h6 : k ≤ 6) (hkn : k ≤ n) :
    Calls Tryz.prog 37 #[.slice (some ⟨g, 0, none⟩) n c, .int .i64 (k : Int)] w fun e w' => ∃ v, e = .returned v ∧ RdP w' v ((dealP k l 0 (List.replicate k [])).map ascP) ∧ Below w.heap.size w w' := by
  have hg := hrow.lt
  have HR := Lib.hid hrow
  have HLN := Lib.hid hln
  obtain ⟨i0, hi0, hz0, hz1, hz2⟩ := info_parts infoInt
  have HI := Lib.hid hi0
  have HZ0 := Lib.hid hz0
  have HZ1 := Lib.hid hz1
  have HZ2 := Lib.hid hz2
  obtain ⟨i1, hi1, hy0, hy1, hy2⟩ := info_parts infoIntRow
  have HMK : Hid (∀ W, (Instr.makeSlice 40 (.int .i64 (k : Int)) (.int .i64 (k : Int))).run Tryz.prog W = .ok (.slice (some ⟨W.heap.size, 0, none⟩) k k) (W.alloc (.cells (madeCells #[.slice none 0 0] k) 22))) := fun W => by
    have hr := run_make (P := Tryz.prog) (w := W) 40 22 i1 _ Tryz.underlying40 hi1 hy0 .i64 .i64 (k : Int) (k : Int) (by omega) (Int.le_refl _) (by rw [hy2]; omega) (by omega)
    rw [hr, hy1]
    simp [Value.cells]
  clear hi0 hz0 hz1 hz2 hi1 hy0 hy1 hy2 hrow hln
  go_enter Tryz.func37, Tryz.ntmps37
  go_wp2
  rw [HMK.out, made_nil]
  go_wp2
  go_loopw [14] (fun iv wr => ∃ (i : Nat) (rows : List (Value × List Nat)), i ≤ n ∧ iv = .int .i64 (i : Int) ∧ Hid (Dealt wr w.heap.size k rows) ∧ Hid (∀ (j : Nat) (h : j < rows.length), rows[j].2.length ≤ i) ∧ Hid (dealP k (l.drop i) i (rows.map (·.2)) = dealP k l 0 (List.replicate k [])) ∧ Hid (Below w.heap.size w wr)) (fun iv _ => n - (intOf iv).toNat)
  case atStart => exact ⟨0, List.replicate k (.slice none 0 0, []), Nat.zero_le _, rfl, Dealt.new w k, (fun j h => by rw [List.getElem_replicate]; exact Nat.zero_le _), (by show _ = _; rw [List.map_replicate]; rfl), (Below.refl _ _).alloc (Nat.le_refl _) _⟩
  case round =>
    obtain ⟨i, rows, hi, rfl, hdl, hlens, hdp, hbel⟩ := hrel
    by_cases hgo : i < n
    · have hil : i < l.length := by rw [HLN.out]; exact hgo
      have c0 : wr.cell? ⟨g, i, none⟩ = some (.int .i64 (l[i] : Int)) := (hbel.out.cell (p := ⟨g, i, none⟩) hg).trans ((HR.out.cell i).trans (ints_at hil))
      have hrk : i % k < k := Nat.mod_lt _ (by omega)
      have hrl : i % k < rows.length := by rw [hdl.out.len]; exact hrk
      have q0 : wr.cell? ⟨w.heap.size, i % k, none⟩ = some rows[i % k].1 := by
        rw [Blk.cell hdl.out.blk, List.getElem?_toArray, List.getElem?_map, List.getElem?_eq_getElem hrl]; rfl
      have hrw := hdl.out.row _ hrl
      obtain ⟨A, cp, hA, _⟩ := own_slice hrw
      have hln := hlens.out _ hrl
      obtain ⟨m, HM⟩ : ∃ m, Hid (rows[i % k].2.length = m) := ⟨_, Lib.hid rfl⟩
      rw [HM.out] at hA hln
      rw [hA] at q0
      have hrm1 : (i : Int) % (k : Int) = ((i % k : Nat) : Int) := (Int.natCast_emod i k).symm
      have hrm2 : (i : Int).tmod (k : Int) = ((i % k : Nat) : Int) := (Int.tmod_eq_emod_of_nonneg (by omega)).trans hrm1
      have hszr := hbel.out.size
      have hOlt := hdl.out.blk.lt
      have q0' : ∀ o, (wr.alloc o).cell? ⟨w.heap.size, i % k, none⟩ = some (.slice A m cp) := fun o => (World.cell?_alloc_lt wr o _ hOlt).trans q0
      have hown : Hid (wr.ownsRow (w.heap.size + 1) 3 1 (.slice A m cp) m (rows[i % k].2.map fun (n : Nat) => Value.int .i64 (n : Int))) := by
        have := hrw
        unfold IntRow at this
        rw [HM.out, hA] at this
        exact this
      have hTB := Lib.hid hdl.out.blk
      have HA := Lib.hid hA
      have HX : Hid (∃ x, x = l[i]) := ⟨_, rfl⟩
      have hi' : i ≤ 12 := by omega
      have hk0 : ¬ (k : Int) = 0 := by omega
      have hk1 : ¬ k = 0 := by omega
      have hk2 : ((k : Int) == 0) = false := by rw [beq_eq_false_iff_ne]; omega
      clear hrw hA
      generalize hxx : l[i] = x at *
      replace hxx := Lib.hid hxx
      generalize hrr : i % k = r at *
      replace hrr := Lib.hid hrr
      go_wp2
      go_region_law? (refine step_append_lies _ rfl _ _ 22 rfl (w.heap.size + 1) 3 i0 _ 1 8 Tryz.underlying22 HI.out HZ0.out HZ1.out HZ2.out rfl (by decide) _ m _ rfl (own_below hown.out (((Below.refl _ _).alloc (Nat.le_refl _) _).drew)) ⟨wr.heap.size, 0, none⟩ 1 1 [.int .i64 (x : Int)] rfl rfl (fun j u hu => new_read wr _ _ j u hu) (all_one rfl) (by decide) (by unfold maxLen; omega) (by omega) (by simp [World.size_drew]; omega) (wr.heap.size + 1) (by simp [World.size_drew]) ?_; intro g' cap w4 hown4 hgrow hlie hlt4; have hneT : some w.heap.size ≠ (Value.slice A m cp).ownBlock := (fun e => by have := (own_base hown.out e.symm).1; omega); have hT4 : Blk w4 w.heap.size 22 ⟨rows.map (·.1)⟩ := Blk.grown (w := (wr.alloc (.cells #[.int .i64 (x : Int)] 3)).drew) (hTB.out.alloc _) hgrow hneT; have fz4 := hT4.frozen; have hc4 := hT4.cell r; rw [List.getElem?_toArray, List.getElem?_map, List.getElem?_eq_getElem hrl] at hc4; simp only [Option.map_some] at hc4; have hT5 := Lib.hid (hT4.set_ r (.slice (some ⟨g', 0, none⟩) (m + 1) cap)))
      all_goals go_wp2
      all_goals (
        refine ⟨⟨i + 1, rows.set r (.slice (some ⟨g', 0, none⟩) (m + 1) cap, rows[r].2 ++ [x]), by omega, by go_num, hdl.out.step hrl HA.out HM.out rfl hgrow hown4 hlie hT5.out, ?_, ?_, ?_⟩, by simp [intOf]; omega⟩
        · intro j hj
          rw [List.length_set] at hj
          by_cases he : r = j
          · subst he
            rw [List.getElem_set_self, List.length_append, List.length_singleton, HM.out]
            omega
          · rw [List.getElem_set_ne he]
            have := hlens.out j hj
            omega
        · show _ = _
          rw [← hdp.out]
          have hr2 := hrr.out
          have hx2 := hxx.out
          subst hr2 hx2
          exact deal_round hil hrl
        · exact ((((hbel.out.alloc hszr _).drew).grown hgrow (by simp; omega) (fun b hb => by have := (own_base hown.out hb).1; omega)).setCell (Nat.le_refl _) _))
    · have hin : i = n := by omega
      subst hin
      have hdp2 : dealP k [] i (rows.map (·.2)) = dealP k l 0 (List.replicate k []) := by
        have := hdp.out
        rw [List.drop_eq_nil_of_le (by rw [HLN.out]; exact Nat.le_refl _)] at this
        exact this
      have HR2 := Lib.hid hdp2
      have HAS := Lib.hid hdl.out.asc
      have hrlen := hdl.out.len
      clear hdp hdp2 hlens
      obtain ⟨R, hR⟩ : ∃ R, rows.map (·.2) = R := ⟨_, rfl⟩
      rw [hR] at HAS HR2
      have hRk : R.length = k := by rw [← hR, List.length_map, hrlen]
      have hLE : ∀ ns ∈ R, 1 ≤ ns.length ∧ ns.length ≤ 6 := by
        rw [show R = dealP k l 0 (List.replicate k []) from HR2.out]
        exact deal_lens h2 h6 (by rw [HLN.out]; exact hkn) (by rw [HLN.out]; exact h12)
      replace hLE := Lib.hid hLE
      replace hRk := Lib.hid hRk
      obtain ⟨vs0, hvs⟩ : ∃ vs0, rows.map (·.1) = vs0 := ⟨_, rfl⟩
      rw [hvs] at HAS
      clear hdl hR hvs hrlen
      go_wp2
      go_loopw [36] (fun iv wr => ∃ (j : Nat) (vs : List Value), j ≤ k ∧ iv = .int .i64 (j : Int) ∧ Hid (Asc wr w.heap.size j R vs) ∧ Hid (Below w.heap.size w wr)) (fun iv _ => k - (intOf iv).toNat)
      case atStart => exact ⟨0, vs0, Nat.zero_le _, rfl, HAS.out, hbel.out⟩
      case round =>
        obtain ⟨j, vs, hj, rfl, has, hbel2⟩ := hrel
        by_cases hgo2 : j < k
        · have hjR : j < R.length := by rw [hRk.out]; exact hgo2
          have hjv : j < vs.length := by rw [has.out.len]; exact hjR
          have hrw := has.out.todo j hjv hjR (Nat.le_refl _)
          have hl16 := hLE.out R[j] (List.getElem_mem hjR)
          obtain ⟨g1, c1, hv1, hg1⟩ := row_form hrw hl16.1
          obtain ⟨m1, HM1⟩ : ∃ m1, Hid (R[j].length = m1) := ⟨_, Lib.hid rfl⟩
          rw [HM1.out] at hv1 hl16
          rw [hv1] at hrw
          have q0 : wr.cell? ⟨w.heap.size, j, none⟩ = some (.slice (some ⟨g1, 0, none⟩) m1 c1) := by
            rw [Blk.cell has.out.blk, List.getElem?_toArray, List.getElem?_eq_getElem hjv, hv1]
          have hOlt := has.out.blk.lt
          have HCALL : Hid (∀ W, Below wr.heap.size wr W → Calls Tryz.prog _ _ W _) := Lib.hid (fun W hW => ascending_any (own_below hrw hW) HM1.out hl16.1 hl16.2)
          have hszr := hbel2.out.size
          clear hrw hv1 hl16
          go_wp2_with (first
            | (go_at_call 60; refine (HCALL.out _ (Below.refl _ _)).mono ?_; rintro e w2 ⟨bb, off, kk, rfl, hfr, hrd, hb2⟩; have hAS := Lib.hid (has.out.step hb2 hjR hfr hrd); have hblk2 : Blk w2 w.heap.size 22 ⟨vs⟩ := (hb2.block _ hOlt).trans has.out.blk; have fz2 := hblk2.frozen; have hc2 := hblk2.cell j; rw [List.getElem?_toArray, List.getElem?_eq_getElem hjv] at hc2; have hB2 := Lib.hid (((hbel2.out.trans (hb2.mono hszr))).setCell (p := ⟨w.heap.size, j, none⟩) (Nat.le_refl _) (.slice (some ⟨bb, off, none⟩) m1 kk))))
          exact ⟨⟨j + 1, vs.set j (.slice (some ⟨bb, off, none⟩) m1 kk), by omega, by go_num, hAS.out, hB2.out⟩, by simp [intOf]; omega⟩
        · have hjk : j = k := by omega
          subst hjk
          go_wp2
          go_ret
          refine ⟨_, rfl, ?_, hbel2.out⟩
          rw [show dealP j l 0 (List.replicate j []) = R from HR2.out.symm]
          have := has.out
          rw [← hRk.out] at this
          exact this.end_ hRk.out
end Go.Proofs.YthallgbggkgboaaGreatDoor.Gp
