/-
  Bytes that a string's bytes are appended to.
  And: appendCount, for numbers of at most two groups. The writer of bytes: Count, Text, Bytes. exact, Bytes, Sum: bytes copied, and their sum. Seal: a record's bytes. mark and record: a note's bytes. record: a note's bytes.
-/
import Derived.Test.YtnbopkflhjakdaaGreatDoorNa
import Derived.Deep.Upon
import Derived.Deep.Cut
import Derived.Deep.CutBlock
import Derived.Deep.CutRange
import Derived.Laws.CopyOwn
import Derived.Laws.BytesString
namespace Go.Proofs.YtnbopkflhjakdaaGreatDoor.Oc
open Go Go.RowKit Dk

/- A text's bytes, as numbers. -/
def nums (s : ByteArray) : List Int := s.data.toList.map fun b => (b.toNat : Int)
theorem nums_length (s : ByteArray) : (nums s).length = s.size := by unfold nums; rw [List.length_map]; rfl
theorem byteCells_nums (s : ByteArray) : byteCells s = (nums s).map (Value.int .u8) := by
  unfold byteCells nums
  rw [List.map_map]; rfl
theorem take_set_succ {α : Type} (l : List α) (o : Nat) (v : α) (h : o < l.length) : (l.set o v).take (o + 1) = l.take o ++ [v] := by
  rw [List.take_add_one, List.getElem?_set_self h]
  rw [List.take_set_of_le (Nat.le_refl o)]
  rfl
theorem setCells_row {g : Nat} {t : TypeId} : ∀ (vs : List Value) (o : Nat) (w : World) (cs : Array Value), Blk w g t cs → o + vs.length ≤ cs.size →
    ∃ cs', Blk (w.setCells g o vs) g t cs' ∧ cs'.size = cs.size ∧ cs'.toList.take (o + vs.length) = cs.toList.take o ++ vs
  | [], o, w, cs, h, _ => ⟨cs, h, rfl, by simp⟩
  | v :: r, o, w, cs, h, hs => by
    have hs' : o + r.length + 1 ≤ cs.size := by simpa [Nat.add_assoc] using hs
    obtain ⟨cs', h1, h2, h3⟩ := setCells_row r (o + 1) (w.setCell ⟨g, o, none⟩ v) (cs.setIfInBounds o v) (h.set_ o v) (by simp; omega)
    refine ⟨cs', h1, by rw [h2]; simp, ?_⟩
    have e : o + (v :: r).length = o + 1 + r.length := by simp; omega
    rw [e, h3, Array.toList_setIfInBounds, take_set_succ _ _ _ (by simp; omega)]
    simp
theorem tape_setCells (b : Nat) : ∀ (vs : List Value) (o : Nat) (w : World), (w.setCells b o vs).tape = w.tape
  | [], _, _ => rfl
  | _v :: r, o, _w => (tape_setCells b r (o + 1) _).trans rfl
theorem heapSize_setCells (b : Nat) : ∀ (vs : List Value) (o : Nat) (w : World), (w.setCells b o vs).heap.size = w.heap.size
  | [], _, _ => rfl
  | v :: r, o, w => (heapSize_setCells b r (o + 1) _).trans (by simp)
theorem app_str (w : World) {b0 : Nat} {v : Value} {xs : List Int} (hown : Own w b0 v xs) (s : ByteArray) (ty : TypeId) (hb : xs.length + s.size ≤ 100000000) (hbase : b0 ≤ w.heap.size) :
    ∃ A' c' w', (Builtin.append_ #[82, 9] ty #[v, .string s]).run Tryz.prog w = .ok (.slice A' (xs.length + s.size) c') w' ∧
      Own w' b0 (.slice A' (xs.length + s.size) c') (xs ++ nums s) ∧ w.grownBy w' v.ownBlock ∧ ((Value.slice A' (xs.length + s.size) c').ownBlock = v.ownBlock ∨ (Value.slice A' (xs.length + s.size) c').ownBlock = some w.heap.size) := by
  obtain ⟨i0, hi0, hz0, hz1, hz2⟩ := info_parts infoByte
  have hsrc : Src Tryz.prog i0.size 9 (.string s) s.size (byteCells s) w := by rw [hz1]; exact Src.ofString w Tryz.underlying9 s
  have hln := nums_length s
  have hlb : (byteCells s).length = s.size := byteCells_length s
  have grown : ∀ (old : Nat), old < xs.length + s.size → ∀ (row : Option Nat),
      Own (w.drew.alloc (.cells (((xs.map (Value.int .u8)) ++ byteCells s).toArray ++ Builtin.zeroCells (Value.int .u8 0).cells (grownCap w (xs.length + s.size) old 5 - (xs.length + s.size))) 5)) b0
        (.slice (some ⟨w.heap.size, 0, none⟩) (xs.length + s.size) (grownCap w (xs.length + s.size) old 5)) (xs ++ nums s) ∧
      w.grownBy (w.drew.alloc (.cells (((xs.map (Value.int .u8)) ++ byteCells s).toArray ++ Builtin.zeroCells (Value.int .u8 0).cells (grownCap w (xs.length + s.size) old 5 - (xs.length + s.size))) 5)) row := by
    intro old ho row
    have hge := grownCap_ge w (xs.length + s.size) old 5
    have hcm : grownCap w (xs.length + s.size) old 5 ≤ maxLen := grownCap_le_maxLen w _ old 5 (by unfold maxLen; omega)
    have hlen : (xs ++ nums s).length = xs.length + s.size := by rw [List.length_append, hln]
    refine ⟨⟨by rw [List.length_map]; omega, .inr ⟨w.heap.size, _, _, by rw [hlen], hbase, heap_alloc_new w.drew _, by rw [hlen]; exact hge, hcm, ?_, ?_⟩⟩, ⟨rfl, rfl, rfl, by simp, fun k hk _ => heap_alloc_old w.drew _ hk⟩⟩
    · simp only [Array.size_append, List.size_toArray, size_zeroCells, List.length_append, List.length_map, hlb]
      show xs.length + s.size + (grownCap w (xs.length + s.size) old 5 - (xs.length + s.size)) * 1 = _
      omega
    · rw [byteCells_nums, ← List.map_append, Array.toList_append, hlen, Nat.mul_one]
      have e : xs.length + s.size = ((xs ++ nums s).map (Value.int .u8)).length := by rw [List.length_map, hlen]
      rw [e]
      exact List.take_left
  rcases hown.2 with ⟨rfl, hn⟩ | ⟨g, cap, cur, rfl, hbg, hg, hnc, hcm, hcs, htake⟩
  · have hx : xs = [] := List.eq_nil_of_length_eq_zero hn
    subst hx
    by_cases hm : s.size = 0
    · refine ⟨none, 0, w, ?_, ?_, ⟨rfl, rfl, rfl, Nat.le_refl _, fun _ _ _ => rfl⟩, Or.inl rfl⟩
      · rw [hm]
        simp [Builtin.append_, run_underlying Tryz.underlying82, run_underlying Tryz.underlying9, sizeOf, typeInfo, hi0, Builtin.lenOf, hm, Builtin.firstCells]
      · have : nums s = [] := List.eq_nil_of_length_eq_zero (by rw [hln, hm])
        rw [this, hm]
        exact World.ownsRow_nil _ _ _ _
    · have hr := run_append_grow_src (P := Tryz.prog) w 82 9 ty 5 i0 (.int .u8 0) Tryz.underlying82 hi0 hz0 none 0 0 [] (by simp [Builtin.firstCells]) (.string s) s.size (byteCells s) hsrc (by omega) (by simp at hb; omega) (by rw [hz2]; exact growslice_fits (by omega) (by simp at hb; omega))
      have hgr := grown 0 (by simp; omega) (Value.ownBlock (.slice none 0 0))
      simp only [List.length_nil, List.map_nil, List.nil_append, Nat.zero_add] at hr hgr ⊢
      exact ⟨_, _, _, hr, hgr.1, hgr.2, Or.inr rfl⟩
  · by_cases hroom : xs.length + s.size ≤ cap
    · have hr := run_append_room_src (P := Tryz.prog) w 82 9 ty 5 i0 Tryz.underlying82 hi0 g 0 xs.length cap (.string s) s.size (byteCells s) hsrc hroom
        (fun j hj => by
          rw [cell_of_row _ _ _ cur 5 (0, 0) hg, hz1, Array.getElem?_eq_getElem (by omega)]; rfl)
        (fun j hj => Blk.frozen (cs := cur) hg _)
      rw [hz1, Nat.mul_one, Nat.zero_add] at hr
      obtain ⟨cs', h1, h2, h3⟩ := setCells_row (byteCells s) xs.length w cur hg (by omega)
      have hlen : (xs ++ nums s).length = xs.length + s.size := by rw [List.length_append, hln]
      refine ⟨_, _, _, hr, ⟨by rw [List.length_map]; omega, .inr ⟨g, cap, cs', by rw [hlen], hbg, h1, by rw [hlen]; exact hroom, hcm, by rw [h2]; exact hcs, ?_⟩⟩, ⟨World.os_setCells w _ _ _, tape_setCells _ _ _ _, World.output_setCells w _ _ _, Nat.le_of_eq (heapSize_setCells _ _ _ _).symm, fun k hk hne => World.heap_setCells_other w g _ _ hk (fun e => hne (by rw [e]; rfl))⟩, Or.inl rfl⟩
      rw [hlen, Nat.mul_one, ← hlb, h3, byteCells_nums, List.map_append]
      rw [Nat.mul_one] at htake
      rw [htake]
    · have holds : ∀ j u, (xs.map (Value.int .u8))[j]? = some u → w.cell? ((⟨g, 0, none⟩ : Addr).add j) = some u := World.ownsRow.cells hown (g := g) rfl
      have hr := run_append_grow_src (P := Tryz.prog) w 82 9 ty 5 i0 (.int .u8 0) Tryz.underlying82 hi0 hz0 (some ⟨g, 0, none⟩) xs.length cap (xs.map (Value.int .u8)) (run_firstCells_some w.drew i0.size xs.length ⟨g, 0, none⟩ xs.length cap _ (by rw [hz1]; simp) (by simpa using holds)) (.string s) s.size (byteCells s) hsrc (by omega) (by omega) (by rw [hz2]; exact growslice_fits (by omega) (by omega))
      have hgr := grown cap (by omega) (Value.ownBlock (.slice (some ⟨g, 0, none⟩) xs.length cap))
      exact ⟨_, _, _, hr, hgr.1, hgr.2, Or.inr rfl⟩
end Go.Proofs.YtnbopkflhjakdaaGreatDoor.Oc
namespace Go.Proofs.YtnbopkflhjakdaaGreatDoor.Oc
open Go Go.RowKit Dk

def cnt (n : Nat) : List Int := if n < 128 then [(n : Int)] else [((n % 128 + 128 : Nat) : Int), ((n / 128 : Nat) : Int)]
/- What a value's own block may have turned to. -/
structure Grow (w w' : World) (v v' : Value) : Prop where
  alt : Alt w w' (fun k => v.ownBlock = some k)
  blk : ∀ k, v'.ownBlock = some k → k < w.heap.size → v.ownBlock = some k
theorem Grow.refl (w : World) (v : Value) : Grow w w v v := ⟨Alt.refl _ _, fun _ h _ => h⟩
theorem Grow.trans {w w1 w2 : World} {v v1 v2 : Value} (h : Grow w w1 v v1) (h' : Grow w1 w2 v1 v2) : Grow w w2 v v2 :=
  ⟨h.alt.trans h'.alt fun k hk e => h.blk k e hk, fun k e hk => h.blk k (h'.blk k e (Nat.lt_of_lt_of_le hk h.alt.size)) hk⟩
theorem Grow.of_app {w w' : World} {v v' : Value} (hg : w.grownBy w' v.ownBlock) (hb : v'.ownBlock = v.ownBlock ∨ v'.ownBlock = some w.heap.size) : Grow w w' v v' :=
  ⟨⟨hg.os, hg.tape, hg.output, hg.size, fun k hk hne => hg.block k hk fun e => hne e.symm⟩, fun k e hk => by
    rcases hb with h | h
    · rw [← h]; exact e
    · rw [h] at e; injection e with e; omega⟩
theorem Grow.alloc {w w' : World} {v v' : Value} (h : Grow w w' v v') (o : Obj) : Grow w (w'.alloc o) v v' := ⟨h.alt.alloc o, h.blk⟩
theorem Grow.of_alloc {w w' : World} {v v' : Value} {o : Obj} (h : Grow (w.alloc o) w' v v') (_hv : ∀ k, v.ownBlock = some k → k < w.heap.size) : Grow w w' v v' :=
  ⟨⟨h.alt.os, h.alt.tape, h.alt.output, Nat.le_trans (by simp) h.alt.size, fun k hk hne => (h.alt.block k (by simp; omega) hne).trans (Below.heap_alloc w o k hk)⟩, fun k e hk => h.blk k e (by simp; omega)⟩
theorem or128 (m : Nat) : bits .or .u8 ((m : Int) % 256) 128 = ((m % 128 + 128 : Nat) : Int) := by
  have h : ∀ r < 256, bits .or .u8 ((r : Nat) : Int) 128 = ((r % 128 + 128 : Nat) : Int) := by decide +kernel
  have e : (m : Int) % 256 = ((m % 256 : Nat) : Int) := by omega
  rw [e, h (m % 256) (Nat.mod_lt _ (by decide))]
  omega
theorem own_snoc {w : World} {b0 : Nat} {A : Option Addr} {c : Nat} {xs : List Int} {x : Int} (h : Own w b0 (.slice A (xs.length + 1) c) (xs ++ [x])) : Own w b0 (.slice A (xs ++ [x]).length c) (xs ++ [x]) := by
  simpa using h
theorem new_cell (w : World) (x : Int) : ∀ j u, ([x].map (Value.int .u8))[j]? = some u → (w.alloc (.cells #[.int .u8 x] 5)).cell? ((⟨w.heap.size, 0, none⟩ : Addr).add j) = some u := fun j u hj => by
  have hb := Blk.new w 5 #[.int .u8 x]
  have e : (⟨w.heap.size, 0, none⟩ : Addr).add j = ⟨w.heap.size, j, none⟩ := by unfold Addr.add; simp; intro h; exact h.symm
  rw [e, Blk.cell hb j]
  rw [← hj]
  cases j <;> simp
theorem Rb.one (w : World) (x : Int) : Rb (w.alloc (.cells #[.int .u8 x] 5)) (some ⟨w.heap.size, 0, none⟩) [x] := fun _ =>
  ⟨_, rfl, by simp, fun j u hj => by
    have := new_cell w x j u hj
    exact this⟩
set_option maxHeartbeats 4000000 in
set_option maxRecDepth 100000 in
theorem count_any {w : World} {b0 c : Nat} {A : Option Addr} {xs : List Int} (n : Nat) (hown : Own w b0 (.slice A xs.length c) xs) (hn : n < 16384) (hb : xs.length ≤ 90000000) (hbase : b0 ≤ w.heap.size) :
    Calls Tryz.prog 121 #[.slice A xs.length c, .int .i64 (n : Int)] w fun e w' => ∃ A' c', e = .returned (.slice A' (xs ++ cnt n).length c') ∧ Own w' b0 (.slice A' (xs ++ cnt n).length c') (xs ++ cnt n) ∧ Grow w w' (.slice A xs.length c) (.slice A' (xs ++ cnt n).length c') := by
  have HO := Lib.hid hown
  clear hown
  have hn0 : (0 : Int) ≤ (n : Int) := by omega
  go_enter Tryz.func121, Tryz.ntmps121
  go_wp2
  go_loopw [0, 1] (fun v0 v1 wr => ∃ (m c' : Nat) (A' : Option Addr) (ys : List Int), v1 = .int .i64 (m : Int) ∧ v0 = .slice A' (xs ++ ys).length c' ∧ m < 16384 ∧ ys.length ≤ 1 ∧ Hid (ys ++ cnt m = cnt n) ∧ Hid (Own wr b0 (.slice A' (xs ++ ys).length c') (xs ++ ys)) ∧ Hid (Grow w wr (.slice A xs.length c) (.slice A' (xs ++ ys).length c')) ∧ (128 ≤ m → ys = [])) (fun _ v1 _ => (intOf v1).toNat)
  case atStart => exact ⟨n, c, A, [], rfl, by simp, hn, by simp, rfl, Lib.hid (by simpa using HO.out), Lib.hid (by simpa using Grow.refl _ _), fun _ => rfl⟩
  case round =>
    obtain ⟨m, c', A', ys, rfl, rfl, hm, hy1, hcnt, HO1, HG1, hys⟩ := hrel
    by_cases h128 : 128 ≤ m
    · have hys0 := hys h128
      subst hys0
      clear hys hy1
      have h1 : (128 : Int) ≤ (m : Int) := by omega
      have hor := or128 m
      have hdec : decide ((128 : Int) ≤ (m : Int)) = true := decide_eq_true h1
      go_wp2_with (first
        | (at_builtin; refine wpList_app _ rfl _ _ rfl (v := .slice A' (xs ++ []).length c') (by simp; rfl) (Own.keep HO1.out ((Alt.refl wr (fun _ => False)).alloc _) (fun _ _ h => h)) (ys := [((m % 128 + 128 : Nat) : Int)]) (by rfl) (Rb.one _ _) (by simp; omega) (Nat.le_trans hbase (Nat.le_trans HG1.out.alt.size (by simp))) ?_; intro A2 c2 w2 hown2 hgrow2 hblk2))
      have e1 : cnt m = [((m % 128 + 128 : Nat) : Int), ((m / 128 : Nat) : Int)] := if_neg (by omega)
      have e2 : cnt (m / 128) = [((m / 128 : Nat) : Int)] := if_pos (by omega)
      refine ⟨⟨m / 128, c2, A2, [((m % 128 + 128 : Nat) : Int)], by go_num, by simp, by omega, by simp, Lib.hid (by rw [e2, ← hcnt.out, e1]; rfl), Lib.hid (by simpa using hown2), Lib.hid ?_, fun h => absurd h (by omega)⟩, by simp [intOf]; omega⟩
      have hg := HG1.out.trans ((Grow.of_app hgrow2 hblk2).of_alloc fun k hk => (Own.base HO1.out hk).2)
      simpa using hg
    · have h1 : ¬ (128 : Int) ≤ (m : Int) := by omega
      have hdec : decide ((128 : Int) ≤ (m : Int)) = false := decide_eq_false h1
      have hmod : (m : Int) % 256 = (m : Int) := by omega
      have e1 : Hid (cnt m = [(m : Int)]) := Lib.hid (if_pos (by omega))
      go_wp2_with (first
        | (at_builtin; refine wpList_app _ rfl _ _ rfl (v := .slice A' (xs ++ ys).length c') rfl (Own.keep HO1.out ((Alt.refl wr (fun _ => False)).alloc _) (fun _ _ h => h)) (ys := [(m : Int)]) (by rfl) (Rb.one _ _) (by simp; omega) (Nat.le_trans hbase (Nat.le_trans HG1.out.alt.size (by simp))) ?_; intro A2 c2 w2 hown2 hgrow2 hblk2))
      have hz : cnt n = ys ++ [(m : Int)] := by rw [← hcnt.out, e1.out]
      have hl : (xs ++ cnt n).length = xs.length + ys.length + 1 := by rw [hz]; simp; omega
      have hg := HG1.out.trans ((Grow.of_app hgrow2 hblk2).of_alloc fun k hk => (Own.base HO1.out hk).2)
      have ho : Own w2 b0 (.slice A2 (xs.length + ys.length + 1) c2) (xs ++ cnt n) := by rw [hz]; simpa using hown2
      have hg2 : Grow w w2 (.slice A xs.length c) (.slice A2 (xs.length + ys.length + 1) c2) := by simpa using hg
      go_ret
      refine ⟨A2, c2, ?_, ?_, ?_⟩
      · first | rw [hl] | (rw [List.length_append] at hl; simp only [hl]) | skip
        try rfl
      · first | (rw [hl]; exact ho) | (rw [List.length_append] at hl; rw [hl]; exact ho)
      · first | (rw [hl]; exact hg2) | (rw [List.length_append] at hl; rw [hl]; exact hg2)
end Go.Proofs.YtnbopkflhjakdaaGreatDoor.Oc
namespace Go.Proofs.YtnbopkflhjakdaaGreatDoor.Oc
open Go Go.RowKit Dk

theorem own_len {w : World} {b0 : Nat} {A : Option Addr} {L c : Nat} {xs : List Int} (h : Own w b0 (.slice A L c) xs) : L = xs.length := by
  obtain ⟨A', c', e, _⟩ := h.slice
  injection e with _ e _
theorem countL {w : World} {b0 L c : Nat} {A : Option Addr} {xs : List Int} (n : Nat) (hown : Own w b0 (.slice A L c) xs) (hn : n < 16384) (hb : xs.length ≤ 90000000) (hbase : b0 ≤ w.heap.size) :
    Calls Tryz.prog 121 #[.slice A L c, .int .i64 (n : Int)] w fun e w' => ∃ A' L' c', e = .returned (.slice A' L' c') ∧ Own w' b0 (.slice A' L' c') (xs ++ cnt n) ∧ Grow w w' (.slice A L c) (.slice A' L' c') := by
  obtain rfl := own_len hown
  refine (count_any n hown hn hb hbase).mono ?_
  rintro e w' ⟨A', c', rfl, h1, h2⟩
  exact ⟨A', _, c', rfl, h1, h2⟩
/- A writer in the world: its block, its bytes. -/
structure Wr (w : World) (b0 g : Nat) (v : Value) (xs : List Int) : Prop where
  blk : Blk w g 213 #[v]
  own : Own w b0 v xs
  base : b0 ≤ w.heap.size
structure GrowW (w w' : World) (g : Nat) (v v' : Value) : Prop where
  alt : Alt w w' (fun k => k = g ∨ v.ownBlock = some k)
  blk : ∀ k, v'.ownBlock = some k → k < w.heap.size → v.ownBlock = some k
theorem GrowW.refl (w : World) (g : Nat) (v : Value) : GrowW w w g v v := ⟨Alt.refl _ _, fun _ h _ => h⟩
theorem GrowW.trans {w w1 w2 : World} {g : Nat} {v v1 v2 : Value} (h : GrowW w w1 g v v1) (h' : GrowW w1 w2 g v1 v2) : GrowW w w2 g v v2 :=
  ⟨h.alt.trans h'.alt fun k hk e => e.imp id fun e => h.blk k e hk, fun k e hk => h.blk k (h'.blk k e (Nat.lt_of_lt_of_le hk h.alt.size)) hk⟩
/- A writer whose bytes have grown and are laid back. -/
theorem Wr.step {w w1 : World} {b0 g : Nat} {v : Value} {xs ys : List Int} {A : Option Addr} {L c : Nat} (h : Wr w b0 g v xs) (ho : Own w1 b0 (.slice A L c) ys) (hg : Grow w w1 v (.slice A L c)) :
    Wr (w1.setCell ⟨g, 0, none⟩ (.slice A L c)) b0 g (.slice A L c) ys ∧ GrowW w (w1.setCell ⟨g, 0, none⟩ (.slice A L c)) g v (.slice A L c) := by
  have hb1 : Blk w1 g 213 #[v] := (hg.alt.block g h.blk.lt (h.own.ne h.blk (by decide))).trans h.blk
  refine ⟨⟨hb1.set_ 0 _, ho.keep ((Alt.refl w1 (fun k => k = g)).set_ rfl _) (fun k hk e => ?_), by have := hg.alt.size; have := h.base; simp; omega⟩, Alt.set_ (p := fun k => k = g ∨ v.ownBlock = some k) (a := ⟨g, 0, none⟩) (hg.alt.mono fun k hk => Or.inr hk) (Or.inl rfl) _, hg.blk⟩
  subst e
  exact ho.ne hb1 (by decide) hk
set_option maxHeartbeats 4000000 in
set_option maxRecDepth 100000 in
theorem wcount_any {w : World} {b0 g L c : Nat} {A : Option Addr} {xs : List Int} (n : Nat) (h : Wr w b0 g (.slice A L c) xs) (hn : n < 16384) (hb : xs.length ≤ 90000000) :
    Calls Tryz.prog 104 #[.pointer (some ⟨g, 0, none⟩), .int .i64 (n : Int)] w fun e w' => e = .returned (.tuple #[]) ∧ ∃ A' L' c', Wr w' b0 g (.slice A' L' c') (xs ++ cnt n) ∧ GrowW w w' g (.slice A L c) (.slice A' L' c') := by
  have H := Lib.hid h
  have c0 : w.cell? ⟨g, 0, none⟩ = some (.slice A L c) := h.blk.cell 0
  have fz := h.blk.frozen 0
  clear h
  go_enter Tryz.func104, Tryz.ntmps104
  go_wp2_with (first
    | (go_at_call 121; refine (countL n H.out.own hn hb H.out.base).mono ?_; rintro e w1 ⟨A1, L1, c1, rfl, ho1, hg1⟩; have hs1 := H.out.step ho1 hg1; have hb1 : Blk w1 g 213 #[.slice A L c] := (hg1.alt.block g H.out.blk.lt (H.out.own.ne H.out.blk (by decide))).trans H.out.blk; have d0 : w1.cell? ⟨g, 0, none⟩ = some (.slice A L c) := hb1.cell 0; have dz := hb1.frozen 0; have HS := Lib.hid hs1; clear ho1 hg1 hb1 hs1))
  go_end0
  exact ⟨rfl, A1, L1, c1, HS.out⟩
theorem wpList_str {ops : Array Oper} {rest : List Oper} {o : Oper} {a : Act} {Q : Exit → Act → World → Prop} (w : World) (hgd : o.guard = none) (s x : Operand)
    (ho : o.op = .call { callee := .builtin .append, args := #[s, x], argTypes := #[82, 9] })
    {b0 : Nat} {v : Value} {xs : List Int} {t : ByteArray} (hs : a.eval s = v) (hown : Own w b0 v xs) (hx : a.eval x = .string t) (hb : xs.length + t.size ≤ 100000000) (hbase : b0 ≤ w.heap.size)
    (h : ∀ A' L' c' w', Own w' b0 (.slice A' L' c') (xs ++ nums t) → Grow w w' v (.slice A' L' c') → wpList Tryz.prog ops Q rest (a.put o.dst (.slice A' L' c')) w') : wpList Tryz.prog ops Q (o :: rest) a w := by
  refine wpList_plain hgd fun K hK => ?_
  obtain ⟨A', c', w', hr, h2, h3, h4⟩ := app_str w hown t o.type hb hbase
  unfold Oper.wp execOp
  simp only [ho, resolve, invoke, builtin, Sem.run_bind, Sem.run_pure, Result.andThen_ok, List.map_toArray, List.map_cons, List.map_nil, hs, hx, hr]
  exact hK _ _ (h A' _ c' w' h2 (Grow.of_app h3 h4))
set_option maxHeartbeats 4000000 in
set_option maxRecDepth 100000 in
theorem wtext_any {w : World} {b0 g L c : Nat} {A : Option Addr} {xs : List Int} (s : ByteArray) (h : Wr w b0 g (.slice A L c) xs) (hn : s.size < 16384) (hb : xs.length ≤ 80000000) :
    Calls Tryz.prog 122 #[.pointer (some ⟨g, 0, none⟩), .string s] w fun e w' => e = .returned (.tuple #[]) ∧ ∃ A' L' c', Wr w' b0 g (.slice A' L' c') (xs ++ (cnt s.size ++ nums s)) ∧ GrowW w w' g (.slice A L c) (.slice A' L' c') := by
  have H := Lib.hid h
  clear h
  have hcl : (cnt s.size).length ≤ 2 := by unfold cnt; split <;> simp
  go_enter Tryz.func122, Tryz.ntmps122
  go_wp2_with (first
    | (go_at_call 104; refine (wcount_any s.size H.out hn (by omega)).mono ?_; rintro e w1 ⟨rfl, A1, L1, c1, hw1, hg1⟩; have c0 : w1.cell? ⟨g, 0, none⟩ = some (.slice A1 L1 c1) := hw1.blk.cell 0; have fz := hw1.blk.frozen 0; have HW1 := Lib.hid hw1; have HG1 := Lib.hid hg1; clear hw1 hg1)
    | (at_builtin; refine wpList_str _ rfl _ _ rfl rfl HW1.out.own rfl (by rw [List.length_append]; omega) HW1.out.base ?_; intro A2 L2 c2 w2 ho2 hg2; have hs2 := HW1.out.step ho2 hg2; have hb2 : Blk w2 g 213 #[.slice A1 L1 c1] := (hg2.alt.block g HW1.out.blk.lt (HW1.out.own.ne HW1.out.blk (by decide))).trans HW1.out.blk; have d0 : w2.cell? ⟨g, 0, none⟩ = some (.slice A1 L1 c1) := hb2.cell 0; have dz := hb2.frozen 0; have HS := Lib.hid hs2; clear ho2 hg2 hb2 hs2))
  go_end0
  refine ⟨rfl, A2, L2, c2, ?_, HG1.out.trans HS.out.2⟩
  rw [← List.append_assoc]
  exact HS.out.1
end Go.Proofs.YtnbopkflhjakdaaGreatDoor.Oc
namespace Go.Proofs.YtnbopkflhjakdaaGreatDoor.Oc
open Go Go.RowKit Dk

theorem infoB : (Tryz.prog.info? 5).map (·.size) = some 1 := by kernel_rfl
theorem splice_all {α : Type} (L cs : List α) (h : cs.length = L.length) : splice L 0 cs = cs := by
  unfold splice
  rw [List.take_zero, Nat.zero_add, h, List.drop_length]
  simp
theorem make_bytes (w : World) (n : Nat) (h : n ≤ 90000000) : ∃ Z : List Value, Z.length = n ∧ (Instr.makeSlice 82 (.int .i64 (n : Int)) (.int .i64 (n : Int))).run Tryz.prog w = .ok (.slice (some ⟨w.heap.size, 0, none⟩) n n) (w.alloc (.cells Z.toArray 5)) := by
  obtain ⟨i0, hi0, hz0, hz1, hz2⟩ := info_parts infoByte
  have := run_make (P := Tryz.prog) w 82 5 i0 _ Tryz.underlying82 hi0 hz0 .i64 .i64 (n : Int) (n : Int) (by omega) (by omega) (by rw [hz2]; omega) (by omega)
  have e1 : ((n : Int)).toNat = n := by omega
  rw [e1] at this
  generalize hM : madeCells (Value.int .u8 0).cells (n * i0.size) = M at this
  have hs : M.size = n := by rw [← hM, size_madeCells, hz1, Nat.mul_one]
  exact ⟨M.toList, by simpa using hs, by simpa using this⟩
set_option maxHeartbeats 4000000 in
set_option maxRecDepth 100000 in
theorem exact_any {w : World} {c : Nat} {A : Option Addr} {xs : List Int} (h : Rb w A xs) (hb : xs.length ≤ 90000000) :
    Calls Tryz.prog 66 #[.slice A xs.length c] w fun e w' => ∃ A' L' c', e = .returned (.slice A' L' c') ∧ Own w' w.heap.size (.slice A' L' c') xs ∧ Below w.heap.size w w' := by
  obtain ⟨Z, hZ, hmk⟩ := make_bytes w xs.length hb
  have HZ := Lib.hid hZ
  have H1 := Lib.hid (h.keep (Alt.alloc (Alt.refl w (fun _ => False)) (.cells Z.toArray 5)) (fun _ _ h => h))
  have HN := Blk.new w 5 Z.toArray
  obtain ⟨ws, hws⟩ : ∃ ws, ws = xs.map (Value.int .u8) := ⟨_, rfl⟩
  have HWS := Lib.hid hws
  have HB0 : Hid (Below w.heap.size w (w.alloc (.cells Z.toArray 5))) := Lib.hid ((Below.refl _ _).alloc (Nat.le_refl _) _)
  have HNN := Lib.hid HN
  clear h hZ hws HN
  generalize hn : xs.length = n at hmk hb HZ ⊢
  have HNL := Lib.hid hn
  clear hn
  have h1 : (n : Int) ≤ 90000000 := by omega
  go_enter Tryz.func66, Tryz.ntmps66
  go_wp2_with (first
    | ((refine wpList_copy_splice rfl _ _ 82 82 rfl 5 Tryz.underlying82 infoB _ _ _ _ _ _ rfl rfl w.heap.size 0 Z 5 HNN.out ws (by rw [HWS.out, List.length_map, HNL.out]; exact (Nat.min_self n).symm) (fun hp => ⟨rfl, by
        obtain ⟨ad, e, _, hc⟩ := H1.out (by rw [HWS.out, List.length_map] at hp; exact hp)
        exact ⟨ad, e, by rw [HWS.out]; exact hc⟩⟩) (by rw [HWS.out, List.length_map, HNL.out, HZ.out]; omega) (by rw [HWS.out]; exact bytes_one xs) w.heap.size w HB0.out (Nat.le_refl _) ?_); intro w1 hrow1 hbel1))
  go_ret
  refine ⟨_, _, _, rfl, ⟨by rw [List.length_map, Nat.mul_one], .inr ⟨w.heap.size, n, _, by rw [HNL.out], Nat.le_refl _, hrow1.out, by rw [HNL.out]; exact Nat.le_refl _, by unfold maxLen; omega, ?_, ?_⟩⟩, hbel1⟩
  · rw [splice_all Z ws (by rw [HWS.out, List.length_map, HNL.out, HZ.out]), HWS.out]
    simp [HNL.out]
  · rw [splice_all Z ws (by rw [HWS.out, List.length_map, HNL.out, HZ.out]), HWS.out]
    simp only [Nat.mul_one]
    exact List.take_of_length_le (by simp)
set_option maxHeartbeats 4000000 in
set_option maxRecDepth 100000 in
theorem wbytes_any {w : World} {b0 g L c : Nat} {A : Option Addr} {xs : List Int} (h : Wr w b0 g (.slice A L c) xs) (hb : xs.length ≤ 90000000) :
    Calls Tryz.prog 48 #[.pointer (some ⟨g, 0, none⟩)] w fun e w' => ∃ A' L' c', e = .returned (.slice A' L' c') ∧ Own w' w.heap.size (.slice A' L' c') xs ∧ Below w.heap.size w w' := by
  obtain rfl := own_len h.own
  have HR := Lib.hid (Rb.of_own h.own)
  have c0 : w.cell? ⟨g, 0, none⟩ = some (.slice A xs.length c) := h.blk.cell 0
  clear h
  go_enter Tryz.func48, Tryz.ntmps48
  go_wp2_with (first
    | (go_at_call 66; refine (exact_any HR.out hb).mono ?_; rintro e w1 ⟨A1, L1, c1, rfl, ho1, hb1⟩; have HO1 := Lib.hid ho1; have HB1 := Lib.hid hb1; clear ho1 hb1))
  go_ret
  exact ⟨_, _, _, rfl, HO1.out, HB1.out⟩
def fnv : Int → List Int → Int
  | h, [] => h
  | h, b :: l => fnv (IntKind.u64.wrap (bits .xor .u64 h (IntKind.u64.wrap b) * 1099511628211)) l
set_option maxHeartbeats 4000000 in
set_option maxRecDepth 100000 in
theorem sum_any {w : World} {c : Nat} {A : Option Addr} {xs : List Int} (h : Rb w A xs) (hb : xs.length ≤ 90000000) :
    Calls Tryz.prog 65 #[.slice A xs.length c] w fun e w' => e = .returned (.int .u64 (fnv 14695981039346656037 xs)) ∧ w = w' := by
  have H := Lib.hid h
  clear h
  generalize hn : xs.length = n at hb ⊢
  have HNL := Lib.hid hn
  clear hn
  go_enter Tryz.func65, Tryz.ntmps65
  go_wp2
  go_loopw [3, 8] (fun v3 v8 wr => ∃ (j : Nat) (hh : Int), j ≤ n ∧ v8 = .int .i64 (j : Int) ∧ v3 = .int .u64 hh ∧ w = wr ∧ Hid (fnv hh (xs.drop j) = fnv 14695981039346656037 xs)) (fun _ v8 _ => n - (intOf v8).toNat)
  case atStart => exact ⟨0, _, Nat.zero_le _, rfl, rfl, rfl, rfl⟩
  case round =>
    obtain ⟨j, hh, hj, rfl, rfl, rfl, hf⟩ := hrel
    by_cases hgo : j < n
    · obtain ⟨ad, rfl, _, hc⟩ := H.out (by rw [HNL.out]; omega)
      have hx := hc j _ (by rw [List.getElem?_map, List.getElem?_eq_getElem (by rw [HNL.out]; exact hgo)]; rfl)
      go_wp2
      refine ⟨⟨j + 1, _, hgo, by go_num, rfl, trivial, Lib.hid ?_⟩, by simp [intOf]; omega⟩
      have e := List.drop_eq_getElem_cons (l := xs) (i := j) (by rw [HNL.out]; exact hgo)
      rw [← hf.out, e]
      rfl
    · have hjn : j = n := by omega
      have hfin : Hid (hh = fnv 14695981039346656037 xs) := Lib.hid (by
        rw [← hf.out, List.drop_eq_nil_of_le (by rw [HNL.out, hjn]; exact Nat.le_refl _)]; rfl)
      clear hf
      subst hjn
      go_wp2
      go_ret
      refine ⟨?_, rfl⟩
      rw [hfin.out]
      rfl
end Go.Proofs.YtnbopkflhjakdaaGreatDoor.Oc
namespace Go.Proofs.YtnbopkflhjakdaaGreatDoor.Oc
open Go Go.RowKit Dk

def be8 (h : Int) : List Int := [h / 72057594037927936 % 256, h / 281474976710656 % 256, h / 1099511627776 % 256, h / 4294967296 % 256, h / 16777216 % 256, h / 65536 % 256, h / 256 % 256, h % 256]
def preL (kind : Int) (ys : List Int) : List Int := kind :: (cnt ys.length ++ ys)
def sealL (kind : Int) (ys : List Int) : List Int := preL kind ys ++ be8 (fnv 14695981039346656037 (preL kind ys))
theorem cnt_len (n : Nat) : (cnt n).length ≤ 2 := by unfold cnt; split <;> simp
theorem wpList_bytes {ops : Array Oper} {rest : List Oper} {o : Oper} {a : Act} {Q : Exit → Act → World → Prop} (w : World) (hgd : o.guard = none) (s x : Operand)
    (ho : o.op = .call { callee := .builtin .append, args := #[s, x], argTypes := #[82, 82] })
    {b0 : Nat} {v : Value} {xs ys : List Int} {A : Option Addr} {L c : Nat} (hs : a.eval s = v) (hown : Own w b0 v xs) (hx : a.eval x = .slice A L c) (hL : L = ys.length) (hy : Rb w A ys) (hb : xs.length + ys.length ≤ 100000000) (hbase : b0 ≤ w.heap.size)
    (h : ∀ A' L' c' w', Own w' b0 (.slice A' L' c') (xs ++ ys) → Grow w w' v (.slice A' L' c') → wpList Tryz.prog ops Q rest (a.put o.dst (.slice A' L' c')) w') : wpList Tryz.prog ops Q (o :: rest) a w := by
  subst hL
  exact wpList_app w hgd s x ho hs hown hx hy hb hbase fun A' c' w' h1 h2 h3 => h A' _ c' w' h1 (Grow.of_app h2 h3)
theorem own_new (w : World) (x : Int) : Own (w.alloc (.cells #[.int .u8 x] 5)) w.heap.size (.slice (some ⟨w.heap.size, 0, none⟩) 1 1) [x] :=
  ⟨rfl, .inr ⟨w.heap.size, 1, #[.int .u8 x], rfl, Nat.le_refl _, Blk.new w _ _, Nat.le_refl _, by unfold maxLen; omega, rfl, rfl⟩⟩
theorem own_below {w w' : World} {b : Nat} {v : Value} {xs : List Int} (h : Own w b v xs) (hb : Below w.heap.size w w') : Own w' b v xs :=
  h.keep (p := fun k => w.heap.size ≤ k) ⟨hb.os, hb.tape, hb.output, hb.size, fun k hk _ => hb.block k hk⟩ fun k e hk => by have := (h.base e).2; omega
theorem own_to {w : World} {b b' : Nat} {v : Value} {xs : List Int} (h : Own w b v xs) (hb : b' ≤ b) : Own w b' v xs := by
  refine ⟨h.1, ?_⟩
  rcases h.2 with h2 | ⟨g, cap, cur, e, h3, h4, h5⟩
  · exact .inl h2
  · exact .inr ⟨g, cap, cur, e, Nat.le_trans hb h3, h4, h5⟩
theorem Grow.below {w w1 w2 : World} {B : Nat} {v v2 : Value} {xs : List Int} (hb : Below B w w1) (ho : Own w1 B v xs) (hg : Grow w1 w2 v v2) (hB : B ≤ w.heap.size) : Below B w w2 :=
  hb.trans ⟨hg.alt.os, hg.alt.tape, hg.alt.output, hg.alt.size, fun k hk => hg.alt.block k (by have := hb.size; omega) fun e => by have := (ho.base e).1; omega⟩
theorem Below.new1 (w : World) (o : Obj) : Below w.heap.size w (w.alloc o) := (Below.refl _ _).alloc (Nat.le_refl _) _
set_option maxHeartbeats 4000000 in
set_option maxRecDepth 100000 in
theorem seal_any {w : World} {c L b1 : Nat} {A : Option Addr} {ys : List Int} {kind : Int} (h : Own w b1 (.slice A L c) ys) (hl : ys.length < 16384) (hk1 : 1 ≤ kind) (hk2 : kind ≤ 255) :
    Calls Tryz.prog 47 #[.int .i64 kind, .slice A L c] w fun e w' => ∃ A' L' c', e = .returned (.tuple #[.slice A' L' c', .int .i64 0]) ∧ Own w' w.heap.size (.slice A' L' c') (sealL kind ys) ∧ Below w.heap.size w w' := by
  have HL := Lib.hid (own_len h)
  have H := Lib.hid h
  clear h
  have hL1 : (L : Int) ≤ 4194304 := by have := HL.out; omega
  have hL2 : L < 16384 := by have := HL.out; omega
  have hkd1 : decide (kind < 1) = false := decide_eq_false (by omega)
  have hkd2 : decide (255 < kind) = false := decide_eq_false (by omega)
  have hL3 : decide ((4194304 : Int) < (L : Int)) = false := decide_eq_false (by omega)
  have hkm : kind % 256 = kind := by omega
  obtain ⟨HH, hHH⟩ : ∃ HH, HH = fnv 14695981039346656037 (preL kind ys) := ⟨_, rfl⟩
  have HF := Lib.hid hHH
  clear hHH
  have HPL : Hid ([kind] ++ cnt L ++ ys = preL kind ys) := Lib.hid (by rw [HL.out]; unfold preL; simp)
  have HPN : Hid ((preL kind ys).length ≤ 20000) := Lib.hid (by have := cnt_len ys.length; unfold preL; simp; omega)
  go_enter Tryz.func47, Tryz.ntmps47
  go_wp2_with (first
    | (go_at_call 121; refine (countL L (own_new w kind) hL2 (by simp) (by simp)).mono ?_; rintro e w1 ⟨A1, L1, c1, rfl, ho1, hg1⟩; have HO1 := Lib.hid ho1; have HB1 := Lib.hid (Grow.below (Below.new1 w _) (own_new w kind) hg1 (Nat.le_refl _)); clear ho1 hg1)
    | (at_builtin; refine wpList_bytes _ rfl _ _ rfl rfl HO1.out rfl HL.out (Rb.of_own (HL.out ▸ own_below H.out HB1.out)) (by have := HPN.out; rw [← HPL.out] at this; simp only [List.length_append] at this ⊢; omega) HB1.out.size ?_; intro A2 L2 c2 w2 ho2 hg2; rw [HPL.out] at ho2; have HO2 := Lib.hid ho2; have HB2 := Lib.hid (Grow.below HB1.out HO1.out hg2 (Nat.le_refl _)); have HL2 := Lib.hid (own_len ho2); clear ho2 hg2)
    | (go_at_call 65; refine (show Calls _ _ _ _ _ from HL2.out ▸ sum_any (Rb.of_own (HL2.out ▸ HO2.out)) (by have := HPN.out; omega)).mono ?_; rintro e w3 ⟨rfl, rfl⟩; rw [← HF.out]))
  have HSH := Lib.hid (show (preL kind ys).length ≤ 20000 from HPN.out)
  go_loopw [6, 8] (fun v6 v8 wr => ∃ (k : Nat) (A' : Option Addr) (L' c' : Nat), k ≤ 8 ∧ v8 = .int .i64 (7 - (k : Int)) ∧ v6 = .slice A' L' c' ∧ Hid (Own wr w.heap.size (.slice A' L' c') (preL kind ys ++ (be8 HH).take k)) ∧ Hid (Below w.heap.size w wr)) (fun _ v8 _ => (intOf v8 + 1).toNat)
  case atStart => exact ⟨0, A2, L2, c2, by omega, rfl, rfl, Lib.hid (by simpa using HO2.out), HB2.out⟩
  case round =>
    obtain ⟨k, A', L', c', hk, rfl, rfl, HO, HB⟩ := hrel
    have hk9 : k = 0 ∨ k = 1 ∨ k = 2 ∨ k = 3 ∨ k = 4 ∨ k = 5 ∨ k = 6 ∨ k = 7 ∨ k = 8 := by omega
    clear HO2 HB2 HL2 HO1 HB1
    rcases hk9 with rfl | rfl | rfl | rfl | rfl | rfl | rfl | rfl | rfl
    · go_wp2_with (first
        | (at_builtin; refine wpList_bytes _ rfl _ _ rfl rfl (own_below HO.out (Below.new1 _ _)) (ys := [_]) rfl rfl (Rb.one _ _) (by have := HSH.out; simp; omega) (Nat.le_trans HB.out.size (by simp)) ?_; intro A3 L3 c3 w3 ho3 hg3; have HO3 := Lib.hid ho3; have HB3 := Lib.hid (Grow.below (HB.out.alloc HB.out.size _) (own_below HO.out (Below.new1 _ _)) hg3 (Nat.le_refl _)); clear ho3 hg3))
      refine ⟨⟨1, A3, L3, c3, by omega, rfl, rfl, Lib.hid ?_, HB3⟩, by simp [intOf]⟩
      have := HO3.out
      rw [List.append_assoc] at this
      exact this
    · go_wp2_with (first
        | (at_builtin; refine wpList_bytes _ rfl _ _ rfl rfl (own_below HO.out (Below.new1 _ _)) (ys := [_]) rfl rfl (Rb.one _ _) (by have := HSH.out; simp; omega) (Nat.le_trans HB.out.size (by simp)) ?_; intro A3 L3 c3 w3 ho3 hg3; have HO3 := Lib.hid ho3; have HB3 := Lib.hid (Grow.below (HB.out.alloc HB.out.size _) (own_below HO.out (Below.new1 _ _)) hg3 (Nat.le_refl _)); clear ho3 hg3))
      refine ⟨⟨2, A3, L3, c3, by omega, rfl, rfl, Lib.hid ?_, HB3⟩, by simp [intOf]⟩
      have := HO3.out
      rw [List.append_assoc] at this
      exact this
    · go_wp2_with (first
        | (at_builtin; refine wpList_bytes _ rfl _ _ rfl rfl (own_below HO.out (Below.new1 _ _)) (ys := [_]) rfl rfl (Rb.one _ _) (by have := HSH.out; simp; omega) (Nat.le_trans HB.out.size (by simp)) ?_; intro A3 L3 c3 w3 ho3 hg3; have HO3 := Lib.hid ho3; have HB3 := Lib.hid (Grow.below (HB.out.alloc HB.out.size _) (own_below HO.out (Below.new1 _ _)) hg3 (Nat.le_refl _)); clear ho3 hg3))
      refine ⟨⟨3, A3, L3, c3, by omega, rfl, rfl, Lib.hid ?_, HB3⟩, by simp [intOf]⟩
      have := HO3.out
      rw [List.append_assoc] at this
      exact this
    · go_wp2_with (first
        | (at_builtin; refine wpList_bytes _ rfl _ _ rfl rfl (own_below HO.out (Below.new1 _ _)) (ys := [_]) rfl rfl (Rb.one _ _) (by have := HSH.out; simp; omega) (Nat.le_trans HB.out.size (by simp)) ?_; intro A3 L3 c3 w3 ho3 hg3; have HO3 := Lib.hid ho3; have HB3 := Lib.hid (Grow.below (HB.out.alloc HB.out.size _) (own_below HO.out (Below.new1 _ _)) hg3 (Nat.le_refl _)); clear ho3 hg3))
      refine ⟨⟨4, A3, L3, c3, by omega, rfl, rfl, Lib.hid ?_, HB3⟩, by simp [intOf]⟩
      have := HO3.out
      rw [List.append_assoc] at this
      exact this
    · go_wp2_with (first
        | (at_builtin; refine wpList_bytes _ rfl _ _ rfl rfl (own_below HO.out (Below.new1 _ _)) (ys := [_]) rfl rfl (Rb.one _ _) (by have := HSH.out; simp; omega) (Nat.le_trans HB.out.size (by simp)) ?_; intro A3 L3 c3 w3 ho3 hg3; have HO3 := Lib.hid ho3; have HB3 := Lib.hid (Grow.below (HB.out.alloc HB.out.size _) (own_below HO.out (Below.new1 _ _)) hg3 (Nat.le_refl _)); clear ho3 hg3))
      refine ⟨⟨5, A3, L3, c3, by omega, rfl, rfl, Lib.hid ?_, HB3⟩, by simp [intOf]⟩
      have := HO3.out
      rw [List.append_assoc] at this
      exact this
    · go_wp2_with (first
        | (at_builtin; refine wpList_bytes _ rfl _ _ rfl rfl (own_below HO.out (Below.new1 _ _)) (ys := [_]) rfl rfl (Rb.one _ _) (by have := HSH.out; simp; omega) (Nat.le_trans HB.out.size (by simp)) ?_; intro A3 L3 c3 w3 ho3 hg3; have HO3 := Lib.hid ho3; have HB3 := Lib.hid (Grow.below (HB.out.alloc HB.out.size _) (own_below HO.out (Below.new1 _ _)) hg3 (Nat.le_refl _)); clear ho3 hg3))
      refine ⟨⟨6, A3, L3, c3, by omega, rfl, rfl, Lib.hid ?_, HB3⟩, by simp [intOf]⟩
      have := HO3.out
      rw [List.append_assoc] at this
      exact this
    · go_wp2_with (first
        | (at_builtin; refine wpList_bytes _ rfl _ _ rfl rfl (own_below HO.out (Below.new1 _ _)) (ys := [_]) rfl rfl (Rb.one _ _) (by have := HSH.out; simp; omega) (Nat.le_trans HB.out.size (by simp)) ?_; intro A3 L3 c3 w3 ho3 hg3; have HO3 := Lib.hid ho3; have HB3 := Lib.hid (Grow.below (HB.out.alloc HB.out.size _) (own_below HO.out (Below.new1 _ _)) hg3 (Nat.le_refl _)); clear ho3 hg3))
      refine ⟨⟨7, A3, L3, c3, by omega, rfl, rfl, Lib.hid ?_, HB3⟩, by simp [intOf]⟩
      have := HO3.out
      rw [List.append_assoc] at this
      exact this
    · go_wp2_with (first
        | (at_builtin; refine wpList_bytes _ rfl _ _ rfl rfl (own_below HO.out (Below.new1 _ _)) (ys := [_]) rfl rfl (Rb.one _ _) (by have := HSH.out; simp; omega) (Nat.le_trans HB.out.size (by simp)) ?_; intro A3 L3 c3 w3 ho3 hg3; have HO3 := Lib.hid ho3; have HB3 := Lib.hid (Grow.below (HB.out.alloc HB.out.size _) (own_below HO.out (Below.new1 _ _)) hg3 (Nat.le_refl _)); clear ho3 hg3))
      refine ⟨⟨8, A3, L3, c3, by omega, rfl, rfl, Lib.hid ?_, HB3⟩, by simp [intOf]⟩
      have := HO3.out
      rw [List.append_assoc] at this
      exact this
    · have HLr := Lib.hid (own_len HO.out)
      go_wp2_with (first
        | (go_at_call 66; refine (show Calls _ _ _ _ _ from HLr.out ▸ exact_any (Rb.of_own (HLr.out ▸ HO.out)) (by have := HSH.out; simp [be8]; omega)).mono ?_; rintro e w3 ⟨A3, L3, c3, rfl, ho3, hb3⟩; have HO3 := Lib.hid ho3; have HB3 := Lib.hid hb3; clear ho3 hb3))
      go_ret2
      refine ⟨A3, L3, c3, rfl, ?_, HB.out.trans (HB3.out.mono HB.out.size)⟩
      have := own_to HO3.out HB.out.size
      unfold sealL
      rw [← HF.out]
      exact this
end Go.Proofs.YtnbopkflhjakdaaGreatDoor.Oc
namespace Go.Proofs.YtnbopkflhjakdaaGreatDoor.Oc
open Go Go.RowKit Dk

def strOf (ys : List Int) : ByteArray := ys.foldl (fun r n => r.push (UInt8.ofNat n.toNat)) ByteArray.empty
theorem conv_run {w : World} {A : Option Addr} {c : Nat} {ys : List Int} (hy : Rb w A ys) (hA : A = none → ys.length = 0) :
    (convert 82 9 (.slice A ys.length c)).run Tryz.prog w = .ok (.string (strOf ys)) w := by
  rw [run_convert_bytes_string w 82 9 5 A _ _ Tryz.underlying82 Tryz.underlying5 Tryz.underlying9]
  rcases A with _ | ad
  · have h0 := hA rfl
    obtain rfl : ys = [] := List.eq_nil_of_length_eq_zero h0
    simp [Conv.bytesToString, strOf]
  · refine run_bytesToString w ad ys.length c ys ?_
    by_cases h0 : ys.length = 0
    · obtain rfl : ys = [] := List.eq_nil_of_length_eq_zero h0
      simp [loadCells, loadCellsFrom]
    · obtain ⟨ad', e, _, hc⟩ := hy (by omega)
      cases e
      have := run_loadCells_list (P := Tryz.prog) (w := w) ad (ys.map (Value.int .u8)) hc
      rwa [List.length_map] at this

theorem strOf_go : ∀ (ys : List Int) (r : ByteArray), (ys.foldl (fun r n => r.push (UInt8.ofNat n.toNat)) r).data.toList = r.data.toList ++ ys.map fun n => UInt8.ofNat n.toNat
  | [], r => by simp
  | y :: l, r => by
    rw [List.foldl_cons, strOf_go l]
    simp
theorem strOf_data (ys : List Int) : (strOf ys).data.toList = ys.map fun n => UInt8.ofNat n.toNat := (strOf_go ys _).trans (by simp)
theorem strOf_size (ys : List Int) : (strOf ys).size = ys.length := by
  have : (strOf ys).data.toList.length = ys.length := by rw [strOf_data, List.length_map]
  exact this
def IsB (ys : List Int) : Prop := ∀ y ∈ ys, 0 ≤ y ∧ y < 256
theorem nums_strOf {ys : List Int} (h : IsB ys) : nums (strOf ys) = ys := by
  unfold nums
  rw [strOf_data, List.map_map]
  refine (List.map_congr_left fun y hy => ?_).trans (List.map_id ys)
  obtain ⟨h0, h1⟩ := h y hy
  show (((UInt8.ofNat y.toNat).toNat : Nat) : Int) = y
  rw [UInt8.toNat_ofNat', Nat.mod_eq_of_lt (by omega)]
  omega
def mkL (v : Nat) : List Int := [(v : Int) / 16777216, (v : Int) / 65536 % 256, (v : Int) / 256 % 256, (v : Int) % 256]
theorem mkL_b {v : Nat} (hv : v < 2147483648) : IsB (mkL v) := by
  intro y hy
  simp only [mkL, List.mem_cons, List.mem_nil_iff, or_false] at hy
  rcases hy with rfl | rfl | rfl | rfl <;> omega
theorem new_cells (w : World) (ys : List Int) : Rb (w.alloc (.cells (ys.map (Value.int .u8)).toArray 5)) (some ⟨w.heap.size, 0, none⟩) ys := fun _ =>
  ⟨_, rfl, by simp, fun j u hj => by
    have hb := Blk.new w 5 (ys.map (Value.int .u8)).toArray
    have e : (⟨w.heap.size, 0, none⟩ : Addr).add j = ⟨w.heap.size, j, none⟩ := by unfold Addr.add; simp; intro h; exact h.symm
    rw [e, Blk.cell hb j]
    simpa using hj⟩
set_option maxHeartbeats 4000000 in
set_option maxRecDepth 100000 in
theorem mark_any {w : World} (v : Nat) (hv : v < 2147483648) :
    Calls Tryz.prog 123 #[.int .i64 (v : Int)] w fun e w' => e = .returned (.string (strOf (mkL v))) ∧ Below w.heap.size w w' := by
  have hcv := conv_run (c := 4) (new_cells w (mkL v)) (fun h => by cases h)
  have hcv' : (convert 82 9 (.slice (some ⟨w.heap.size, 0, none⟩) 4 4)).run Tryz.prog (w.alloc (.cells #[.int .u8 ((v : Int) / 16777216), .int .u8 ((v : Int) / 65536 % 256), .int .u8 ((v : Int) / 256 % 256), .int .u8 ((v : Int) % 256)] 5)) = .ok (.string (strOf (mkL v))) (w.alloc (.cells #[.int .u8 ((v : Int) / 16777216), .int .u8 ((v : Int) / 65536 % 256), .int .u8 ((v : Int) / 256 % 256), .int .u8 ((v : Int) % 256)] 5)) := hcv
  clear hcv
  go_enter Tryz.func123, Tryz.ntmps123
  go_wp2
  go_ret
  exact ⟨rfl, Below.new1 _ _⟩
set_option maxHeartbeats 4000000 in
set_option maxRecDepth 100000 in
theorem wnew_any (w : World) : Calls Tryz.prog 45 #[] w fun e w' => e = .returned (.pointer (some ⟨w.heap.size, 0, none⟩)) ∧ Wr w' w.heap.size w.heap.size (.slice none 0 0) [] ∧ Below w.heap.size w w' := by
  go_enter Tryz.func45, Tryz.ntmps45
  go_wp2
  go_ret
  exact ⟨rfl, ⟨Blk.new _ _ _, World.ownsRow_nil _ _ _ _, by simp⟩, Below.new1 _ _⟩
end Go.Proofs.YtnbopkflhjakdaaGreatDoor.Oc
namespace Go.Proofs.YtnbopkflhjakdaaGreatDoor.Oc
open Go Go.RowKit Dk

def textL (ys : List Int) : List Int := cnt ys.length ++ ys
def bodyL (name : List Int) (version : Nat) (rest : List Int) : List Int := textL name ++ (textL (mkL version) ++ rest)
theorem GrowW.below {w wN w1 : World} {g : Nat} {v1 : Value} (h : GrowW wN w1 g (.slice none 0 0) v1) (hN : Below w.heap.size w wN) (hg : w.heap.size ≤ g) : Below w.heap.size w w1 :=
  hN.trans (h.alt.below (fun k hk => by
    rcases hk with rfl | hk
    · exact hg
    · cases hk) hN.size)
theorem textL_len (ys : List Int) : (textL ys).length ≤ ys.length + 2 := by
  unfold textL
  have := cnt_len ys.length
  simp; omega
theorem text_nums (s : ByteArray) : cnt s.size ++ nums s = textL (nums s) := by unfold textL; rw [nums_length]
theorem note_cells {w : World} {a b c d e : Value} (W : World) (hb : Below (w.alloc (.cells #[a, b, c, d, e] 93)).heap.size (w.alloc (.cells #[a, b, c, d, e] 93)) W) :
    W.cell? ⟨w.heap.size, 0, none⟩ = some a ∧ W.cell? ⟨w.heap.size, 1, none⟩ = some b ∧ W.cell? ⟨w.heap.size, 2, none⟩ = some c ∧ W.cell? ⟨w.heap.size, 3, none⟩ = some d ∧ W.cell? ⟨w.heap.size, 4, none⟩ = some e := by
  have h := (hb.block w.heap.size (by simp)).trans (Blk.new w 93 #[a, b, c, d, e])
  have hB : Blk W w.heap.size 93 #[a, b, c, d, e] := h
  exact ⟨hB.cell 0, hB.cell 1, hB.cell 2, hB.cell 3, hB.cell 4⟩
theorem Wr.below {w w' : World} {b0 g : Nat} {v : Value} {xs : List Int} (h : Wr w b0 g v xs) (hb : Below w.heap.size w w') : Wr w' b0 g v xs :=
  ⟨(hb.block g h.blk.lt).trans h.blk, own_below h.own hb, Nat.le_trans h.base hb.size⟩
theorem Wr.drew {w : World} {b0 g : Nat} {v : Value} {xs : List Int} (h : Wr w b0 g v xs) : Wr w.drew b0 g v xs := ⟨h.blk, h.own, h.base⟩
theorem GrowW.then {w0 w1 w2 : World} {g : Nat} {v v1 : Value} (h : GrowW w0 w1 g v v1) (hb : Below w1.heap.size w1 w2) : GrowW w0 w2 g v v1 :=
  ⟨⟨hb.os.trans h.alt.os, hb.tape.trans h.alt.tape, hb.output.trans h.alt.output, Nat.le_trans h.alt.size hb.size, fun k hk hp => (hb.block k (Nat.lt_of_lt_of_le hk h.alt.size)).trans (h.alt.block k hk hp)⟩, h.blk⟩
theorem _root_.Go.Proofs.YtnbopkflhjakdaaGreatDoor.Dk.Rb.below {w w' : World} {A : Option Addr} {xs : List Int} (h : Rb w A xs) (hb : Below w.heap.size w w') : Rb w' A xs := by
  rcases xs with _ | ⟨x, l⟩
  · exact Rb.nil _ _
  · refine h.keep (p := fun k => w.heap.size ≤ k) ⟨hb.os, hb.tape, hb.output, hb.size, fun k hk _ => hb.block k hk⟩ (fun ad e hk => ?_)
    obtain ⟨ad', e', hl, _⟩ := h (by simp)
    rw [e] at e'; injection e' with e'; subst e'
    exact absurd hk (by show ¬ w.heap.size ≤ ad.block; omega)
/- A note without a model: Point, Drop. -/
set_option maxHeartbeats 4000000 in
set_option maxRecDepth 100000 in
theorem record_short {w : World} {kind : Int} (name : ByteArray) (version : Nat) (live : Int) (mv : Value) (hn : name.size ≤ 1000) (hv : version < 2147483648) (hk : kind = 2 ∨ kind = 3) :
    Calls Tryz.prog 49 #[.agg #[.int .i64 kind, .string name, .int .i64 (version : Int), .int .i64 live, mv]] w fun e w' => ∃ A' L' c', e = .returned (.tuple #[.slice A' L' c', .bool true]) ∧ Own w' w.heap.size (.slice A' L' c') (sealL kind (bodyL (nums name) version [])) ∧ Below w.heap.size w w' := by
  have hkk : Hid (1 ≤ kind ∧ kind ≤ 255) := Lib.hid (by omega)
  have hk1 : (kind == 4) = false := by simp; omega
  have hk2 : (kind == 1) = false := by simp; omega
  have hk3 : (kind == 5) = false := by simp; omega
  have HNM := Lib.hid (nums_length name)
  have hsz4 : (strOf (mkL version)).size = 4 := strOf_size _
  have HS4 := Lib.hid hsz4
  have HNS := Lib.hid (nums_strOf (mkL_b hv))
  have HCL := Lib.hid (fun W hb => note_cells (w := w) (a := .int .i64 kind) (b := .string name) (c := .int .i64 (version : Int)) (d := .int .i64 live) (e := mv) W hb)
  have HW1 := Lib.hid (Below.new1 w (.cells #[.int .i64 kind, .string name, .int .i64 (version : Int), .int .i64 live, mv] 93))
  obtain ⟨W1, hW1⟩ : ∃ W1, W1 = w.alloc (.cells #[.int .i64 kind, .string name, .int .i64 (version : Int), .int .i64 live, mv] 93) := ⟨_, rfl⟩
  have HWE := Lib.hid hW1
  rw [← hW1] at HCL HW1
  have HSZ : Hid (W1.heap.size = w.heap.size + 1) := Lib.hid (by rw [hW1]; simp)
  clear hsz4 hW1
  generalize hM : strOf (mkL version) = M at HS4 HNS
  have HM := Lib.hid hM
  clear hM hk
  go_enter Tryz.func49, Tryz.ntmps49
  go_wp2_with (first
    | (go_at_call 45; refine (wnew_any _).mono ?_; rintro e w0 ⟨rfl, hw0, hb0⟩; rw [← HWE.out] at hw0 hb0; rw [HSZ.out] at hw0; have HW := Lib.hid hw0; have HB := Lib.hid hb0; have HG := Lib.hid (GrowW.refl w0 (w.heap.size + 1) (.slice none 0 0)); obtain ⟨k0, k1, k2, k3, k4⟩ := HCL.out _ hb0; clear hw0 hb0)
    | (go_at_call 123; refine (mark_any _ (by first | exact hv)).mono ?_; rintro e w2 ⟨rfl, hb2⟩; (first | rw [HM.out]); dsimp only; have HG := Lib.hid (HG.out.then hb2); have HW := Lib.hid (HW.out.below hb2); have HB1 := Lib.hid (HG.out.below HB.out (by rw [HSZ.out]; exact Nat.le_refl _)); obtain ⟨k0, k1, k2, k3, k4⟩ := HCL.out _ HB1.out; clear hb2)
    | (go_at_call 122; refine (wtext_any _ HW.out (by first | omega | (rw [HS4.out]; decide)) (by have := HNM.out; have := HS4.out; have := cnt_len name.size; have := cnt_len M.size; have := nums_length M; simp; try omega)).mono ?_; rintro e w1 ⟨rfl, A1, L1, c1, hw1, hg1⟩; have HG := Lib.hid (HG.out.trans hg1); have HW := Lib.hid hw1; have HB1 := Lib.hid (HG.out.below HB.out (by rw [HSZ.out]; exact Nat.le_refl _)); obtain ⟨k0, k1, k2, k3, k4⟩ := HCL.out _ HB1.out; clear hw1 hg1))
  have HLN := Lib.hid (show (bodyL (nums name) version []).length ≤ 15000 from by
    have := HNM.out; have := textL_len (nums name); have := textL_len (mkL version); unfold bodyL; simp [mkL] at *; omega)
  have HEQ : Hid (([] ++ (cnt name.size ++ nums name)) ++ (cnt M.size ++ nums M) = bodyL (nums name) version []) := Lib.hid (by
    rw [text_nums, text_nums, HNS.out]; unfold bodyL; simp)
  rw [HEQ.out] at HW
  have HB := HB1
  go_region_held3 (fun w' => w'.cell? ⟨w.heap.size, 0, none⟩ = some (.int .i64 kind)) (simp [*]) (first
    | (go_at_call 48; refine (wbytes_any HW.out.drew (by have := HLN.out; omega)).mono ?_; rintro e w5 ⟨A5, L5, c5, rfl, ho5, hb5⟩; replace hb5 := (Below.refl _ _).drew.trans hb5; have HO5 := Lib.hid ho5; have HB5 := Lib.hid hb5; obtain ⟨k0, k1, k2, k3, k4⟩ := HCL.out _ (HB.out.trans (hb5.mono HB.out.size)); clear ho5 hb5)
    | (go_at_call 47; refine (seal_any HO5.out (by have := HLN.out; omega) hkk.out.1 hkk.out.2).mono ?_; rintro e w6 ⟨A6, L6, c6, rfl, ho6, hb6⟩; have HO6 := Lib.hid ho6; have HB6 := Lib.hid hb6; obtain ⟨k0, k1, k2, k3, k4⟩ := HCL.out _ ((HB.out.trans (HB5.out.mono HB.out.size)).trans (hb6.mono (Nat.le_trans HB.out.size HB5.out.size))); clear ho6 hb6))
  go_wp2
  go_ret2
  have h1 := HW1.out.trans ((HB.out.trans ((HB5.out.trans (HB6.out.mono HB5.out.size)).mono HB.out.size)).mono HW1.out.size)
  exact ⟨A6, L6, c6, rfl, own_to HO6.out (Nat.le_trans HW1.out.size (Nat.le_trans HB.out.size HB5.out.size)), h1⟩
/- A note with a model: Put, and what Pack keeps. -/
set_option maxHeartbeats 4000000 in
set_option maxRecDepth 100000 in
theorem record_put {w : World} {kind : Int} (name : ByteArray) (version : Nat) (live : Int) {A : Option Addr} {L c : Nat} {ms : List Int} (hms : Rb w A ms) (hLm : L = ms.length) (hA0 : A = none → ms.length = 0) (hmb : IsB ms) (hml : ms.length ≤ 12000) (hn : name.size ≤ 1000) (hv : version < 2147483648) (hk : kind = 1) :
    Calls Tryz.prog 49 #[.agg #[.int .i64 kind, .string name, .int .i64 (version : Int), .int .i64 live, .slice A L c]] w fun e w' => ∃ A' L' c', e = .returned (.tuple #[.slice A' L' c', .bool true]) ∧ Own w' w.heap.size (.slice A' L' c') (sealL kind (bodyL (nums name) version (textL ms))) ∧ Below w.heap.size w w' := by
  have hkk : Hid (1 ≤ kind ∧ kind ≤ 255) := Lib.hid (by omega)
  have hk1 : (kind == 4) = false := by simp; omega
  have hk2 : (kind == 1) = true := by simp; omega
  have HNM := Lib.hid (nums_length name)
  have hsz4 : (strOf (mkL version)).size = 4 := strOf_size _
  have HS4 := Lib.hid hsz4
  have HNS := Lib.hid (nums_strOf (mkL_b hv))
  have HS2 := Lib.hid (strOf_size ms)
  have HN2 := Lib.hid (nums_strOf hmb)
  have HCV : Hid (∀ W, Below w.heap.size w W → (convert 82 9 (.slice A L c)).run Tryz.prog W = .ok (.string (strOf ms)) W) := Lib.hid fun W hb => by
    rw [hLm]
    exact conv_run (hms.below hb) hA0
  clear hLm hA0
  have HCL := Lib.hid (fun W hb => note_cells (w := w) (a := .int .i64 kind) (b := .string name) (c := .int .i64 (version : Int)) (d := .int .i64 live) (e := .slice A L c) W hb)
  have HW1 := Lib.hid (Below.new1 w (.cells #[.int .i64 kind, .string name, .int .i64 (version : Int), .int .i64 live, .slice A L c] 93))
  obtain ⟨W1, hW1⟩ : ∃ W1, W1 = w.alloc (.cells #[.int .i64 kind, .string name, .int .i64 (version : Int), .int .i64 live, .slice A L c] 93) := ⟨_, rfl⟩
  have HWE := Lib.hid hW1
  rw [← hW1] at HCL HW1
  have HSZ : Hid (W1.heap.size = w.heap.size + 1) := Lib.hid (by rw [hW1]; simp)
  clear hsz4 hW1
  generalize hM : strOf (mkL version) = M at HS4 HNS
  have HM := Lib.hid hM
  clear hM hk
  go_enter Tryz.func49, Tryz.ntmps49
  go_wp2_with (first
    | (go_at_call 45; refine (wnew_any _).mono ?_; rintro e w0 ⟨rfl, hw0, hb0⟩; rw [← HWE.out] at hw0 hb0; rw [HSZ.out] at hw0; have HW := Lib.hid hw0; have HB := Lib.hid hb0; have HG := Lib.hid (GrowW.refl w0 (w.heap.size + 1) (.slice none 0 0)); obtain ⟨k0, k1, k2, k3, k4⟩ := HCL.out _ hb0; clear hw0 hb0)
    | (go_at_call 123; refine (mark_any _ (by first | exact hv)).mono ?_; rintro e w2 ⟨rfl, hb2⟩; (first | rw [HM.out]); dsimp only; have HG := Lib.hid (HG.out.then hb2); have HW := Lib.hid (HW.out.below hb2); have HB1 := Lib.hid (HG.out.below HB.out (by rw [HSZ.out]; exact Nat.le_refl _)); obtain ⟨k0, k1, k2, k3, k4⟩ := HCL.out _ HB1.out; have hcv := HCV.out _ (HW1.out.trans (HB1.out.mono HW1.out.size)); clear hb2)
    | (go_at_call 122; refine (wtext_any _ HW.out (by first | omega | (rw [HS4.out]; decide) | (rw [HS2.out]; omega)) (by have := HNM.out; have := HS4.out; have := cnt_len name.size; have := cnt_len M.size; have := nums_length M; simp; try omega)).mono ?_; rintro e w1 ⟨rfl, A1, L1, c1, hw1, hg1⟩; have HG := Lib.hid (HG.out.trans hg1); have HW := Lib.hid hw1; have HB1 := Lib.hid (HG.out.below HB.out (by rw [HSZ.out]; exact Nat.le_refl _)); obtain ⟨k0, k1, k2, k3, k4⟩ := HCL.out _ HB1.out; have hcv := HCV.out _ (HW1.out.trans (HB1.out.mono HW1.out.size)); clear hw1 hg1))
  have HLN := Lib.hid (show (bodyL (nums name) version (textL ms)).length ≤ 15000 from by
    have := HNM.out; have := textL_len (nums name); have := textL_len (mkL version); have := textL_len ms; unfold bodyL; simp [mkL] at *; omega)
  have HEQ : Hid ((([] ++ (cnt name.size ++ nums name)) ++ (cnt M.size ++ nums M)) ++ (cnt (strOf ms).size ++ nums (strOf ms)) = bodyL (nums name) version (textL ms)) := Lib.hid (by
    rw [text_nums, text_nums, text_nums, HNS.out, HN2.out]; unfold bodyL; simp)
  rw [HEQ.out] at HW
  have HB := HB1
  go_region_held3 (fun w' => w'.cell? ⟨w.heap.size, 0, none⟩ = some (.int .i64 kind)) (simp [*]) (first
    | (go_at_call 48; refine (wbytes_any HW.out.drew (by have := HLN.out; omega)).mono ?_; rintro e w5 ⟨A5, L5, c5, rfl, ho5, hb5⟩; replace hb5 := (Below.refl _ _).drew.trans hb5; have HO5 := Lib.hid ho5; have HB5 := Lib.hid hb5; obtain ⟨k0, k1, k2, k3, k4⟩ := HCL.out _ (HB.out.trans (hb5.mono HB.out.size)); clear ho5 hb5)
    | (go_at_call 47; refine (seal_any HO5.out (by have := HLN.out; omega) hkk.out.1 hkk.out.2).mono ?_; rintro e w6 ⟨A6, L6, c6, rfl, ho6, hb6⟩; have HO6 := Lib.hid ho6; have HB6 := Lib.hid hb6; obtain ⟨k0, k1, k2, k3, k4⟩ := HCL.out _ ((HB.out.trans (HB5.out.mono HB.out.size)).trans (hb6.mono (Nat.le_trans HB.out.size HB5.out.size))); clear ho6 hb6))
  go_wp2
  go_ret2
  have h1 := HW1.out.trans ((HB.out.trans ((HB5.out.trans (HB6.out.mono HB5.out.size)).mono HB.out.size)).mono HW1.out.size)
  exact ⟨A6, L6, c6, rfl, own_to HO6.out (Nat.le_trans HW1.out.size (Nat.le_trans HB.out.size HB5.out.size)), h1⟩
/- A note with a model: Put, and what Pack keeps. -/
set_option maxHeartbeats 4000000 in
set_option maxRecDepth 100000 in
theorem record_kept {w : World} {kind : Int} (name : ByteArray) (version : Nat) (live : Int) {A : Option Addr} {L c : Nat} {ms : List Int} (hms : Rb w A ms) (hLm : L = ms.length) (hA0 : A = none → ms.length = 0) (hmb : IsB ms) (hml : ms.length ≤ 12000) (hn : name.size ≤ 1000) (hv : version < 2147483648) (hk : kind = 5) :
    Calls Tryz.prog 49 #[.agg #[.int .i64 kind, .string name, .int .i64 (version : Int), .int .i64 live, .slice A L c]] w fun e w' => ∃ A' L' c', e = .returned (.tuple #[.slice A' L' c', .bool true]) ∧ Own w' w.heap.size (.slice A' L' c') (sealL kind (bodyL (nums name) version (textL ms))) ∧ Below w.heap.size w w' := by
  have hkk : Hid (1 ≤ kind ∧ kind ≤ 255) := Lib.hid (by omega)
  have hk1 : (kind == 4) = false := by simp; omega
  have hk2 : (kind == 1) = false := by simp; omega
  have hk3 : (kind == 5) = true := by simp; omega
  have HNM := Lib.hid (nums_length name)
  have hsz4 : (strOf (mkL version)).size = 4 := strOf_size _
  have HS4 := Lib.hid hsz4
  have HNS := Lib.hid (nums_strOf (mkL_b hv))
  have HS2 := Lib.hid (strOf_size ms)
  have HN2 := Lib.hid (nums_strOf hmb)
  have HCV : Hid (∀ W, Below w.heap.size w W → (convert 82 9 (.slice A L c)).run Tryz.prog W = .ok (.string (strOf ms)) W) := Lib.hid fun W hb => by
    rw [hLm]
    exact conv_run (hms.below hb) hA0
  clear hLm hA0
  have HCL := Lib.hid (fun W hb => note_cells (w := w) (a := .int .i64 kind) (b := .string name) (c := .int .i64 (version : Int)) (d := .int .i64 live) (e := .slice A L c) W hb)
  have HW1 := Lib.hid (Below.new1 w (.cells #[.int .i64 kind, .string name, .int .i64 (version : Int), .int .i64 live, .slice A L c] 93))
  obtain ⟨W1, hW1⟩ : ∃ W1, W1 = w.alloc (.cells #[.int .i64 kind, .string name, .int .i64 (version : Int), .int .i64 live, .slice A L c] 93) := ⟨_, rfl⟩
  have HWE := Lib.hid hW1
  rw [← hW1] at HCL HW1
  have HSZ : Hid (W1.heap.size = w.heap.size + 1) := Lib.hid (by rw [hW1]; simp)
  clear hsz4 hW1
  generalize hM : strOf (mkL version) = M at HS4 HNS
  have HM := Lib.hid hM
  clear hM hk
  go_enter Tryz.func49, Tryz.ntmps49
  go_wp2_with (first
    | (go_at_call 45; refine (wnew_any _).mono ?_; rintro e w0 ⟨rfl, hw0, hb0⟩; rw [← HWE.out] at hw0 hb0; rw [HSZ.out] at hw0; have HW := Lib.hid hw0; have HB := Lib.hid hb0; have HG := Lib.hid (GrowW.refl w0 (w.heap.size + 1) (.slice none 0 0)); obtain ⟨k0, k1, k2, k3, k4⟩ := HCL.out _ hb0; clear hw0 hb0)
    | (go_at_call 123; refine (mark_any _ (by first | exact hv)).mono ?_; rintro e w2 ⟨rfl, hb2⟩; (first | rw [HM.out]); dsimp only; have HG := Lib.hid (HG.out.then hb2); have HW := Lib.hid (HW.out.below hb2); have HB1 := Lib.hid (HG.out.below HB.out (by rw [HSZ.out]; exact Nat.le_refl _)); obtain ⟨k0, k1, k2, k3, k4⟩ := HCL.out _ HB1.out; have hcv := HCV.out _ (HW1.out.trans (HB1.out.mono HW1.out.size)); clear hb2)
    | (go_at_call 122; refine (wtext_any _ HW.out (by first | omega | (rw [HS4.out]; decide) | (rw [HS2.out]; omega)) (by have := HNM.out; have := HS4.out; have := cnt_len name.size; have := cnt_len M.size; have := nums_length M; simp; try omega)).mono ?_; rintro e w1 ⟨rfl, A1, L1, c1, hw1, hg1⟩; have HG := Lib.hid (HG.out.trans hg1); have HW := Lib.hid hw1; have HB1 := Lib.hid (HG.out.below HB.out (by rw [HSZ.out]; exact Nat.le_refl _)); obtain ⟨k0, k1, k2, k3, k4⟩ := HCL.out _ HB1.out; have hcv := HCV.out _ (HW1.out.trans (HB1.out.mono HW1.out.size)); clear hw1 hg1))
  have HLN := Lib.hid (show (bodyL (nums name) version (textL ms)).length ≤ 15000 from by
    have := HNM.out; have := textL_len (nums name); have := textL_len (mkL version); have := textL_len ms; unfold bodyL; simp [mkL] at *; omega)
  have HEQ : Hid ((([] ++ (cnt name.size ++ nums name)) ++ (cnt M.size ++ nums M)) ++ (cnt (strOf ms).size ++ nums (strOf ms)) = bodyL (nums name) version (textL ms)) := Lib.hid (by
    rw [text_nums, text_nums, text_nums, HNS.out, HN2.out]; unfold bodyL; simp)
  rw [HEQ.out] at HW
  have HB := HB1
  go_region_held3 (fun w' => w'.cell? ⟨w.heap.size, 0, none⟩ = some (.int .i64 kind)) (simp [*]) (first
    | (go_at_call 48; refine (wbytes_any HW.out.drew (by have := HLN.out; omega)).mono ?_; rintro e w5 ⟨A5, L5, c5, rfl, ho5, hb5⟩; replace hb5 := (Below.refl _ _).drew.trans hb5; have HO5 := Lib.hid ho5; have HB5 := Lib.hid hb5; obtain ⟨k0, k1, k2, k3, k4⟩ := HCL.out _ (HB.out.trans (hb5.mono HB.out.size)); clear ho5 hb5)
    | (go_at_call 47; refine (seal_any HO5.out (by have := HLN.out; omega) hkk.out.1 hkk.out.2).mono ?_; rintro e w6 ⟨A6, L6, c6, rfl, ho6, hb6⟩; have HO6 := Lib.hid ho6; have HB6 := Lib.hid hb6; obtain ⟨k0, k1, k2, k3, k4⟩ := HCL.out _ ((HB.out.trans (HB5.out.mono HB.out.size)).trans (hb6.mono (Nat.le_trans HB.out.size HB5.out.size))); clear ho6 hb6))
  go_wp2
  go_ret2
  have h1 := HW1.out.trans ((HB.out.trans ((HB5.out.trans (HB6.out.mono HB5.out.size)).mono HB.out.size)).mono HW1.out.size)
  exact ⟨A6, L6, c6, rfl, own_to HO6.out (Nat.le_trans HW1.out.size (Nat.le_trans HB.out.size HB5.out.size)), h1⟩
/- A note of a name. -/
set_option maxHeartbeats 4000000 in
set_option maxRecDepth 100000 in
theorem record_name {w : World} {kind : Int} (name : ByteArray) (version : Nat) (live : Nat) (hlv : live < 2147483648) (mv : Value) (hn : name.size ≤ 1000) (hv : version < 2147483648) (hk : kind = 4) :
    Calls Tryz.prog 49 #[.agg #[.int .i64 kind, .string name, .int .i64 (version : Int), .int .i64 (live : Int), mv]] w fun e w' => ∃ A' L' c', e = .returned (.tuple #[.slice A' L' c', .bool true]) ∧ Own w' w.heap.size (.slice A' L' c') (sealL kind (bodyL (nums name) version (textL (mkL live)))) ∧ Below w.heap.size w w' := by
  have hkk : Hid (1 ≤ kind ∧ kind ≤ 255) := Lib.hid (by omega)
  have hk1 : (kind == 4) = true := by simp; omega
  have HNM := Lib.hid (nums_length name)
  have hsz4 : (strOf (mkL version)).size = 4 := strOf_size _
  have HS4 := Lib.hid hsz4
  have HNS := Lib.hid (nums_strOf (mkL_b hv))
  have hs2 : (strOf (mkL live)).size = 4 := strOf_size _
  have HS2 := Lib.hid hs2
  have HN2 := Lib.hid (nums_strOf (mkL_b hlv))
  clear hs2
  generalize hM2 : strOf (mkL live) = M2 at HS2 HN2
  have HM2 := Lib.hid hM2
  clear hM2
  have HCL := Lib.hid (fun W hb => note_cells (w := w) (a := .int .i64 kind) (b := .string name) (c := .int .i64 (version : Int)) (d := .int .i64 (live : Int)) (e := mv) W hb)
  have HW1 := Lib.hid (Below.new1 w (.cells #[.int .i64 kind, .string name, .int .i64 (version : Int), .int .i64 (live : Int), mv] 93))
  obtain ⟨W1, hW1⟩ : ∃ W1, W1 = w.alloc (.cells #[.int .i64 kind, .string name, .int .i64 (version : Int), .int .i64 (live : Int), mv] 93) := ⟨_, rfl⟩
  have HWE := Lib.hid hW1
  rw [← hW1] at HCL HW1
  have HSZ : Hid (W1.heap.size = w.heap.size + 1) := Lib.hid (by rw [hW1]; simp)
  clear hsz4 hW1
  generalize hM : strOf (mkL version) = M at HS4 HNS
  have HM := Lib.hid hM
  clear hM hk
  go_enter Tryz.func49, Tryz.ntmps49
  go_wp2_with (first
    | (go_at_call 45; refine (wnew_any _).mono ?_; rintro e w0 ⟨rfl, hw0, hb0⟩; rw [← HWE.out] at hw0 hb0; rw [HSZ.out] at hw0; have HW := Lib.hid hw0; have HB := Lib.hid hb0; have HG := Lib.hid (GrowW.refl w0 (w.heap.size + 1) (.slice none 0 0)); obtain ⟨k0, k1, k2, k3, k4⟩ := HCL.out _ hb0; clear hw0 hb0)
    | (go_at_call 123; refine (mark_any _ (by first | exact hv | exact hlv)).mono ?_; rintro e w2 ⟨rfl, hb2⟩; (first | rw [HM.out] | rw [HM2.out]); dsimp only; have HG := Lib.hid (HG.out.then hb2); have HW := Lib.hid (HW.out.below hb2); have HB1 := Lib.hid (HG.out.below HB.out (by rw [HSZ.out]; exact Nat.le_refl _)); obtain ⟨k0, k1, k2, k3, k4⟩ := HCL.out _ HB1.out; clear hb2)
    | (go_at_call 122; refine (wtext_any _ HW.out (by first | omega | (rw [HS4.out]; decide) | (rw [HS2.out]; decide)) (by have := HNM.out; have := HS4.out; have := cnt_len name.size; have := cnt_len M.size; have := nums_length M; simp; try omega)).mono ?_; rintro e w1 ⟨rfl, A1, L1, c1, hw1, hg1⟩; have HG := Lib.hid (HG.out.trans hg1); have HW := Lib.hid hw1; have HB1 := Lib.hid (HG.out.below HB.out (by rw [HSZ.out]; exact Nat.le_refl _)); obtain ⟨k0, k1, k2, k3, k4⟩ := HCL.out _ HB1.out; clear hw1 hg1))
  have HLN := Lib.hid (show (bodyL (nums name) version (textL (mkL live))).length ≤ 15000 from by
    have := HNM.out; have := textL_len (nums name); have := textL_len (mkL version); have := textL_len (mkL live); unfold bodyL; simp [mkL] at *; omega)
  have HEQ : Hid ((([] ++ (cnt name.size ++ nums name)) ++ (cnt M.size ++ nums M)) ++ (cnt M2.size ++ nums M2) = bodyL (nums name) version (textL (mkL live))) := Lib.hid (by
    rw [text_nums, text_nums, text_nums, HNS.out, HN2.out]; unfold bodyL; simp)
  rw [HEQ.out] at HW
  have HB := HB1
  go_region_held3 (fun w' => w'.cell? ⟨w.heap.size, 0, none⟩ = some (.int .i64 kind)) (simp [*]) (first
    | (go_at_call 48; refine (wbytes_any HW.out.drew (by have := HLN.out; omega)).mono ?_; rintro e w5 ⟨A5, L5, c5, rfl, ho5, hb5⟩; replace hb5 := (Below.refl _ _).drew.trans hb5; have HO5 := Lib.hid ho5; have HB5 := Lib.hid hb5; obtain ⟨k0, k1, k2, k3, k4⟩ := HCL.out _ (HB.out.trans (hb5.mono HB.out.size)); clear ho5 hb5)
    | (go_at_call 47; refine (seal_any HO5.out (by have := HLN.out; omega) hkk.out.1 hkk.out.2).mono ?_; rintro e w6 ⟨A6, L6, c6, rfl, ho6, hb6⟩; have HO6 := Lib.hid ho6; have HB6 := Lib.hid hb6; obtain ⟨k0, k1, k2, k3, k4⟩ := HCL.out _ ((HB.out.trans (HB5.out.mono HB.out.size)).trans (hb6.mono (Nat.le_trans HB.out.size HB5.out.size))); clear ho6 hb6))
  go_wp2
  go_ret2
  have h1 := HW1.out.trans ((HB.out.trans ((HB5.out.trans (HB6.out.mono HB5.out.size)).mono HB.out.size)).mono HW1.out.size)
  exact ⟨A6, L6, c6, rfl, own_to HO6.out (Nat.le_trans HW1.out.size (Nat.le_trans HB.out.size HB5.out.size)), h1⟩
end Go.Proofs.YtnbopkflhjakdaaGreatDoor.Oc
