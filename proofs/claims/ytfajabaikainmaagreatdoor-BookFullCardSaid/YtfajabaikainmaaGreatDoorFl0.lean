/-
  book's full: how many other names have versions; whichever order the loop over the map takes.
-/
import Derived.Test.YtfajabaikainmaaGreatDoorProg
import Derived.WalkKit
import Derived.WalkSpells
import Derived.Lib.Hide
import Derived.Below
import Derived.Maps.RangeRun
import Derived.WideLaws
import Derived.IntWalk
import Derived.KernelRfl
namespace Go.Proofs.YtfajabaikainmaaGreatDoor.Fl
open Go Go.RowKit

/- The number of versions that a shelf's map has. -/
def MapLen (w : World) (m : Option Nat) (n : Nat) : Prop := (m = none ∧ n = 0) ∨ ∃ r es cl, m = some r ∧ w.heap[r]? = some (.map es cl) ∧ es.size = n
theorem MapLen.below {w w' : World} {m : Option Nat} {n : Nat} (h : MapLen w m n) (hb : Below w.heap.size w w') : MapLen w' m n := by
  rcases h with h | ⟨r, es, cl, h1, h2, h3⟩
  · exact .inl h
  · exact .inr ⟨r, es, cl, h1, (hb.block r (lt_of_block h2)).trans h2, h3⟩

theorem len_run {w : World} {m : Option Nat} {n : Nat} (h : MapLen w m n) : ∀ ty, (Builtin.len_ #[155] ty #[.map m]).run Tryz.prog w = .ok (.int .i64 n) w := by
  intro ty
  rcases h with ⟨rfl, rfl⟩ | ⟨r, es, cl, rfl, hr, rfl⟩
  · simp [Builtin.len_, run_underlying Tryz.underlying155, goInt]
  · simp [Builtin.len_, run_underlying Tryz.underlying155, MapKept.run_getObj_map hr, goInt]

/- An entry counts, or not. -/
def mark (f : MapEntry → Bool) (e : MapEntry) : MapEntry := { e with val := .int .i64 (if f e = true then 1 else 0) }
theorem mark_born (f : MapEntry → Bool) (l : List MapEntry) : (l.map (mark f)).map (·.born) = l.map (·.born) := by
  rw [List.map_map]; rfl
def cnt (f : MapEntry → Bool) (l : List MapEntry) (seen : Array Nat) : Int := seenSum (l.map (mark f)) seen
theorem cnt_push (f : MapEntry → Bool) {l : List MapEntry} {seen : Array Nat} {e : MapEntry} (hn : (l.map (·.born)).Nodup) (he : e ∈ l) (hs : seen.contains e.born = false) : cnt f l (seen.push e.born) = cnt f l seen + (if f e = true then 1 else 0) := by
  have := seenSum_push seen (mark f e) hs (l.map (mark f)) (by rw [mark_born]; exact hn) (List.mem_map.2 ⟨e, he, rfl⟩)
  exact this
theorem cnt_none (f : MapEntry → Bool) (l : List MapEntry) : cnt f l #[] = 0 := seenSum_none _
def total (f : MapEntry → Bool) (l : List MapEntry) : Nat := (l.filter f).length
theorem cnt_full (f : MapEntry → Bool) : ∀ (l : List MapEntry) (seen : Array Nat), (∀ x ∈ l, seen.contains x.born = true) → cnt f l seen = total f l
  | [], _, _ => rfl
  | x :: l, seen, h => by
    have ih := cnt_full f l seen (fun y hy => h y (List.mem_cons.2 (.inr hy)))
    have hx := h x (List.mem_cons.2 (.inl rfl))
    unfold cnt at ih ⊢
    rw [List.map_cons]
    show (if seen.contains x.born then valOf (mark f x).val else 0) + seenSum (l.map (mark f)) seen = _
    rw [hx, if_pos rfl, ih]
    unfold total
    rw [List.filter_cons]
    cases hf : f x
    · simp [mark, valOf, hf]
    · simp [mark, valOf, hf]; omega
theorem cnt_le (f : MapEntry → Bool) : ∀ (l : List MapEntry) (seen : Array Nat), 0 ≤ cnt f l seen ∧ cnt f l seen ≤ l.length
  | [], _ => ⟨Int.le_refl _, Int.le_refl _⟩
  | x :: l, seen => by
    have ih := cnt_le f l seen
    unfold cnt at ih ⊢
    rw [List.map_cons]
    show 0 ≤ (if seen.contains x.born then valOf (mark f x).val else 0) + seenSum (l.map (mark f)) seen ∧ (if seen.contains x.born then valOf (mark f x).val else 0) + seenSum (l.map (mark f)) seen ≤ _
    have : 0 ≤ valOf (mark f x).val ∧ valOf (mark f x).val ≤ 1 := by
      unfold mark valOf
      cases hf : f x <;> simp
    rw [List.length_cons]
    split
    · omega
    · omega

theorem lt_of_cell {w : World} {g o : Nat} {v : Value} (h : w.cell? ⟨g, o, none⟩ = some v) : g < w.heap.size := World.block_lt_of_cell? w _ h

theorem setBlock_heap (w : World) (r k : Nat) (o : Obj) : (Go.ChangeMaps.setBlock w r o).heap[k]? = if k = r ∧ r < w.heap.size then some o else w.heap[k]? := by
  unfold Go.ChangeMaps.setBlock
  simp only [Array.getElem?_setIfInBounds]
  by_cases h : k = r
  · subst h
    by_cases hk : k < w.heap.size
    · simp [hk]
    · simp [hk]
  · rw [if_neg (fun e => h e.symm), if_neg (fun e => h e.1)]
theorem setBlock_size (w : World) (r : Nat) (o : Obj) : (Go.ChangeMaps.setBlock w r o).heap.size = w.heap.size := by
  unfold Go.ChangeMaps.setBlock; simp
theorem below_block {w wr w1 : World} (h : Below w.heap.size w wr) (h1 : w1 = wr ∨ w1 = wr.drew) (o : Obj) : Below w.heap.size w (Go.ChangeMaps.setBlock w1 w.heap.size o) := by
  have hb : Below w.heap.size w w1 := by
    rcases h1 with rfl | rfl
    · exact h
    · exact h.drew
  exact ⟨hb.os, hb.tape, hb.output, by rw [setBlock_size]; exact hb.size, fun k hk => by rw [setBlock_heap, if_neg (fun e => by omega)]; exact hb.block k hk⟩
theorem block_set {w wr w1 : World} {o' : Obj} (h : wr.heap[w.heap.size]? = some o') (h1 : w1 = wr ∨ w1 = wr.drew) (o : Obj) : (Go.ChangeMaps.setBlock w1 w.heap.size o).heap[w.heap.size]? = some o := by
  have hl : w.heap.size < w1.heap.size := by
    have := lt_of_block h
    rcases h1 with rfl | rfl
    · exact this
    · exact this
  rw [setBlock_heap, if_pos ⟨rfl, hl⟩]

def itLeft (es : Array MapEntry) (w : World) (r : Nat) : Nat := match w.heap[r]? with
  | some (.mapIter _ _ seen _) => (leftOf es seen).size
  | _ => 0
theorem itLeft_eq {es : Array MapEntry} {w : World} {r : Nat} {m : Option Nat} {s c : Nat} {seen : Array Nat} (h : w.heap[r]? = some (.mapIter m s seen c)) : itLeft es w r = (leftOf es seen).size := by
  unfold itLeft; rw [h]

/- What an entry is: a name, a shelf with so many versions. -/
def Good (w : World) (len : MapEntry → Nat) (e : MapEntry) : Prop := ∃ s g o m, e.key = .string s ∧ e.val = .pointer (some ⟨g, o, none⟩) ∧ w.cell? ⟨g, o + 2, none⟩ = some (.map m) ∧ MapLen w m (len e)
def other (name : ByteArray) (len : MapEntry → Nat) (e : MapEntry) : Bool := match e.key with
  | .string s => (!(s.toList == name.toList)) && decide (0 < len e)
  | _ => false

set_option maxHeartbeats 1000000 in
set_option maxRecDepth 100000 in
theorem full_any (gb ob bm clock : Nat) (name : ByteArray) (es : Array MapEntry) (len : MapEntry → Nat) (w : World) (hc : w.cell? ⟨gb, ob + 2, none⟩ = some (.map (some bm))) (hb : w.heap[bm]? = some (.map es clock))
    (hold : ∀ x ∈ es.toList, x.born < clock) (hn : (es.toList.map (·.born)).Nodup) (hgood : ∀ e ∈ es.toList, Good w len e) (hsz : es.size ≤ 1000000)
    (n : Nat) (R : World → Prop) (hsh : ∀ w1, Below w.heap.size w w1 → Calls Tryz.prog 52 #[.pointer (some ⟨gb, ob, none⟩), .string name] w1 fun e w2 => ∃ (a b : Int) (m : Option Nat), e = .returned (.agg #[.int .i64 a, .int .i64 b, .map m]) ∧ MapLen w2 m n ∧ R w2) :
    Calls Tryz.prog 17 #[.pointer (some ⟨gb, ob, none⟩), .string name] w fun e w' => (20 ≤ total (other name len) es.toList ∧ e = .returned (.bool true) ∧ Below w.heap.size w w') ∨ (total (other name len) es.toList < 20 ∧ e = .returned (.bool (decide (40 ≤ n))) ∧ R w') := by
  have hbl := lt_of_block hb
  have HOLD := Lib.hid hold
  have HN := Lib.hid hn
  have HG := Lib.hid hgood
  have HSH := Lib.hid hsh
  have hrg := run_range_map (P := Tryz.prog) w 79 _ _ bm es clock Tryz.underlying79 hb
  clear hold hn hgood hsh
  go_enter Tryz.func17, Tryz.ntmps17
  go_wp2
  go_loopw [5] (fun v wr => ∃ (seen : Array Nat) (c : Nat), v = .int .i64 (cnt (other name len) es.toList seen) ∧ wr.heap[w.heap.size]? = some (.mapIter (some bm) clock seen c) ∧ clock ≤ c ∧ Below w.heap.size w wr) (fun _ wr => itLeft es wr w.heap.size)
  case atStart => exact ⟨#[], clock, by rw [cnt_none], heap_alloc_new w _, Nat.le_refl _, (Below.refl _ _).alloc (Nat.le_refl _) _⟩
  case round =>
    obtain ⟨seen, c, rfl, hit, hcl, hbel⟩ := hrel
    have hb2 := (hbel.block bm hbl).trans hb
    rcases run_next_at (P := Tryz.prog) wr 0 w.heap.size bm clock c seen es clock hit hb2 HOLD.out hcl with ⟨h0, hx⟩ | ⟨e, he, w1, hw1, hx⟩
    · have HT := Lib.hid (show cnt (other name len) es.toList seen = ((total (other name len) es.toList : Nat) : Int) from cnt_full _ _ _ (all_seen es seen h0))
      have HB := Lib.hid hbel
      rw [HT.out]
      clear h0 hbel
      by_cases h20 : 20 ≤ total (other name len) es.toList
      · have d20 : Hid (decide (20 ≤ total (other name len) es.toList) = true) := decide_eq_true h20
        go_wp2
        go_ret
        exact .inl ⟨rfl, HB.out⟩
      · have d20 : Hid (decide (20 ≤ total (other name len) es.toList) = false) := decide_eq_false h20
        have d20i : decide ((20 : Int) ≤ ((total (other name len) es.toList : Nat) : Int)) = false := decide_eq_false (by omega)
        have hfield : ∀ (W : World) (a b : Int) (m : Option Nat), (Instr.field 157 (.agg #[.int .i64 a, .int .i64 b, .map m]) 2).run Tryz.prog W = .ok (.map m) W := fun _ _ _ _ => by kernel_rfl
        go_wp2_with (go_at_call 52; refine (HSH.out _ HB.out).mono ?_; rintro e w2 ⟨a, b, m, rfl, hml, hb3⟩; have hlen := len_run hml; have HML := Lib.hid hml)
        go_ret
        refine .inr ⟨by omega, ?_, hb3⟩
        have e40 : decide ((40 : Int) ≤ (n : Int)) = decide (40 ≤ n) := by
          by_cases h : 40 ≤ n
          · rw [decide_eq_true h, decide_eq_true (by omega)]
          · rw [decide_eq_false h, decide_eq_false (by omega)]
        show Ending.returned (.bool (decide ((40 : Int) ≤ (n : Int)))) = _
        rw [e40]
    · have HE := Lib.hid he
      obtain ⟨s, g, o, m, ek, ev, ec, em⟩ := HG.out e (mem_left he).1
      have hg1 := lt_of_cell ec
      have hb3 : Below w.heap.size w (Go.ChangeMaps.setBlock w1 w.heap.size (.mapIter (some bm) clock (seen.push e.born) clock)) := below_block hbel hw1 _
      have hit3 : (Go.ChangeMaps.setBlock w1 w.heap.size (.mapIter (some bm) clock (seen.push e.born) clock)).heap[w.heap.size]? = some (.mapIter (some bm) clock (seen.push e.born) clock) := block_set hit hw1 _
      have hent := run_entry_at (P := Tryz.prog) _ w.heap.size bm clock seen es clock e hit3 ((hb3.block bm hbl).trans hb) (mem_left he).1 HN.out
      have hcl3 := (hb3.cell (p := ⟨g, o + 2, none⟩) hg1).trans ec
      have hlen3 := len_run (em.below hb3)
      have hcnt := cnt_push (other name len) HN.out (mem_left he).1 (mem_left he).2
      have hoth : other name len e = ((!(s.toList == name.toList)) && decide (0 < len e)) := by unfold other; rw [ek]
      rw [hoth] at hcnt
      have hcb := cnt_le (other name len) es.toList seen
      rw [Array.length_toList] at hcb
      obtain ⟨hcb1, hcb2⟩ := hcb
      have hls := left_shrinks es seen e he
      have HB3 := Lib.hid hb3
      have HIT3 := Lib.hid hit3
      have HCNT := Lib.hid hcnt
      have HLS := Lib.hid hls
      have HIT := Lib.hid hit
      rw [ek, ev] at hx hent
      clear he hb3 hit3 hw1 em ec ek ev hcnt hls hoth hit hb2
      generalize (Go.ChangeMaps.setBlock w1 w.heap.size (.mapIter (some bm) clock (seen.push e.born) clock)) = w3 at *
      generalize cnt (other name len) es.toList seen = q at hcb1 hcb2 HCNT ⊢
      by_cases hs : s.toList = name.toList
      · have HS := Lib.hid (show (!(s.toList == name.toList)) = false by simp [hs])
        have hs3 : (!(s.toList == name.toList)) = false := HS.out
        go_wp2
        go_roundw
        case rel => exact ⟨seen.push e.born, clock, by rw [HCNT.out, HS.out]; simp, HIT3.out, Nat.le_refl _, HB3.out⟩
        case measure => rw [itLeft_eq HIT3.out, itLeft_eq HIT.out]; exact HLS.out
      · have HS := Lib.hid (show (!(s.toList == name.toList)) = true by simp [hs])
        have hs3 : (!(s.toList == name.toList)) = true := HS.out
        by_cases hl : 0 < len e
        · have HL := Lib.hid hl
          have hl' : (0 : Int) < (len e : Int) := by omega
          go_wp2
          go_roundw
          case rel => exact ⟨seen.push e.born, clock, by rw [HCNT.out, HS.out, decide_eq_true HL.out]; simp, HIT3.out, Nat.le_refl _, HB3.out⟩
          case measure => rw [itLeft_eq HIT3.out, itLeft_eq HIT.out]; exact HLS.out
        · have HL := Lib.hid hl
          have hl2 : decide (0 < len e) = false := decide_eq_false hl
          have hl3 : len e = 0 := by omega
          go_wp2
          go_roundw
          case rel => exact ⟨seen.push e.born, clock, by rw [HCNT.out, HS.out, decide_eq_false HL.out]; simp, HIT3.out, Nat.le_refl _, HB3.out⟩
          case measure => rw [itLeft_eq HIT3.out, itLeft_eq HIT.out]; exact HLS.out
end Go.Proofs.YtfajabaikainmaaGreatDoor.Fl
