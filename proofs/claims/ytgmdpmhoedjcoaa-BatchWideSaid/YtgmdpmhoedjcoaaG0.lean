/-
  The reference's groups: words for its memory, and what a round does to it.
-/
import Derived.Test.YtgmdpmhoedjcoaaT
import Derived.Maps.AppendAt
namespace Go.Proofs.Ytgmdpmhoedjcoaa
open Go.RowKit

theorem Try.infoRefGroup : (Try.prog.info? 44).map (fun i => (i.zero, i.size, i.bytes)) = some (some (.agg #[.slice none 0 0, .int .i64 0]), 2, 32) := by kernel_rfl

def seqV (fr n : Nat) : List Value := (List.range n).map fun i => Value.int .i64 ((fr + i : Nat) : Int)
theorem seqV_succ (fr n : Nat) : seqV fr (n + 1) = seqV fr n ++ [.int .i64 ((fr + n : Nat) : Int)] := by simp [seqV, List.range_succ]
theorem seqV_length (fr n : Nat) : (seqV fr n).length = n := by simp [seqV]
abbrev Item := Pl.Grp × Value
def GOwn (w : World) (N : Nat) (l : List Item) : Prop := ∀ p ∈ l, w.ownsRow N 3 1 p.2 (p.1.to - p.1.fr) (seqV p.1.fr (p.1.to - p.1.fr))
def flatP : List Item → List Value
  | [] => []
  | p :: l => p.2 :: .int .i64 p.1.time :: flatP l
theorem flatP_length : ∀ l, (flatP l).length = l.length * 2
  | [] => rfl
  | _ :: l => by simp [flatP, flatP_length l]; omega
theorem flatP_append (k : List Item) : ∀ l, flatP (l ++ k) = flatP l ++ flatP k
  | [] => rfl
  | _ :: l => by simp [flatP, flatP_append k l]

/- What the loop has made so far: the last group is open. -/
structure GMid (w wr : World) (ts : List Int) (M : Nat) (wait : Int) (i : Nat) (v : Value) (l : List Item) (fr cnt : Nat) (a : Value) (tm : Int) : Prop where
  bel : Below w.heap.size w wr
  own : wr.ownsRow w.heap.size 44 2 v (l.length + 1) (flatP l ++ [a, .int .i64 tm])
  rows : GOwn wr w.heap.size l
  last : wr.ownsRow w.heap.size 3 1 a cnt (seqV fr cnt)
  far : ∀ p ∈ l, p.2.ownBlock = none ∨ p.2.ownBlock ≠ a.ownBlock
  sum : fr + cnt = i
  form : Pl.form ts M wait 0 = l.map (·.1) ++ Pl.form ts M wait fr
  lt : fr < ts.length
  le : i ≤ Pl.endOf ts M wait fr
  few : l.length ≤ fr

theorem own_types_ne {w : World} {b b' : Nat} {e e' : TypeId} {s s' n n' : Nat} {v v' : Value} {xs xs' : List Value} (h : w.ownsRow b e s v n xs) (h' : w.ownsRow b' e' s' v' n' xs') (hne : e ≠ e') : v.ownBlock = none ∨ v.ownBlock ≠ v'.ownBlock := by
  rcases h'.2 with ⟨rfl, _⟩ | ⟨g', cap, cur, rfl, _, hh, _⟩
  · rcases h.2 with ⟨rfl, _⟩ | ⟨g, cap, cur, rfl, _⟩
    · exact .inl rfl
    · exact .inr (by simp [Value.ownBlock])
  · exact .inr (own_blk_ne h (g := g') (t := e') (cs := cur) hh hne)

section
variable {w wr w0 w1 : World} {ts : List Int} {M : Nat} {wait : Int} {i : Nat} {v a a' : Value} {l : List Item} {fr cnt : Nat} {tm tm' : Int} {o : Obj}

theorem GOwn.kept {N : Nat} (h : GOwn wr N l) {row : Option Nat} (hg : wr.grownBy w1 row) (hne : ∀ p ∈ l, p.2.ownBlock = none ∨ p.2.ownBlock ≠ row) : GOwn w1 N l := fun p hp => (h p hp).kept hg (hne p hp)
theorem GMid.drewN (h : GMid w wr ts M wait i v l fr cnt a tm) (q : Nat) : GMid w (wr.drewN q) ts M wait i v l fr cnt a tm :=
  ⟨⟨h.bel.os, h.bel.tape, h.bel.output, h.bel.size, h.bel.block⟩, h.own, h.rows, h.last, h.far, h.sum, h.form, h.lt, h.le, h.few⟩
/- One more request is appended to the open group's row, and the row is stored back. -/
theorem GMid.push (h : GMid w wr ts M wait i v l fr cnt a tm) (hle : i < Pl.endOf ts M wait fr)
    (hown : w1.ownsRow w.heap.size 3 1 a' (cnt + 1) (seqV fr cnt ++ [.int .i64 (i : Int)])) (hg : (wr.alloc o).grownBy w1 a.ownBlock) (hat : a'.ownBlock = a.ownBlock ∨ a'.ownBlock = some (wr.alloc o).heap.size)
    {g cap : Nat} (hv : v = .slice (some ⟨g, 0, none⟩) (l.length + 1) cap) :
    GMid w (w1.setCell ⟨g, l.length * 2, none⟩ a') ts M wait (i + 1) v l fr (cnt + 1) a' tm := by
  have hsz := h.bel.size
  have hno : v.ownBlock ≠ a.ownBlock ∨ v.ownBlock = none := by
    rcases own_types_ne h.own h.last (by decide) with e | e
    · exact .inr e
    · exact .inl e
  have hne : v.ownBlock ≠ none := by rw [hv]; simp [Value.ownBlock]
  have hva : v.ownBlock ≠ a.ownBlock := by rcases hno with e | e <;> first | exact e | exact absurd e hne
  have hgb := own_base h.own (k := g) (by rw [hv]; rfl)
  have hgs := hg.size
  simp at hgs
  have own1 : w1.ownsRow w.heap.size 44 2 v (l.length + 1) (flatP l ++ [a, .int .i64 tm]) := (h.own.alloc o).kept hg (.inr hva)
  have farS : ∀ p ∈ l, p.2.ownBlock ≠ some g := fun p hp => by
    rcases own_types_ne (h.rows p hp) h.own (by decide) with e | e
    · rw [e]; simp
    · rw [hv] at e; simpa [Value.ownBlock] using e
  have hset : (flatP l ++ [a, .int .i64 tm]).set (l.length * 2) a' = flatP l ++ [a', .int .i64 tm] := by
    rw [List.set_append_right _ _ (by rw [flatP_length]; omega), flatP_length]; simp
  have bel1 : Below w.heap.size w w1 := (h.bel.alloc hsz o).grown hg (by simp; omega) (fun k hk => (own_base h.last hk).1)
  refine ⟨bel1.setCell hgb.1 _, ?_, ?_, ?_, ?_, ?_, h.form, h.lt, hle, h.few⟩
  · have := (hv ▸ own1).stored (l.length * 2) a'
    rw [hset] at this
    rw [hv]; exact this.1
  · intro p hp
    exact ownsRow_setCell_other (((h.rows p hp).alloc o).kept hg (h.far p hp)) (farS p hp) _
  · rw [seqV_succ, h.sum]
    refine ownsRow_setCell_other hown ?_ _
    show a'.ownBlock ≠ some g
    rcases hat with e | e
    · rw [e]; intro e2; rw [hv] at hva; exact hva (by rw [e2]; rfl)
    · rw [e]; simp; omega
  · intro p hp
    rcases hat with e | e
    · rw [e]; exact h.far p hp
    · right
      rw [e]
      intro e2
      have := (own_base (h.rows p hp) e2).2
      have h2 : (wr.alloc o).heap.size = wr.heap.size + 1 := by simp
      omega
  · have := h.sum; omega
/- The time of the open group is set anew. -/
theorem GMid.time (h : GMid w wr ts M wait i v l fr cnt a tm) {g cap : Nat} (hv : v = .slice (some ⟨g, 0, none⟩) (l.length + 1) cap) : GMid w (wr.setCell ⟨g, l.length * 2 + 1, none⟩ (.int .i64 tm')) ts M wait i v l fr cnt a tm' := by
  have hgb := own_base h.own (k := g) (by rw [hv]; rfl)
  have farS : ∀ p ∈ l, p.2.ownBlock ≠ some g := fun p hp => by
    rcases own_types_ne (h.rows p hp) h.own (by decide) with e | e
    · rw [e]; simp
    · rw [hv] at e; simpa [Value.ownBlock] using e
  have hset : (flatP l ++ [a, .int .i64 tm]).set (l.length * 2 + 1) (.int .i64 tm') = flatP l ++ [a, .int .i64 tm'] := by
    rw [List.set_append_right _ _ (by rw [flatP_length]; omega), flatP_length]; simp
  refine ⟨h.bel.setCell hgb.1 _, ?_, ?_, ?_, h.far, h.sum, h.form, h.lt, h.le, h.few⟩
  · have := (hv ▸ h.own).stored (l.length * 2 + 1) (.int .i64 tm')
    rw [hset] at this
    rw [hv]; exact this.1
  · intro p hp
    exact ownsRow_setCell_other (h.rows p hp) (farS p hp) _
  · refine ownsRow_setCell_other h.last ?_ _
    show a.ownBlock ≠ some g
    rcases own_types_ne h.own h.last (by decide) with e | e
    · rw [hv] at e; simp [Value.ownBlock] at e
    · rw [hv] at e; intro e2; exact e (by rw [e2]; rfl)
/- A new group is begun: after all others (none, or those that are closed). -/
theorem GMid.start (hbel : Below w.heap.size w wr) (v' : Value) (l : List Item) (hown : wr.ownsRow w.heap.size 44 2 v l.length (flatP l)) (hrows : GOwn wr w.heap.size l)
    (hform : Pl.form ts M wait 0 = l.map (·.1) ++ Pl.form ts M wait i) (hi : i < ts.length) (hfew : l.length ≤ i)
    (hown' : w1.ownsRow w.heap.size 44 2 v' (l.length + 1) (flatP l ++ [.slice none 0 0, .int .i64 tm])) (hg : (wr.alloc o).grownBy w1 v.ownBlock) :
    GMid w w1 ts M wait i v' l i 0 (.slice none 0 0) tm := by
  have hsz := hbel.size
  have hl := Pl.endOf_le ts M wait i hi
  refine ⟨(hbel.alloc hsz o).grown hg (by simp; omega) (fun k hk => (own_base hown hk).1), hown', ?_, World.ownsRow_nil _ _ _ _, ?_, rfl, hform, hi, by omega, hfew⟩
  · intro p hp
    exact ((hrows p hp).alloc o).kept hg (own_types_ne (hrows p hp) hown (by decide))
  · intro p hp
    rcases hb : p.2.ownBlock with _ | b
    · exact .inl rfl
    · exact .inr (by simp [Value.ownBlock])
/- A group that is closed joins the others. -/
theorem GMid.all (h : GMid w wr ts M wait i v l fr cnt a tm) (he : i = Pl.endOf ts M wait fr) (ht : tm = Pl.timeOf ts M wait fr i) (hc : 0 < cnt) :
    ∃ k : List Item, wr.ownsRow w.heap.size 44 2 v k.length (flatP k) ∧ GOwn wr w.heap.size k ∧ Pl.form ts M wait 0 = k.map (·.1) ++ Pl.form ts M wait i ∧ k.length = l.length + 1 := by
  have hs := h.sum
  refine ⟨l ++ [(⟨fr, i, tm⟩, a)], ?_, ?_, ?_, by simp⟩
  · rw [flatP_append]
    simpa [flatP] using h.own
  · intro p hp
    rw [List.mem_append] at hp
    rcases hp with hp | hp
    · exact h.rows p hp
    · simp at hp
      subst hp
      have : i - fr = cnt := by omega
      simp only [this]
      exact h.last
  · rw [h.form, Pl.form_cons h.lt, List.map_append]
    have : Pl.grp ts M wait fr = ⟨fr, i, tm⟩ := by unfold Pl.grp; rw [← he, ht]
    rw [this, ← he]
    simp
end
end Go.Proofs.Ytgmdpmhoedjcoaa
