/-
  Rows of cells in memory: what stays, and what a row holds.
-/
import Derived.Test.YtdlggegdlknkeaaGreatDoorGp3
namespace Go.Proofs.YtdlggegdlknkeaaGreatDoor.Gp
open Go Go.RowKit Ut

/- Blocks of a type stay. -/
def KeepT (t : TypeId) (w w' : World) : Prop := ∀ (g : Nat) cs fr, w.heap[g]? = some (.cells cs t fr) → w'.heap[g]? = w.heap[g]?
section
variable {t : TypeId} {w w' w'' : World}
theorem KeepT.refl : KeepT t w w := fun _ _ _ _ => rfl
theorem KeepT.trans (h : KeepT t w w') (h' : KeepT t w' w'') : KeepT t w w'' := fun g cs fr hg => (h' g cs fr ((h g cs fr hg).trans hg)).trans (h g cs fr hg)
theorem KeepT.of_below (h : Below w.heap.size w w') : KeepT t w w' := fun g _ _ hg => h.block g (lt_of_block hg)
theorem KeepT.setCell {g i : Nat} {t' : TypeId} {cs : Array Value} {fr : Nat × Nat} (h : w.heap[g]? = some (.cells cs t' fr)) (ht : t' ≠ t) (u : Value) : KeepT t w (w.setCell ⟨g, i, none⟩ u) := fun g' cs' fr' hg => by
  refine Below.heap_setCell w _ u g' (fun e => ht ?_)
  subst e
  rw [h] at hg
  injection hg with hg
  injection hg with _ e _
theorem KeepT.grown {row : Option Nat} {t' : TypeId} (hg : w.grownBy w' row) (hr : ∀ g, row = some g → g < w.heap.size → ∃ cs fr, w.heap[g]? = some (.cells cs t' fr)) (ht : t' ≠ t) : KeepT t w w' := fun g cs fr h => by
  refine hg.block g (lt_of_block h) fun e => ?_
  obtain ⟨cs', fr', hc⟩ := hr g e.symm (lt_of_block h)
  rw [h] at hc
  injection hc with hc
  injection hc with _ e' _
  exact ht e'.symm
end
theorem own_keepT {w w' : World} {base n size : Nat} {e : TypeId} {v : Value} {xs : List Value} (h : w.ownsRow base e size v n xs) (hk : KeepT e w w') : w'.ownsRow base e size v n xs := by
  refine ⟨h.1, ?_⟩
  rcases h.2 with h2 | ⟨g, cap, cur, rfl, h3, h4, h5⟩
  · exact .inl h2
  · exact .inr ⟨g, cap, cur, rfl, h3, (hk g _ _ h4).trans h4, h5⟩
/- A made cell's five cells. -/
def RCell5 (w : World) (r : RC) (l : List Value) : Prop := ∃ sA sD, l = [.bool r.lk, .bool r.t.neg, sA, sD, .int .i64 r.wd] ∧ FracAt w r.t (.agg ⟨[.bool r.t.neg, sA, sD]⟩)
theorem RCell5.keep {w w' : World} {r : RC} {l : List Value} (h : RCell5 w r l) (hd : KeepT 285 w w') : RCell5 w' r l := by
  obtain ⟨sA, sD, h1, h2⟩ := h
  exact ⟨sA, sD, h1, h2.keep hd⟩
def RRow (w : World) (v : Value) (rs : List RC) : Prop := ∃ (base : Nat) (ps : List (RC × List Value)), ps.map (·.1) = rs ∧ w.ownsRow base 58 5 v ps.length (ps.map (·.2)).flatten ∧ ∀ p ∈ ps, RCell5 w p.1 p.2
theorem RRow.keep {w w' : World} {v : Value} {rs : List RC} (h : RRow w v rs) (hd : KeepT 285 w w') (hc : KeepT 58 w w') : RRow w' v rs := by
  obtain ⟨base, ps, h1, h2, h3⟩ := h
  exact ⟨base, ps, h1, own_keepT h2 hc, fun p hp => (h3 p hp).keep hd⟩
def RRows (w : World) (base : Nat) (v : Value) (qs : List (List RC × Value)) : Prop := w.ownsRow base 49 1 v qs.length (qs.map (·.2)) ∧ ∀ q ∈ qs, RRow w q.2 q.1
theorem RRows.keep {w w' : World} {base : Nat} {v : Value} {qs : List (List RC × Value)} (h : RRows w base v qs) (hd : KeepT 285 w w') (hc : KeepT 58 w w') (hr : KeepT 49 w w') : RRows w' base v qs :=
  ⟨own_keepT h.1 hr, fun q hq => (h.2 q hq).keep hd hc⟩
/- A row fits its columns. -/
def rowFits (ks : List Nat) (rs : List RC) : Prop := rs.length = ks.length ∧ ∀ (i : Nat) (h : i < rs.length) (h' : i < ks.length), rcOk ks[i] rs[i]
def rfit (ks : List Nat) (rs : List RC) : Prop := ∀ (i : Nat) (h : i < rs.length) (h' : i < ks.length), rcOk ks[i] rs[i]
theorem rfit_snoc {ks : List Nat} {rs : List RC} {r : RC} (h : rfit ks rs) {k : Nat} (hk : rs.length = k) (hl : k < ks.length) (hr : rcOk ks[k] r) : rfit ks (rs ++ [r]) := fun i hi hi' => by
  by_cases hl : i < rs.length
  · rw [List.getElem_append_left hl]; exact h i hl hi'
  · have e : i = rs.length := by simp at hi; omega
    subst e
    rw [List.getElem_append_right (Nat.le_refl _)]
    simp only [Nat.sub_self, List.getElem_cons_zero]
    subst hk; exact hr
theorem infoRC : (Tryz.prog.info? 58).map (fun i => (i.zero, i.size, i.bytes)) = some (some (.agg zc), 5, 72) := by kernel_rfl
theorem infoRRow : (Tryz.prog.info? 49).map (fun i => (i.zero, i.size, i.bytes)) = some (some (.slice none 0 0), 1, 24) := by kernel_rfl
theorem flat5_snoc (ps : List (RC × List Value)) (p : RC × List Value) : ((ps ++ [p]).map (·.2)).flatten = (ps.map (·.2)).flatten ++ p.2 := by simp
theorem set2_blk {w : World} {g : Nat} {T : TypeId} {a b a' b' : Value} (h : Blk w g T #[a', b']) : Blk ((w.setCell ⟨g, 0, none⟩ a).setCell ⟨g, 1, none⟩ b) g T #[a, b] := (h.set_ 0 a).set_ 1 b
end Go.Proofs.YtdlggegdlknkeaaGreatDoor.Gp
