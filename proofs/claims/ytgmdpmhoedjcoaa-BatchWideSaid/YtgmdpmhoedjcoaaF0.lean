/-
  Small facts for the two statements that hold Form against the reference.
-/
import Derived.Test.YtgmdpmhoedjcoaaS
namespace Go.Proofs.Ytgmdpmhoedjcoaa
open Go.RowKit

theorem code_zero {ts : List Int} {most wait : Int} (h : Pl.code ts most wait = 0) : 1 ≤ most ∧ most ≤ 300 ∧ 0 ≤ wait ∧ wait ≤ 1073741824 ∧ Pl.okUpto ts ts.length = true ∧ ts.length ≤ 65536 := by
  unfold Pl.code at h
  split at h
  · omega
  · rename_i h1
    split at h
    · omega
    · rename_i h2
      split at h
      · omega
      · rename_i h3
        have h1 : Pl.okRules most wait = true := by simpa using h1
        have h2 : Pl.okUpto ts ts.length = true := by simpa using h2
        simp [Pl.okRules, and_assoc] at h1
        exact ⟨h1.1, h1.2.1, h1.2.2.1, h1.2.2.2, h2, by omega⟩
theorem form_fine (ts : List Int) (M : Nat) (wait : Int) : ∀ (d fr : Nat), ts.length - fr = d → ∀ g ∈ Pl.form ts M wait fr, g.fr ≤ g.to ∧ g.to ≤ ts.length := by
  intro d
  induction d using Nat.strongRecOn with
  | _ d ih =>
    intro fr hd g hg
    by_cases h : fr < ts.length
    · have hl := Pl.endOf_le ts M wait fr h
      rw [Pl.form_cons h] at hg
      rcases List.mem_cons.1 hg with rfl | hg
      · exact ⟨by show fr ≤ Pl.endOf ts M wait fr; omega, hl.2⟩
      · exact ih (ts.length - Pl.endOf ts M wait fr) (by omega) _ rfl g hg
    · rw [Pl.form_nil (by omega)] at hg
      simp at hg
theorem own_below {w w' : World} {base : Nat} {e : TypeId} {size n : Nat} {v : Value} {xs : List Value} (h : w.ownsRow base e size v n xs) (hb : Below w.heap.size w w') : w'.ownsRow base e size v n xs := by
  refine ⟨h.1, ?_⟩
  rcases h.2 with h0 | ⟨g, cap, cur, h1, h2, h3, h4⟩
  · exact .inl h0
  · exact .inr ⟨g, cap, cur, h1, h2, (hb.block g (lt_of_block h3)).trans h3, h4⟩
theorem below_drewN {B : Nat} {a w : World} (h : Below B a w) (n : Nat) : Below B a (w.drewN n) := ⟨h.os, h.tape, h.output, h.size, h.block⟩
theorem own_shape {w : World} {base : Nat} {e : TypeId} {size n : Nat} {v : Value} {xs : List Value} (h : w.ownsRow base e size v n xs) : ∃ A c, v = .slice A n c := by
  rcases h.2 with ⟨h, h'⟩ | ⟨g, cap, cur, h, _⟩
  · exact ⟨none, 0, by rw [h, h']⟩
  · exact ⟨_, _, h⟩
end Go.Proofs.Ytgmdpmhoedjcoaa
