/-
  What comes in: acts, bytes.
-/
import Derived.Test.YthfmallebojjpaaGreatDoorDk10
import Derived.Deep.Slices
import Derived.Deep.Fields
import Derived.ChangeSlices
namespace Go.Proofs.YthfmallebojjpaaGreatDoor.Dk
open Go Go.RowKit Go.ChangeShapes Go.WideShapes

section
variable {H : Type} {enc : TypeId × Value → H} {w : World}
theorem act_cells {fuel : Nat} {cs : List Value} {x : DataW H × List MemPlace} (h : DataW.trod enc Tryz.prog w 0 (fun _ => true) true fuel 30 cs = some x) :
    ∀ j, j < 4 → ∃ a : Int, cs[j]? = some (.int .i64 a) := by
  obtain ⟨xs, n, _, _, _, hlen, hg⟩ := DataW.trod_struct Tryz.underlying30 h
  intro j hj
  have one : ∀ f : Field, f.type = 3 → f.offset = j → DataW.trod enc Tryz.prog w 0 (fun _ => true) true n f.type ((cs.drop f.offset).take (Tryz.prog.cellsOf f.type)) = xs[j]? → (∃ y, xs[j]? = some y) → ∃ a : Int, cs[j]? = some (.int .i64 a) := by
    intro f e1 e2 hf ⟨y, hy⟩
    rw [hy, e1, e2] at hf
    obtain ⟨a, hc, _⟩ := DataW.trod_int Tryz.underlying3 hf
    refine ⟨a, ?_⟩
    have h0 := congrArg (·[0]?) hc
    simp only [List.getElem?_cons_zero] at h0
    rw [List.getElem?_take_of_lt (by rw [show Tryz.prog.cellsOf 3 = 1 by kernel_rfl]; omega), List.getElem?_drop] at h0
    simpa using h0
  have hl : xs.length = 4 := hlen
  have some_ : ∃ y, xs[j]? = some y := ⟨xs[j]'(by omega), List.getElem?_eq_getElem (by omega)⟩
  match j, hj with
  | 0, _ => exact one _ rfl rfl (hg 0 _ rfl) some_
  | 1, _ => exact one _ rfl rfl (hg 1 _ rfl) some_
  | 2, _ => exact one _ rfl rfl (hg 2 _ rfl) some_
  | 3, _ => exact one _ rfl rfl (hg 3 _ rfl) some_
theorem acts_open {A : Option Addr} {n c : Nat} {d : DataW H} {p : List MemPlace} (h : DataW.Trod enc Tryz.prog w 0 (fun _ => true) true 22 (.slice A n c) d p) :
    n ≤ c ∧ n ≤ 9223372036854775807 ∧ (A = none → n = 0) ∧ Acts w A n := by
  obtain ⟨fuel, hf⟩ := h
  rcases Deep.open_slice Tryz.underlying22 hf with ⟨hcs, _⟩ | ⟨a, len, cap, m, fu, D, Pl, hcs, hb, hl, hm, hmm, hx, hi⟩
  · simp [Value.cells] at hcs
    obtain ⟨rfl, rfl, rfl⟩ := hcs
    exact ⟨Nat.le_refl _, by omega, fun _ => rfl, fun h => by omega⟩
  · simp [Value.cells] at hcs
    obtain ⟨rfl, rfl, rfl⟩ := hcs
    simp only [if_true] at hmm
    subst hmm
    have hC : Tryz.prog.cellsOf 30 = 4 := by kernel_rfl
    rw [hC] at hi
    have cell : ∀ k, k < n → ∀ j, j < 4 → ∃ x : Int, w.cell? (a.add (k * 4 + j)) = some (.int .i64 x) := by
      intro k hk j hj
      obtain ⟨cs', hc, ht⟩ := hi k (by omega)
      obtain ⟨_, _, hat⟩ := World.cells?_some hc
      obtain ⟨x, hx⟩ := act_cells ht j hj
      refine ⟨x, ?_⟩
      have h1 := (hat j hj).trans hx
      have e : (a.add (k * 4)).add j = a.add (k * 4 + j) := by
        unfold Addr.add
        by_cases h1 : k * 4 = 0 <;> by_cases h2 : j = 0 <;> simp [h1, h2, Nat.add_assoc]
      rwa [e] at h1
    refine ⟨hl, by unfold maxLen at hm; omega, fun e => (by cases e), fun hn => ⟨a, rfl, ?_, fun k hk => ?_⟩⟩
    · obtain ⟨x, hx⟩ := cell 0 hn 0 (by omega)
      have := World.block_lt_of_cell? w _ hx
      rwa [block_of_add] at this
    · obtain ⟨x0, h0⟩ := cell k hk 0 (by omega)
      obtain ⟨x1, h1⟩ := cell k hk 1 (by omega)
      obtain ⟨x2, h2⟩ := cell k hk 2 (by omega)
      obtain ⟨x3, h3⟩ := cell k hk 3 (by omega)
      exact ⟨x0, x1, x2, x3, h0, h1, h2, h3⟩
theorem bytes_open {A : Option Addr} {n c : Nat} {d : DataW H} {p : List MemPlace} (h : DataW.Trod enc Tryz.prog w 0 (fun _ => true) true 23 (.slice A n c) d p) :
    ∃ js : List Int, js.length = n ∧ n ≤ c ∧ n ≤ 9223372036854775807 ∧ (A = none → n = 0 ∧ c = 0) ∧ Rb w A js := by
  obtain ⟨fuel, hf⟩ := h
  rcases open_ints Tryz.underlying23 Tryz.underlying5 (by kernel_rfl) hf with ⟨hcs, _⟩ | ⟨x, l, cp, zs, hcs, _, hl, hm, hz, _, hcell, hwz⟩
  · simp [Value.cells] at hcs
    obtain ⟨rfl, rfl, rfl⟩ := hcs
    exact ⟨[], rfl, Nat.le_refl _, by omega, fun _ => ⟨rfl, rfl⟩, Rb.nil _ _⟩
  · simp [Value.cells] at hcs
    obtain ⟨rfl, rfl, rfl⟩ := hcs
    have hz' : zs.length = c := by simpa using hz
    have hlen : (zs.take n).length = n := by simp; omega
    refine ⟨zs.take n, hlen, hl, by unfold maxLen at hm; omega, fun e => (by cases e), fun hn => ?_⟩
    have at_ : ∀ j u, ((zs.take n).map (Value.int .u8))[j]? = some u → w.cell? (x.add j) = some u := by
      intro j u hu
      rw [List.getElem?_map] at hu
      by_cases hj : j < n
      · rw [List.getElem?_take_of_lt hj] at hu
        rw [hcell j (by omega)]
        rw [show zs[j]? = some (zs.getD j 0) by simp [show j < zs.length by omega]] at hu
        simpa using hu
      · rw [List.getElem?_eq_none (by omega)] at hu
        simp at hu
    refine ⟨x, rfl, ?_, at_⟩
    have h0 := hcell 0 (by omega)
    have := World.block_lt_of_cell? w _ h0
    rwa [block_of_add] at this
end
end Go.Proofs.YthfmallebojjpaaGreatDoor.Dk
