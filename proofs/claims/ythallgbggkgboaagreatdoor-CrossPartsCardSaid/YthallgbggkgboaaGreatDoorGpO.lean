/-
  The law's arguments, opened.
-/
import Derived.Test.YthallgbggkgboaaGreatDoorQxj
import Derived.Lib.SmallJoins
import Derived.ChangeSlices
import Derived.OpenShut
namespace Go.Proofs.YthallgbggkgboaaGreatDoor.Gp
open Go Go.RowKit Ut Go.Joins Go.ChangeShapes Go.WideShapes Go.ChangeAt Go.ChangeMaps

section
variable {H : Type} {enc : TypeId × Value → H} {w : World}
def IsInts (w : World) (v : Value) : Prop := ∃ (A : Option Addr) (c : Nat) (xs : List Int), v = .slice A xs.length c ∧ xs.length ≤ 9223372036854775807 ∧ IntsIn w w.heap.size A xs
theorem ints_of {fuel : Nat} {v : Value} {x : DataW H × List MemPlace} (h : DataW.trod enc Tryz.prog w 0 (fun _ => true) true fuel 22 [v] = some x) : IsInts w v := by
  rcases open_ints Tryz.underlying22 Tryz.underlying3 (by kernel_rfl) h with ⟨hcs, _⟩ | ⟨a, l, c, zs, hcs, _, hl, hm, hz, _, hcell, _⟩
  · simp at hcs
    subst hcs
    exact ⟨none, 0, [], rfl, by simp, rfl, fun hn => by simp at hn⟩
  · simp at hcs
    subst hcs
    have hz' : zs.length = c := by simpa using hz
    have e : (zs.take l).length = l := by rw [List.length_take]; omega
    refine ⟨some a, c, zs.take l, by rw [e], by rw [e]; unfold maxLen at hm; omega, by simp, fun hn => ⟨a, rfl, ?_, fun j u hu => ?_⟩⟩
    · have := hcell 0 (by omega)
      have := World.block_lt_of_cell? w _ this
      simpa [Addr.add] using this
    · have hj : j < l := by
        have := (List.getElem?_eq_some_iff.1 hu).1
        simp at this; omega
      rw [hcell j (by omega)]
      rw [List.getElem?_map, List.getElem?_take, if_pos hj, List.getElem?_eq_getElem (by omega)] at hu
      injection hu with hu
      rw [← hu]; simp [show j < zs.length by omega]
def IsRaw (w : World) (v : Value) : Prop := ∃ (A B : Option Addr) (c k : Nat) (rows : Int) (xs ys : List Int), v = .agg #[.slice A xs.length c, .slice B ys.length k, .int .i64 rows] ∧ xs.length ≤ 9223372036854775807 ∧ ys.length ≤ 9223372036854775807 ∧ IntsIn w w.heap.size A xs ∧ IntsIn w w.heap.size B ys
set_option maxRecDepth 100000 in
theorem raw_open {r : Reach} {b0 : Nat} {v : Value} {d : DataW H} {p : List MemPlace} (hv : Value.okWide Tryz.prog w r b0 24 v) (h : DataW.Trod enc Tryz.prog w 0 (fun _ => true) true 24 v d p) : IsRaw w v := by
  obtain ⟨c0, c1, c2, y0, y1, y2, m, rfl, _, _, h0, h1, h2⟩ := open_agg3 Tryz.underlying24 (by kernel_rfl) (by kernel_rfl) hv h
  obtain ⟨A, c, xs, rfl, hl, hx⟩ := ints_of h0
  obtain ⟨B, k, ys, rfl, hl2, hy⟩ := ints_of h1
  obtain ⟨x, e2, _, _⟩ := DataW.trod_int Tryz.underlying3 h2
  simp at e2
  subst e2
  exact ⟨A, B, c, k, x, xs, ys, rfl, hl, hl2, hx, hy⟩
theorem ints_open {v : Value} {d : DataW H} {p : List MemPlace} {A : Option Addr} {n c : Nat} (he : v = .slice A n c) (h : DataW.Trod enc Tryz.prog w 0 (fun _ => true) true 22 v d p) : IsInts w v := by
  subst he
  obtain ⟨fuel, hf⟩ := h
  exact ints_of (by simpa [Value.cells] using hf)
end
end Go.Proofs.YthallgbggkgboaaGreatDoor.Gp
