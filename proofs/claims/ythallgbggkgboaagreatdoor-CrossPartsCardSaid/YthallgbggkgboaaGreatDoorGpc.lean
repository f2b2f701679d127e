/-
  sheet.Check: its contract.
-/
import Derived.Test.YthallgbggkgboaaGreatDoorGpb
namespace Go.Proofs.YthallgbggkgboaaGreatDoor.Gp
open Go Go.RowKit Ut

theorem names_apart : (List.range 6).all (fun i => (List.range 6).all fun j => Nat.ble i j || (namesAt j).all fun a => (namesAt i).all fun b => !(a.toList == b.toList)) = true := by kernel_rfl
theorem names_in {i : Nat} {nm : ByteArray} (hi : i < 6) (h : nm ∈ namesAt i) : nm ∈ allNames :=
  List.mem_append_left _ (List.mem_flatMap.2 ⟨i, by simp only [List.mem_cons, List.not_mem_nil, or_false]; omega, h⟩)
def gN (cs : List CI) : Prop := ∀ (i : Nat) (h : i < cs.length), cs[i].nm ∈ namesAt i
theorem gN_ne {cs : List CI} (h : gN cs) {i j : Nat} (hi : i < cs.length) (h6 : cs.length ≤ 6) (hj : j < cs.length) (hji : j < i) : (cs[j].nm.toList == cs[i].nm.toList) = false := by
  have h1 := List.all_eq_true.1 (List.all_eq_true.1 names_apart i (List.mem_range.2 (by omega))) j (List.mem_range.2 (by omega))
  have hb : Nat.ble i j = false := by
    cases hb : Nat.ble i j with
    | false => rfl
    | true => have := Nat.le_of_ble_eq_true hb; omega
  rw [hb, Bool.false_or] at h1
  have h2 := List.all_eq_true.1 (List.all_eq_true.1 h1 _ (h j hj)) _ (h i hi)
  simpa using h2
theorem pflat_at : ∀ (cs : List PC) (i : Nat) (h : i < cs.length) (j : Nat), j < 7 → (pflat cs)[i * 7 + j]? = (PC.cells cs[i])[j]?
  | [], i, h, _, _ => by simp at h
  | c :: cs, i, h, j, hj => by
    show (PC.cells c ++ pflat cs)[i * 7 + j]? = _
    cases i with
    | zero => rw [Nat.zero_mul, Nat.zero_add, List.getElem?_append_left hj]; rfl
    | succ i =>
      rw [List.getElem?_append_right (by show 7 ≤ _; omega), List.getElem_cons_succ, ← pflat_at cs i (by simpa using h) j hj]
      congr 1
      show _ - 7 = _; omega
theorem PRow.len {w : World} {b : Nat} {v : Value} {cs : List PC} (h : PRow w b v cs) : ∃ A c, v = .slice A cs.length c := by
  obtain ⟨A, c, e, _⟩ := own_slice h
  exact ⟨A, c, e⟩
theorem PRow.below {w w' : World} {b : Nat} {v : Value} {cs : List PC} (h : PRow w b v cs) (hb : Below w.heap.size w w') : PRow w' b v cs := own_below h hb
theorem PRow.at_ {w : World} {b c n : Nat} {A : Option Addr} {cs : List PC} (h : PRow w b (.slice A n c) cs) {i : Nat} (hi : i < cs.length) :
    ∃ g, A = some ⟨g, 0, none⟩ ∧ g < w.heap.size ∧ w.cell? ⟨g, i * 7, none⟩ = some (.bool cs[i].lk) ∧ w.cell? ⟨g, i * 7 + 1, none⟩ = some (.bool cs[i].neg) ∧ w.cell? ⟨g, i * 7 + 2, none⟩ = some (.int .u64 cs[i].n) ∧ w.cell? ⟨g, i * 7 + 3, none⟩ = some (.string cs[i].s) ∧ w.cell? ⟨g, i * 7 + 4, none⟩ = some (.int .u64 cs[i].d) ∧ w.cell? ⟨g, i * 7 + 5, none⟩ = some (.string cs[i].s') ∧ w.cell? ⟨g, i * 7 + 6, none⟩ = some (.int .i64 cs[i].wd) := by
  obtain ⟨A', c', e, _⟩ := own_slice h
  injection e with e1 e2 e3
  subst e1 e2 e3
  obtain ⟨g, rfl, _, hg, hc⟩ := own_cell h (by omega)
  have at' : ∀ j, j < 7 → ∀ u, (PC.cells cs[i])[j]? = some u → w.cell? ⟨g, i * 7 + j, none⟩ = some u := fun j hj u hu => hc _ _ ((pflat_at cs i hi j hj).trans hu)
  exact ⟨g, rfl, hg, at' 0 (by omega) _ rfl, at' 1 (by omega) _ rfl, at' 2 (by omega) _ rfl, at' 3 (by omega) _ rfl, at' 4 (by omega) _ rfl, at' 5 (by omega) _ rfl, at' 6 (by omega) _ rfl⟩
theorem PRows.below {w w' : World} {b : Nat} {v : Value} {gs : List (List PC × Value)} (h : PRows w b v gs) (hb : Below w.heap.size w w') : PRows w' b v gs :=
  ⟨own_below h.1 hb, fun q hq => let ⟨b, h⟩ := h.2 q hq; ⟨b, h.below hb⟩⟩
theorem PRows.at_ {w : World} {b c n : Nat} {A : Option Addr} {gs : List (List PC × Value)} (h : PRows w b (.slice A n c) gs) {i : Nat} (hi : i < gs.length) : ∃ g, A = some ⟨g, 0, none⟩ ∧ g < w.heap.size ∧ w.cell? ⟨g, i, none⟩ = some gs[i].2 := by
  obtain ⟨A', c', e, _⟩ := own_slice h.1
  injection e with e1 e2 e3
  subst e1 e2 e3
  obtain ⟨g, rfl, _, hg, hc⟩ := own_cell h.1 (by omega)
  exact ⟨g, rfl, hg, hc i _ (by rw [List.getElem?_map, List.getElem?_eq_getElem hi]; rfl)⟩
/- A sheet of the program that is as it should be. -/
structure SheetOk (w : World) (cu ru : Value) (cs : List CI) (b : Nat) (gs : List (List PC × Value)) : Prop where
  cols : ColsAt w cu cs
  rows : PRows w b ru gs
  nms : gN cs
  c1 : 1 ≤ cs.length
  c6 : cs.length ≤ 6
  r12 : gs.length ≤ 12
  fit : ∀ q ∈ gs, pFits (cs.map CI.kd) q.1
theorem SheetOk.below {w w' : World} {cu ru : Value} {cs : List CI} {b : Nat} {gs : List (List PC × Value)} (h : SheetOk w cu ru cs b gs) (hb : Below w.heap.size w w') : SheetOk w' cu ru cs b gs :=
  ⟨h.cols.below hb, h.rows.below hb, h.nms, h.c1, h.c6, h.r12, h.fit⟩
theorem SheetOk.form {w : World} {cu ru : Value} {cs : List CI} {b : Nat} {gs : List (List PC × Value)} (h : SheetOk w cu ru cs b gs) : ∃ g c A2 c2, cu = .slice (some ⟨g, 0, none⟩) cs.length c ∧ ru = .slice A2 gs.length c2 ∧ cs.length ≤ c := by
  obtain ⟨⟨base, h1⟩, _⟩ := h.cols
  obtain ⟨A, c, rfl, hc⟩ := own_slice h1
  obtain ⟨g, rfl, _, _, _⟩ := own_cell h1 h.c1
  obtain ⟨A2, c2, rfl, _⟩ := own_slice h.rows.1
  exact ⟨g, c, A2, c2, rfl, rfl, hc⟩
end Go.Proofs.YthallgbggkgboaaGreatDoor.Gp
