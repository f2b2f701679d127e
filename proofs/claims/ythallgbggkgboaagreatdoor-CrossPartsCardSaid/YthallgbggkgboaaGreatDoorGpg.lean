/-
  Choices, Numbers; lists held against each other.
-/
import Derived.Test.YthallgbggkgboaaGreatDoorGpf
namespace Go.Proofs.YthallgbggkgboaaGreatDoor.Gp
open Go Go.RowKit Ut

def IntsOut (w w' : World) (gs : List (List PC × Value)) (k : Nat) (v : Value) (er : Int) : Prop := (er = 20 ∧ v = .slice none 0 0 ∧ ∃ q ∈ gs, (pcAt q.1 k).lk = true) ∨ (er = 0 ∧ IntRow w' w.heap.size v (gs.map fun q => (pcAt q.1 k).wd) ∧ ∀ q ∈ gs, (pcAt q.1 k).lk = false)
def QsOut (w w' : World) (gs : List (List PC × Value)) (k : Nat) (v : Value) (er : Int) : Prop := (er = 20 ∧ v = .slice none 0 0 ∧ ∃ q ∈ gs, (pcAt q.1 k).lk = true) ∨ (er = 0 ∧ QRow w' w.heap.size v (gs.map fun q => pcAt q.1 k) ∧ (∀ q ∈ gs, QOk (pcAt q.1 k).q) ∧ ∀ q ∈ gs, (pcAt q.1 k).lk = false)
theorem IntsOut.form {w w' : World} {gs : List (List PC × Value)} {k : Nat} {v : Value} {er : Int} (h : IntsOut w w' gs k v er) : ∃ A n c, v = .slice A n c := by
  rcases h with ⟨_, rfl, _⟩ | ⟨_, h, _⟩
  · exact ⟨_, _, _, rfl⟩
  · obtain ⟨A, c, e, _⟩ := own_slice h
    exact ⟨_, _, _, e⟩
theorem QsOut.form {w w' : World} {gs : List (List PC × Value)} {k : Nat} {v : Value} {er : Int} (h : QsOut w w' gs k v er) : ∃ A n c, v = .slice A n c := by
  rcases h with ⟨_, rfl, _⟩ | ⟨_, h, _⟩
  · exact ⟨_, _, _, rfl⟩
  · obtain ⟨A, c, e, _⟩ := own_slice h
    exact ⟨_, _, _, e⟩
set_option maxHeartbeats 1000000 in
set_option maxRecDepth 100000 in
theorem choices_any (cu ru : Value) (cs : List CI) (b : Nat) (gs : List (List PC × Value)) (k : Nat) (w : World) (h : SheetOk w cu ru cs b gs) (hk : k < cs.length) (hkd : cs[k].kd ≠ 0) (hg1 : 1 ≤ gs.length) :
    Calls Tryz.prog 31 #[.agg #[cu, ru], .int .i64 k] w fun e w' => ∃ (v : Value) (er : Int), e = .returned (.tuple #[v, .int .i64 er]) ∧ Below w.heap.size w w' ∧ IntsOut w w' gs k v er := by
  have HC : Hid (∀ o, Calls Tryz.prog _ _ (w.alloc o) _) := Lib.hid (fun o => columni_any cu ru cs b gs k (w.alloc o) (h.below ((Below.refl _ _).alloc (Nat.le_refl _) o)) hk hkd hg1)
  obtain ⟨g, c, A2, c2, rfl, rfl, hcc⟩ := h.form
  clear h hkd
  go_enter Tryz.func31, Tryz.ntmps31
  go_wp2_with (go_at_call 53; refine (HC.out _).mono ?_; rintro e w2 ⟨v, er, rfl, hb2, hout⟩; rw [World.size_alloc] at hb2)
  go_ret2
  refine ⟨v, er, rfl, ((Below.refl _ _).alloc (Nat.le_refl _) _).trans (hb2.mono (by omega)), ?_⟩
  rcases hout with h | ⟨h1, h2, h3⟩
  · exact .inl h
  · exact .inr ⟨h1, own_less h2 (by simp), h3⟩
set_option maxHeartbeats 1000000 in
set_option maxRecDepth 100000 in
theorem numbers_any (cu ru : Value) (cs : List CI) (b : Nat) (gs : List (List PC × Value)) (k : Nat) (w : World) (h : SheetOk w cu ru cs b gs) (hk : k < cs.length) (hkd : cs[k].kd = 0) (hg1 : 1 ≤ gs.length) :
    Calls Tryz.prog 32 #[.agg #[cu, ru], .int .i64 k] w fun e w' => ∃ (v : Value) (er : Int), e = .returned (.tuple #[v, .int .i64 er]) ∧ Below w.heap.size w w' ∧ QsOut w w' gs k v er := by
  have HC : Hid (∀ o, Calls Tryz.prog _ _ (w.alloc o) _) := Lib.hid (fun o => columnq_any cu ru cs b gs k (w.alloc o) (h.below ((Below.refl _ _).alloc (Nat.le_refl _) o)) hk hkd hg1)
  obtain ⟨g, c, A2, c2, rfl, rfl, hcc⟩ := h.form
  clear h hkd
  go_enter Tryz.func32, Tryz.ntmps32
  go_wp2_with (go_at_call 55; refine (HC.out _).mono ?_; rintro e w2 ⟨v, er, rfl, hb2, hout⟩; rw [World.size_alloc] at hb2)
  go_ret2
  refine ⟨v, er, rfl, ((Below.refl _ _).alloc (Nat.le_refl _) _).trans (hb2.mono (by omega)), ?_⟩
  rcases hout with h | ⟨h1, h2, h3⟩
  · exact .inl h
  · exact .inr ⟨h1, own_less h2 (by simp), h3⟩
/- Lists that are read: nil let in. -/
def ReadI (w : World) (v : Value) (ns : List Nat) : Prop := ∃ base, IntRow w base v ns
def ReadQ (w : World) (v : Value) (cs : List PC) : Prop := ∃ base, QRow w base v cs
theorem qflat_at : ∀ (cs : List PC) (i : Nat) (h : i < cs.length) (j : Nat), j < 5 → (qflat cs)[i * 5 + j]? = (qcells cs[i])[j]?
  | [], i, h, _, _ => by simp at h
  | c :: cs, i, h, j, hj => by
    show (qcells c ++ qflat cs)[i * 5 + j]? = _
    cases i with
    | zero => rw [Nat.zero_mul, Nat.zero_add, List.getElem?_append_left hj]; rfl
    | succ i =>
      rw [List.getElem?_append_right (by show 5 ≤ _; omega), List.getElem_cons_succ, ← qflat_at cs i (by simpa using h) j hj]
      congr 1
      show _ - 5 = _; omega
set_option maxHeartbeats 1000000 in
set_option maxRecDepth 100000 in
theorem sameints_any (u v : Value) (ns : List Nat) (w : World) (hu : ReadI w u ns) (hv : ReadI w v ns) (hn : ns.length ≤ 1000) :
    Calls Tryz.prog 25 #[u, v] w fun e w' => e = .returned (.bool true) ∧ Below w.heap.size w w' := by
  obtain ⟨b1, hu⟩ := hu
  obtain ⟨b2, hv⟩ := hv
  obtain ⟨A1, c1, rfl, _⟩ := own_slice hu
  obtain ⟨A2, c2, rfl, _⟩ := own_slice hv
  have HU := Lib.hid hu
  have HV := Lib.hid hv
  clear hu hv
  go_enter Tryz.func25, Tryz.ntmps25
  go_wp2
  go_loopw [5] (fun iv wr => ∃ j : Nat, j ≤ ns.length ∧ iv = .int .i64 j ∧ Hid (Below w.heap.size w wr)) (fun iv _ => ns.length - (intOf iv).toNat)
  case atStart => exact ⟨0, Nat.zero_le _, rfl, Below.refl _ _⟩
  case round =>
    obtain ⟨j, hj, rfl, hbel⟩ := hrel
    by_cases hgo : j < ns.length
    · obtain ⟨g1, rfl, _, hg1, q1⟩ := own_cell HU.out (by omega)
      obtain ⟨g2, rfl, _, hg2, q2⟩ := own_cell HV.out (by omega)
      have z : (ns.map fun (n : Nat) => Value.int .i64 (n : Int))[j]? = some (.int .i64 (ns[j] : Int)) := by rw [List.getElem?_map, List.getElem?_eq_getElem hgo]; rfl
      have x1 := (hbel.out.cell (p := ⟨g1, j, none⟩) hg1).trans (q1 j _ z)
      have x2 := (hbel.out.cell (p := ⟨g2, j, none⟩) hg2).trans (q2 j _ z)
      clear q1 q2 z
      generalize ns[j] = m at *
      go_wp2
      go_region_held3 (fun w' => w'.cell? ⟨g1, j, none⟩ = some (.int .i64 (m : Int)) ∧ w'.cell? ⟨g2, j, none⟩ = some (.int .i64 (m : Int))) (simp [*]) (first | (go_at_call 9999))
      all_goals go_wp2
      all_goals exact ⟨⟨j + 1, by omega, by go_num, (by first | exact hbel.out | exact hbel.out.drew)⟩, by simp [intOf]; omega⟩
    · go_wp2
      go_ret
      exact ⟨rfl, hbel.out⟩
set_option maxHeartbeats 4000000 in
set_option maxRecDepth 100000 in
theorem comparef_any (u v : Value) (fs : List PC) (w : World) (hu : ReadQ w u fs) (hv : ReadQ w v fs) (hn : fs.length ≤ 1000) (hq : ∀ c ∈ fs, QOk c.q) :
    Calls Tryz.prog 524 #[u, v, .func (.func 40) #[] #[]] w fun e w' => e = .returned (.int .i64 0) ∧ Below w.heap.size w w' := by
  obtain ⟨b1, hu⟩ := hu
  obtain ⟨b2, hv⟩ := hv
  obtain ⟨A1, c1, rfl, _⟩ := own_slice hu
  obtain ⟨A2, c2, rfl, _⟩ := own_slice hv
  have HU := Lib.hid hu
  have HV := Lib.hid hv
  have HQ := Lib.hid hq
  clear hu hv hq
  go_enter Tryz.func524, Tryz.ntmps524
  go_wp2
  go_loopw [13] (fun iv wr => ∃ j : Nat, j ≤ fs.length ∧ iv = .int .i64 j ∧ Hid (Below w.heap.size w wr)) (fun iv _ => fs.length - (intOf iv).toNat)
  case atStart => exact ⟨0, Nat.zero_le _, rfl, Below.refl _ _⟩
  case round =>
    obtain ⟨j, hj, rfl, hbel⟩ := hrel
    by_cases hgo : j < fs.length
    · obtain ⟨g1, rfl, _, hg1, q1⟩ := own_cell HU.out (by omega)
      obtain ⟨g2, rfl, _, hg2, q2⟩ := own_cell HV.out (by omega)
      have hqj := HQ.out _ (List.getElem_mem hgo)
      have hszr := hbel.out.size
      have at1 : ∀ i, i < 5 → ∀ x, (qcells fs[j])[i]? = some x → wr.cell? ⟨g1, j * 5 + i, none⟩ = some x := fun i hi x hx => (hbel.out.cell (p := ⟨g1, j * 5 + i, none⟩) hg1).trans (q1 _ _ ((qflat_at fs j hgo i hi).trans hx))
      have at2 : ∀ i, i < 5 → ∀ x, (qcells fs[j])[i]? = some x → ∀ o, (wr.alloc o).cell? ⟨g2, j * 5 + i, none⟩ = some x := fun i hi x hx o => (World.cell?_alloc_lt wr o _ (by show g2 < _; omega)).trans ((hbel.out.cell (p := ⟨g2, j * 5 + i, none⟩) hg2).trans (q2 _ _ ((qflat_at fs j hgo i hi).trans hx)))
      have x0 := at1 0 (by omega) _ rfl
      have x1 := at1 1 (by omega) _ rfl
      have x2 := at1 2 (by omega) _ rfl
      have x3 := at1 3 (by omega) _ rfl
      have x4 := at1 4 (by omega) _ rfl
      have y0 := at2 0 (by omega) _ rfl
      have y1 := at2 1 (by omega) _ rfl
      have y2 := at2 2 (by omega) _ rfl
      have y3 := at2 3 (by omega) _ rfl
      have y4 := at2 4 (by omega) _ rfl
      rw [Nat.add_zero] at x0
      simp only [Nat.add_zero] at y0
      have HCMP := Lib.hid (fun W => cmp_any W hqj)
      unfold PC.q at HCMP
      clear at1 at2 q1 q2 hqj
      generalize fs[j] = f at *
      go_wp2_with (go_at_call 40; refine (HCMP.out _).mono ?_; rintro e w3 ⟨rfl, hb3⟩)
      refine ⟨⟨j + 1, by omega, by go_num, ?_⟩, by simp [intOf]; omega⟩
      exact (((hbel.out.alloc hszr _).alloc (by simp; omega) _)).trans (hb3.mono (by simp; omega))
    · go_wp2
      go_ret
      exact ⟨rfl, hbel.out⟩
set_option maxHeartbeats 1000000 in
set_option maxRecDepth 100000 in
theorem same_any (u v : Value) (fs : List PC) (w : World) (hu : ReadQ w u fs) (hv : ReadQ w v fs) (hn : fs.length ≤ 1000) (hq : ∀ c ∈ fs, QOk c.q) :
    Calls Tryz.prog 460 #[u, v] w fun e w' => e = .returned (.bool true) ∧ Below w.heap.size w w' := by
  have H := Lib.hid (comparef_any u v fs w hu hv hn hq)
  clear hu hv hq
  go_enter Tryz.func460, Tryz.ntmps460
  go_wp2_with (go_at_call 524; refine H.out.mono ?_; rintro e w2 ⟨rfl, hb2⟩)
  go_ret
  exact ⟨rfl, hb2⟩
end Go.Proofs.YthallgbggkgboaaGreatDoor.Gp
