/-
  sheet.Check: a column's name among others.
-/
import Derived.Test.YtdlggegdlknkeaaGreatDoorGp8
namespace Go.Proofs.YtdlggegdlknkeaaGreatDoor.Gp
open Go Go.RowKit Ut

theorem CI.wd_form {w : World} {c : CI} (h : ofKind c.kd w c.wd) : ∃ A k, c.wd = .slice A c.kd k := by
  unfold ofKind at h
  split at h
  · next h0 =>
    obtain ⟨A, k, e⟩ := h
    exact ⟨A, k, by rw [e, h0]⟩
  · obtain ⟨base, h⟩ := h
    obtain ⟨A, k, e, _⟩ := own_slice h
    exact ⟨A, k, e⟩
set_option maxHeartbeats 1000000 in
set_option maxRecDepth 100000 in
theorem named1_any (n2 nm : ByteArray) (k : Int) (A : Option Addr) (n c pb : Nat) (w : World) (hp : w.cell? ⟨pb, 0, none⟩ = some (.string nm)) (hb : pb < w.heap.size) (hne : (n2.toList == nm.toList) = false) :
    Calls Tryz.prog 154 #[.agg #[.string n2, .int .i64 k, .slice A n c], .pointer (some ⟨pb, 0, none⟩)] w fun e w' => e = .returned (.bool false) ∧ Below w.heap.size w w' := by
  have hp' : ∀ o, (w.alloc o).cell? ⟨pb, 0, none⟩ = some (.string nm) := fun o => (World.cell?_alloc_lt w o _ hb).trans hp
  go_enter Tryz.func154, Tryz.ntmps154
  go_wp2
  go_ret
  exact ⟨rfl, (Below.refl _ _).alloc (Nat.le_refl _) _⟩
set_option maxHeartbeats 1000000 in
set_option maxRecDepth 100000 in
theorem indexf_any (A : Option Addr) (c c' i : Nat) (cs : List CI) (nm : ByteArray) (pb : Nat) (w : World) (hc : ColsAt w (.slice A cs.length c) cs) (hi : i ≤ cs.length) (hi6 : i ≤ 6) (hp : w.cell? ⟨pb, 0, none⟩ = some (.string nm)) (hb : pb < w.heap.size) (hne : ∀ (j : Nat) (h : j < cs.length), j < i → (cs[j].nm.toList == nm.toList) = false) :
    Calls Tryz.prog 278 #[.slice A i c', .func (.func 154) #[] #[.pointer (some ⟨pb, 0, none⟩)]] w fun e w' => e = .returned (.int .i64 (-1)) ∧ Below w.heap.size w w' := by
  have HC := Lib.hid hc
  have HP := Lib.hid hp
  have HN := Lib.hid hne
  clear hc hp hne
  go_enter Tryz.func278, Tryz.ntmps278
  go_wp2
  go_loopw [8] (fun iv wr => ∃ j : Nat, j ≤ i ∧ iv = .int .i64 j ∧ Hid (Below w.heap.size w wr)) (fun iv _ => i - (intOf iv).toNat)
  case atStart => exact ⟨0, Nat.zero_le _, rfl, Below.refl _ _⟩
  case round =>
    obtain ⟨j, hj, rfl, hbel⟩ := hrel
    by_cases hgo : j < i
    · have hjl : j < cs.length := by omega
      obtain ⟨g, rfl, hg, q0, q1, q2⟩ := (HC.out.below hbel.out).at_ hjl
      obtain ⟨A2, k2, hwd⟩ := CI.wd_form (HC.out.2 _ (List.getElem_mem hjl)).2
      rw [hwd] at q2
      have HNE := Lib.hid (HN.out j hjl hgo)
      have HPW : Hid (wr.cell? ⟨pb, 0, none⟩ = some (.string nm) ∧ pb < wr.heap.size) := ⟨(hbel.out.cell (p := ⟨pb, 0, none⟩) hb).trans HP.out, Nat.lt_of_lt_of_le hb hbel.out.size⟩
      generalize cs[j].nm = n2 at *
      generalize cs[j].kd = kd at *
      go_wp2_with (go_at_call 154; refine (named1_any _ _ _ _ _ _ _ _ HPW.out.1 HPW.out.2 HNE.out).mono ?_; rintro e w2 ⟨rfl, hb2⟩)
      exact ⟨⟨j + 1, by omega, by go_num, hbel.out.trans (hb2.mono hbel.out.size)⟩, by simp [intOf]; omega⟩
    · go_wp2
      go_ret
      exact ⟨rfl, hbel.out⟩
set_option maxHeartbeats 1000000 in
set_option maxRecDepth 100000 in
theorem contf_any (A : Option Addr) (c c' i : Nat) (cs : List CI) (nm : ByteArray) (pb : Nat) (w : World) (hc : ColsAt w (.slice A cs.length c) cs) (hi : i ≤ cs.length) (hi6 : i ≤ 6) (hp : w.cell? ⟨pb, 0, none⟩ = some (.string nm)) (hb : pb < w.heap.size) (hne : ∀ (j : Nat) (h : j < cs.length), j < i → (cs[j].nm.toList == nm.toList) = false) :
    Calls Tryz.prog 153 #[.slice A i c', .func (.func 154) #[] #[.pointer (some ⟨pb, 0, none⟩)]] w fun e w' => e = .returned (.bool false) ∧ Below w.heap.size w w' := by
  have H := Lib.hid (indexf_any A c c' i cs nm pb w hc hi hi6 hp hb hne)
  clear hc hp hne
  go_enter Tryz.func153, Tryz.ntmps153
  go_wp2_with (go_at_call 278; refine H.out.mono ?_; rintro e w2 ⟨rfl, hb2⟩)
  go_ret
  exact ⟨rfl, hb2⟩
set_option maxHeartbeats 1000000 in
set_option maxRecDepth 100000 in
theorem named_any (A : Option Addr) (c c' i : Nat) (cs : List CI) (nm : ByteArray) (w : World) (hc : ColsAt w (.slice A cs.length c) cs) (hi : i ≤ cs.length) (hi6 : i ≤ 6) (hne : ∀ (j : Nat) (h : j < cs.length), j < i → (cs[j].nm.toList == nm.toList) = false) :
    Calls Tryz.prog 68 #[.slice A i c', .string nm] w fun e w' => e = .returned (.bool false) ∧ Below w.heap.size w w' := by
  have H : Hid (∀ o, (w.alloc o).cell? ⟨w.heap.size, 0, none⟩ = some (.string nm) → Calls Tryz.prog _ _ (w.alloc o) _) := Lib.hid (fun o hp => contf_any A c c' i cs nm w.heap.size (w.alloc o) (hc.below ((Below.refl _ _).alloc (Nat.le_refl _) _)) hi hi6 hp (by simp) hne)
  clear hc hne
  go_enter Tryz.func68, Tryz.ntmps68
  go_wp2_with (go_at_call 153; refine (H.out _ (by simp)).mono ?_; rintro e w2 ⟨rfl, hb2⟩)
  go_ret
  exact ⟨rfl, ((Below.refl _ _).alloc (Nat.le_refl _) _).trans (hb2.mono (by simp))⟩
set_option maxHeartbeats 1000000 in
set_option maxRecDepth 100000 in
theorem twice_none (A : Option Addr) (c : Nat) (w : World) : Calls Tryz.prog 69 #[.slice A 0 c] w fun e w' => e = .returned (.bool false) ∧ Below w.heap.size w w' := by
  go_enter Tryz.func69, Tryz.ntmps69
  go_wp2
  go_loopw [7] (fun iv wr => iv = .int .i64 0 ∧ wr = w) (fun _ _ => 0)
  case atStart => exact ⟨rfl, rfl⟩
  case round =>
    obtain ⟨rfl, rfl⟩ := hrel
    go_wp2
    go_ret
    exact ⟨rfl, Below.refl _ _⟩
theorem twice_any {kd : Nat} {v : Value} (h5 : kd ≤ 5) (w : World) (h : ofKind kd w v) : Calls Tryz.prog 69 #[v] w fun e w' => e = .returned (.bool false) ∧ Below w.heap.size w w' := by
  unfold ofKind at h
  split at h
  · obtain ⟨A, c, rfl⟩ := h
    exact twice_none A c w
  · exact twice_words (by omega) h5 w h
end Go.Proofs.YtdlggegdlknkeaaGreatDoor.Gp
