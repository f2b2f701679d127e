/-
  Names and words, by runs. sheet.Check: a column's name among others. sheet.Check: a column.
-/
import Derived.Test.YthallgbggkgboaaGreatDoorGb
namespace Go.Proofs.YthallgbggkgboaaGreatDoor.Gp
open Go Go.RowKit CX Ut

def allNames : List ByteArray := [0, 1, 2, 3, 4, 5].flatMap namesAt ++ wds.map fun l => ⟨⟨l⟩⟩
noncomputable def isNameB (s : Nat → Value) (nm : ByteArray) : Bool := gets (xo s) 49 [.string nm] (Hp.zero NG) (.bool true)
theorem isName1 (s : Nat → Value) : allNames.all (isNameB s) = true := by kernel_rfl
noncomputable def wordsH (kd : Nat) : Hp := lay (NG + 1) [(NG, .row { newBk 9 ((wds.take kd).map sv) with ro := true })] .empty
def wordsV (kd : Nat) : Value := .slice (some ⟨NG, 0, none⟩) kd (kd * 131072 + 3)
noncomputable def twiceB (s : Nat → Value) (kd : Nat) : Bool := gets (xo s) 51 [wordsV kd] (wordsH kd) (.bool false)
theorem twice1 (s : Nat → Value) : [1, 2, 3, 4, 5].all (twiceB s) = true := by kernel_rfl
theorem isname_any {nm : ByteArray} (h : nm ∈ allNames) (w : World) : Calls Tryz.prog 49 #[.string nm] w fun e w' => e = .returned (.bool true) ∧ Below w.heap.size w w' :=
  gets_run (List.all_eq_true.1 (isName1 s0) nm h) rfl (HR.zero NG s0 s0_one w) (GOk.zero NG s0 s0_one) (.cons (.plain rfl) .nil) zero_img
theorem wordsH_ob {kd i : Nat} {o : Ob} (h : (wordsH kd).ob i = some o) : i = NG ∧ o = .row { newBk 9 ((wds.take kd).map sv) with ro := true } := by
  rcases lay_ob h with hm | ⟨hm, _⟩
  · have := List.mem_singleton.1 hm
    injection this with h1 h2
    exact ⟨h1, h2⟩
  · cases hm
theorem HR.words {kd : Nat} (hk : 0 < kd) {w : World} {v : Value} (hv : WordsAt w kd v) : ∃ E : En, HR E (wordsH kd) w ∧ GOk ⟨NG, s0⟩ E ∧ VR E (wordsV kd) v := by
  obtain ⟨base, h1, h2⟩ := hv
  rcases h2 with ⟨_, h0⟩ | ⟨g, cap, cur, rfl, _, h4, h5, h6, h7, h8⟩
  · omega
  · refine ⟨EF (some ⟨g, 0, cap⟩) none, ⟨fun i hi => ?_, fun i o hi => ?_, fun i j o o' e e' hi hj _ _ _ => by rw [(wordsH_ob hi).1, (wordsH_ob hj).1]⟩, ⟨fun i hi => ⟨0, if_pos hi⟩, rfl⟩, ?_⟩
    · have : NG + 1 ≤ i := hi
      show (if i < NG then _ else if i = NG then _ else if i = NG + 1 then none else none) = none
      rw [if_neg (by omega), if_neg (by omega)]
      split <;> rfl
    · obtain ⟨rfl, rfl⟩ := wordsH_ob hi
      have hl : ((wds.take kd).map sv).length = kd := by simpa using h1
      refine ⟨⟨g, 0, cap⟩, rfl, cur, (0, 0), h4, by simpa using h7, ?_, fun j u hu => ?_, fun h => (by cases h), fun h => (by cases h)⟩
      · show len ((wds.take kd).map sv) ≤ cap
        rw [len_eq, hl]; exact h5
      · have hu : (newBk 9 ((wds.take kd).map sv)).at j = some u := hu
        rw [newBk_at, ← h8] at hu
        have hp : CX.plainCell u = true := by
          rw [h8] at hu
          obtain ⟨x, _, rfl⟩ := List.mem_map.1 (List.mem_of_getElem? hu)
          rfl
        refine ⟨u, ?_, .plain hp⟩
        rw [Nat.zero_add]
        rw [List.getElem?_take] at hu
        split at hu
        · simpa using hu
        · cases hu
    · have e1 : (kd * 131072 + 3) / 2 % 65536 = 1 := by omega
      refine .slice (e := ⟨g, 0, cap⟩) rfl (.inr ⟨by omega, by omega, ?_, by rw [e1]; decide⟩)
      rw [e1]
      show 0 + cap * 1 = cap
      omega
theorem words_img {kd : Nat} {E : En} (k : Nat) : ¬ Img E (wordsH kd) k := by
  rintro ⟨i, o, e, h, hwr, _⟩
  obtain ⟨rfl, rfl⟩ := wordsH_ob h
  cases hwr
theorem twice_words {kd : Nat} {v : Value} (h0 : 0 < kd) (h5 : kd ≤ 5) (w : World) (h : WordsAt w kd v) : Calls Tryz.prog 51 #[v] w fun e w' => e = .returned (.bool false) ∧ Below w.heap.size w w' := by
  obtain ⟨E, H, hg, hv⟩ := HR.words h0 h
  exact gets_run (List.all_eq_true.1 (twice1 s0) kd (by simp only [List.mem_cons, List.not_mem_nil, or_false]; omega)) rfl H hg (.cons hv .nil) words_img
end Go.Proofs.YthallgbggkgboaaGreatDoor.Gp
namespace Go.Proofs.YthallgbggkgboaaGreatDoor.Gp
open Go Go.RowKit Ut

theorem CI.wd_form {w : World} {c : CI} (h : ofKind c.kd w c.wd) : ∃ A k, c.wd = .slice A c.kd k := by
  unfold ofKind at h
  split at h
  · next h0 =>
    obtain ⟨A, k, e⟩ := h
    exact ⟨A, k, by rw [e, h0]⟩
  · obtain ⟨base, h⟩ := h
    obtain ⟨A, k, e, _⟩ := own_slice h
    exact ⟨A, k, e⟩
set_option maxHeartbeats 1000000 in
set_option maxRecDepth 100000 in
theorem named1_any (n2 nm : ByteArray) (k : Int) (A : Option Addr) (n c pb : Nat) (w : World) (hp : w.cell? ⟨pb, 0, none⟩ = some (.string nm)) (hb : pb < w.heap.size) (hne : (n2.toList == nm.toList) = false) :
    Calls Tryz.prog 84 #[.agg #[.string n2, .int .i64 k, .slice A n c], .pointer (some ⟨pb, 0, none⟩)] w fun e w' => e = .returned (.bool false) ∧ Below w.heap.size w w' := by
  have hp' : ∀ o, (w.alloc o).cell? ⟨pb, 0, none⟩ = some (.string nm) := fun o => (World.cell?_alloc_lt w o _ hb).trans hp
  go_enter Tryz.func84, Tryz.ntmps84
  go_wp2
  go_ret
  exact ⟨rfl, (Below.refl _ _).alloc (Nat.le_refl _) _⟩
set_option maxHeartbeats 1000000 in
set_option maxRecDepth 100000 in
theorem indexf_any (A : Option Addr) (c c' i : Nat) (cs : List CI) (nm : ByteArray) (pb : Nat) (w : World) (hc : ColsAt w (.slice A cs.length c) cs) (hi : i ≤ cs.length) (hi6 : i ≤ 6) (hp : w.cell? ⟨pb, 0, none⟩ = some (.string nm)) (hb : pb < w.heap.size) (hne : ∀ (j : Nat) (h : j < cs.length), j < i → (cs[j].nm.toList == nm.toList) = false) :
    Calls Tryz.prog 122 #[.slice A i c', .func (.func 84) #[] #[.pointer (some ⟨pb, 0, none⟩)]] w fun e w' => e = .returned (.int .i64 (-1)) ∧ Below w.heap.size w w' := by
  have HC := Lib.hid hc
  have HP := Lib.hid hp
  have HN := Lib.hid hne
  clear hc hp hne
  go_enter Tryz.func122, Tryz.ntmps122
  go_wp2
  go_loopw [8] (fun iv wr => ∃ j : Nat, j ≤ i ∧ iv = .int .i64 j ∧ Hid (Below w.heap.size w wr)) (fun iv _ => i - (intOf iv).toNat)
  case atStart => exact ⟨0, Nat.zero_le _, rfl, Below.refl _ _⟩
  case round =>
    obtain ⟨j, hj, rfl, hbel⟩ := hrel
    by_cases hgo : j < i
    · have hjl : j < cs.length := by omega
      obtain ⟨g, rfl, hg, q0, q1, q2⟩ := (HC.out.below hbel.out).at_ hjl
      obtain ⟨A2, k2, hwd⟩ := CI.wd_form (HC.out.2 _ (List.getElem_mem hjl)).2
      rw [hwd] at q2
      have HNE := Lib.hid (HN.out j hjl hgo)
      have HPW : Hid (wr.cell? ⟨pb, 0, none⟩ = some (.string nm) ∧ pb < wr.heap.size) := ⟨(hbel.out.cell (p := ⟨pb, 0, none⟩) hb).trans HP.out, Nat.lt_of_lt_of_le hb hbel.out.size⟩
      generalize cs[j].nm = n2 at *
      generalize cs[j].kd = kd at *
      go_wp2_with (go_at_call 84; refine (named1_any _ _ _ _ _ _ _ _ HPW.out.1 HPW.out.2 HNE.out).mono ?_; rintro e w2 ⟨rfl, hb2⟩)
      exact ⟨⟨j + 1, by omega, by go_num, hbel.out.trans (hb2.mono hbel.out.size)⟩, by simp [intOf]; omega⟩
    · go_wp2
      go_ret
      exact ⟨rfl, hbel.out⟩
set_option maxHeartbeats 1000000 in
set_option maxRecDepth 100000 in
theorem contf_any (A : Option Addr) (c c' i : Nat) (cs : List CI) (nm : ByteArray) (pb : Nat) (w : World) (hc : ColsAt w (.slice A cs.length c) cs) (hi : i ≤ cs.length) (hi6 : i ≤ 6) (hp : w.cell? ⟨pb, 0, none⟩ = some (.string nm)) (hb : pb < w.heap.size) (hne : ∀ (j : Nat) (h : j < cs.length), j < i → (cs[j].nm.toList == nm.toList) = false) :
    Calls Tryz.prog 83 #[.slice A i c', .func (.func 84) #[] #[.pointer (some ⟨pb, 0, none⟩)]] w fun e w' => e = .returned (.bool false) ∧ Below w.heap.size w w' := by
  have H := Lib.hid (indexf_any A c c' i cs nm pb w hc hi hi6 hp hb hne)
  clear hc hp hne
  go_enter Tryz.func83, Tryz.ntmps83
  go_wp2_with (go_at_call 122; refine H.out.mono ?_; rintro e w2 ⟨rfl, hb2⟩)
  go_ret
  exact ⟨rfl, hb2⟩
set_option maxHeartbeats 1000000 in
set_option maxRecDepth 100000 in
theorem named_any (A : Option Addr) (c c' i : Nat) (cs : List CI) (nm : ByteArray) (w : World) (hc : ColsAt w (.slice A cs.length c) cs) (hi : i ≤ cs.length) (hi6 : i ≤ 6) (hne : ∀ (j : Nat) (h : j < cs.length), j < i → (cs[j].nm.toList == nm.toList) = false) :
    Calls Tryz.prog 50 #[.slice A i c', .string nm] w fun e w' => e = .returned (.bool false) ∧ Below w.heap.size w w' := by
  have H : Hid (∀ o, (w.alloc o).cell? ⟨w.heap.size, 0, none⟩ = some (.string nm) → Calls Tryz.prog _ _ (w.alloc o) _) := Lib.hid (fun o hp => contf_any A c c' i cs nm w.heap.size (w.alloc o) (hc.below ((Below.refl _ _).alloc (Nat.le_refl _) _)) hi hi6 hp (by simp) hne)
  clear hc hne
  go_enter Tryz.func50, Tryz.ntmps50
  go_wp2_with (go_at_call 83; refine (H.out _ (by simp)).mono ?_; rintro e w2 ⟨rfl, hb2⟩)
  go_ret
  exact ⟨rfl, ((Below.refl _ _).alloc (Nat.le_refl _) _).trans (hb2.mono (by simp))⟩
set_option maxHeartbeats 1000000 in
set_option maxRecDepth 100000 in
theorem twice_none (A : Option Addr) (c : Nat) (w : World) : Calls Tryz.prog 51 #[.slice A 0 c] w fun e w' => e = .returned (.bool false) ∧ Below w.heap.size w w' := by
  go_enter Tryz.func51, Tryz.ntmps51
  go_wp2
  go_loopw [7] (fun iv wr => iv = .int .i64 0 ∧ wr = w) (fun _ _ => 0)
  case atStart => exact ⟨rfl, rfl⟩
  case round =>
    obtain ⟨rfl, rfl⟩ := hrel
    go_wp2
    go_ret
    exact ⟨rfl, Below.refl _ _⟩
theorem twice_any {kd : Nat} {v : Value} (h5 : kd ≤ 5) (w : World) (h : ofKind kd w v) : Calls Tryz.prog 51 #[v] w fun e w' => e = .returned (.bool false) ∧ Below w.heap.size w w' := by
  unfold ofKind at h
  split at h
  · obtain ⟨A, c, rfl⟩ := h
    exact twice_none A c w
  · exact twice_words (by omega) h5 w h
end Go.Proofs.YthallgbggkgboaaGreatDoor.Gp
namespace Go.Proofs.YthallgbggkgboaaGreatDoor.Gp
open Go Go.RowKit Ut

theorem words_at {w : World} {kd k j : Nat} {A : Option Addr} {wd : Value} (h : ofKind kd w wd) (e : wd = .slice A kd k) (hj : j < kd) : ∃ g nm, A = some ⟨g, 0, none⟩ ∧ g < w.heap.size ∧ w.cell? ⟨g, j, none⟩ = some (.string nm) ∧ nm ∈ allNames := by
  unfold ofKind at h
  rw [if_neg (by omega)] at h
  obtain ⟨base, h⟩ := h
  subst e
  obtain ⟨g, rfl, _, hg, hc⟩ := own_cell h (by omega)
  have hl : ((wds.take kd).map sv).length = kd * 1 := h.1
  have hj' : j < (wds.take kd).length := by simpa using (show j < ((wds.take kd).map sv).length by omega)
  refine ⟨g, ⟨⟨(wds.take kd)[j]⟩⟩, rfl, hg, hc j _ ?_, ?_⟩
  · rw [List.getElem?_map, List.getElem?_eq_getElem hj']; rfl
  · refine List.mem_append_right _ (List.mem_map.2 ⟨_, List.mem_of_mem_take (List.getElem_mem hj'), rfl⟩)
set_option maxHeartbeats 4000000 in
set_option maxRecDepth 100000 in
theorem checkcol_any (A : Option Addr) (c c' i : Nat) (cs : List CI) (nm : ByteArray) (kd : Nat) (wd : Value) (w : World) (hc : ColsAt w (.slice A cs.length c) cs) (hi : i ≤ cs.length) (hi6 : i ≤ 6) (hkd : kd ≤ 5) (hwd : ofKind kd w wd) (hnm : nm ∈ allNames) (hne : ∀ (j : Nat) (h : j < cs.length), j < i → (cs[j].nm.toList == nm.toList) = false) :
    Calls Tryz.prog 29 #[.slice A i c', .agg #[.string nm, .int .i64 (kindOf kd), wd]] w fun e w' => e = .returned (.int .i64 0) ∧ Below w.heap.size w w' := by
  obtain ⟨A2, k2, rfl⟩ : ∃ A k, wd = .slice A kd k := CI.wd_form (c := ⟨nm, kd, wd⟩) hwd
  have HBOX : Hid (∀ W, Below (w.heap.size + 1) (w.alloc (.cells #[.string nm, .int .i64 (kindOf kd), .slice A2 kd k2] 39)) W → (W.cell? ⟨w.heap.size, 0, none⟩ = some (.string nm) ∧ W.cell? ⟨w.heap.size, 1, none⟩ = some (.int .i64 (kindOf kd)) ∧ W.cell? ⟨w.heap.size, 2, none⟩ = some (.slice A2 kd k2)) ∧ Below w.heap.size w W) := fun W h => by
    have hk := (h.block w.heap.size (by omega)).trans (Blk.new w _ _)
    exact ⟨⟨Blk.cell hk 0, Blk.cell hk 1, Blk.cell hk 2⟩, ((Below.refl _ _).alloc (Nat.le_refl _) _).trans (h.mono (by omega))⟩
  have HNAMED : Hid (∀ W, Below w.heap.size w W → Calls Tryz.prog _ _ W _) := Lib.hid (fun W h => named_any A c c' i cs nm W (hc.below h) hi hi6 hne)
  have HTW : Hid (∀ W, Below w.heap.size w W → Calls Tryz.prog _ _ W _) := Lib.hid (fun W h => twice_any hkd W (hwd.below h))
  have HWD := Lib.hid hwd
  have HNM := Lib.hid hnm
  clear hc hne hwd hnm
  go_enter Tryz.func29, Tryz.ntmps29
  go_wp2_with (go_at_call 49; refine (isname_any HNM.out _).mono ?_; rintro e w2 ⟨rfl, hb2⟩; rw [World.size_alloc] at hb2; obtain ⟨⟨b0, b1, b2⟩, hbw⟩ := HBOX.out _ hb2)
  go_loopw [14] (fun iv wr => ∃ j : Nat, j ≤ kd ∧ iv = .int .i64 j ∧ Hid (Below (w.heap.size + 1) (w.alloc (.cells #[.string nm, .int .i64 (kindOf kd), .slice A2 kd k2] 39)) wr)) (fun iv _ => kd - (intOf iv).toNat)
  case atStart => exact ⟨0, Nat.zero_le _, rfl, hb2⟩
  case round =>
    obtain ⟨j, hj, rfl, hbel⟩ := hrel
    obtain ⟨⟨r0, r1, r2⟩, hrw⟩ := HBOX.out _ hbel.out
    have hsz1 : w.heap.size + 1 ≤ wr.heap.size := by have := hbel.out.size; rwa [World.size_alloc] at this
    by_cases hgo : j < kd
    · obtain ⟨g, wn, rfl, hg, q0, hwn⟩ := words_at (HWD.out.below hrw) rfl hgo
      go_wp2_with (go_at_call 49; refine (isname_any hwn _).mono ?_; rintro e w3 ⟨rfl, hb3⟩)
      exact ⟨⟨j + 1, by omega, by go_num, hbel.out.trans (hb3.mono hsz1)⟩, by simp [intOf]; omega⟩
    · have hsr := hrw.size
      rcases (show kd = 0 ∨ kd = 1 ∨ kd = 2 ∨ kd = 3 ∨ kd = 4 ∨ kd = 5 by omega) with rfl | rfl | rfl | rfl | rfl | rfl
      · have r1' : wr.cell? ⟨w.heap.size, 1, none⟩ = some (.int .i64 1) := r1
        clear r1
        go_wp2_with (first
          | (go_at_call 50; refine (HNAMED.out _ hrw).mono ?_; rintro e w3 ⟨rfl, hb3⟩; have hw3 := hrw.trans (hb3.mono hsr); obtain ⟨⟨s0, s1, s2⟩, hw3'⟩ := HBOX.out _ (hbel.out.trans (hb3.mono hsz1)))
          | (go_at_call 51; refine (HTW.out _ hw3).mono ?_; rintro e w4 ⟨rfl, hb4⟩))
        go_ret
        exact ⟨rfl, hw3.trans (hb4.mono hw3.size)⟩
      all_goals
        have r1' : wr.cell? ⟨w.heap.size, 1, none⟩ = some (.int .i64 2) := r1
        clear r1
        go_wp2_with (first
          | (go_at_call 50; refine (HNAMED.out _ hrw).mono ?_; rintro e w3 ⟨rfl, hb3⟩; have hw3 := hrw.trans (hb3.mono hsr); obtain ⟨⟨s0, s1, s2⟩, hw3'⟩ := HBOX.out _ (hbel.out.trans (hb3.mono hsz1)))
          | (go_at_call 51; refine (HTW.out _ hw3).mono ?_; rintro e w4 ⟨rfl, hb4⟩))
        go_ret
        exact ⟨rfl, hw3.trans (hb4.mono hw3.size)⟩
end Go.Proofs.YthallgbggkgboaaGreatDoor.Gp
