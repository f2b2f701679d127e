/-
  The stable sort by labels: its plain law, the comparison. The stable sort by labels: insertion sort, walked. The stable sort by labels; dice.New; part.Folds.
-/
import Derived.Test.YthallgbggkgboaaGreatDoorQc
import Derived.Deep.QuietTactic
namespace Go.Proofs.YthallgbggkgboaaGreatDoor.Gp
open Go Go.RowKit Ut

def labP (lab : List Nat) (x : Nat) : Nat := lab.getD x 0
def insP (lab : List Nat) : Nat → List Nat → List Nat
  | 0, l => l
  | j + 1, l => if labP lab (l.getD (j + 1) 0) < labP lab (l.getD j 0) then insP lab j (swapL l (j + 1) j) else l
theorem insP_zero (lab l : List Nat) : insP lab 0 l = l := rfl
theorem insP_yes {lab l : List Nat} {j : Nat} (h : labP lab (l.getD (j + 1) 0) < labP lab (l.getD j 0)) : insP lab (j + 1) l = insP lab j (swapL l (j + 1) j) := by
  conv => lhs; unfold insP
  rw [if_pos h]
theorem insP_no {lab l : List Nat} {j : Nat} (h : ¬ labP lab (l.getD (j + 1) 0) < labP lab (l.getD j 0)) : insP lab (j + 1) l = l := by
  conv => lhs; unfold insP
  rw [if_neg h]
def srtP (lab : List Nat) : Nat → Nat → List Nat → List Nat
  | 0, _, l => l
  | f + 1, i, l => srtP lab f (i + 1) (insP lab i l)
theorem srtP_succ (lab : List Nat) (f i : Nat) (l : List Nat) : srtP lab (f + 1) i l = srtP lab f (i + 1) (insP lab i l) := rfl
theorem insP_length (lab : List Nat) : ∀ (j : Nat) (l : List Nat), (insP lab j l).length = l.length
  | 0, _ => rfl
  | j + 1, l => by
    by_cases h : labP lab (l.getD (j + 1) 0) < labP lab (l.getD j 0)
    · rw [insP_yes h, insP_length lab j, swapL_length]
    · rw [insP_no h]
theorem swapL_all {l : List Nat} {i j m : Nat} (h : ∀ x ∈ l, x < m) (hm : 0 < m) : ∀ x ∈ swapL l i j, x < m := by
  have hd : ∀ k, l.getD k 0 < m := fun k => by
    rw [List.getD_eq_getElem?_getD]
    cases hk : l[k]? with
    | none => exact hm
    | some x => exact h x (List.mem_of_getElem? hk)
  intro x hx
  unfold swapL at hx
  rcases List.mem_or_eq_of_mem_set hx with hx | rfl
  · rcases List.mem_or_eq_of_mem_set hx with hx | rfl
    · exact h x hx
    · exact hd j
  · exact hd i
theorem srtP_length (lab : List Nat) : ∀ (f i : Nat) (l : List Nat), (srtP lab f i l).length = l.length
  | 0, _, _ => rfl
  | f + 1, i, l => by rw [srtP_succ, srtP_length lab f, insP_length]
/- Labels in memory. -/
structure Lab (w : World) (B G n c : Nat) (lab : List Nat) : Prop where
  blk : Blk w B 22 #[.slice (some ⟨G, 0, none⟩) n c]
  lt : G < w.heap.size
  len : lab.length = n
  cell : ∀ (j : Nat) (h : j < lab.length), w.cell? ⟨G, j, none⟩ = some (.int .i64 (lab[j] : Int))
theorem Lab.kept {w w' : World} {B G n c : Nat} {lab : List Nat} {p : Nat → Prop} (h : Lab w B G n c lab) (ha : Alt w w' p) (hB : ¬ p B) (hG : ¬ p G) : Lab w' B G n c lab :=
  ⟨Blk.kept h.blk ha hB, Nat.lt_of_lt_of_le h.lt ha.size, h.len, fun j hj => (World.cell?_of_block (ha.block G h.lt hG)).trans (h.cell j hj)⟩
theorem Lab.at_ {w : World} {B G n c : Nat} {lab : List Nat} (h : Lab w B G n c lab) {x : Nat} (hx : x < n) : w.cell? ⟨G, x, none⟩ = some (.int .i64 (labP lab x : Int)) := by
  have hl : x < lab.length := by rw [h.len]; exact hx
  rw [h.cell x hl]
  unfold labP
  rw [List.getD_eq_getElem?_getD, List.getElem?_eq_getElem hl]; rfl
def cmpN (a b : Nat) : Int := if a < b then -1 else if b < a then 1 else 0
theorem cmpN_neg (a b : Nat) : decide (cmpN a b < 0) = decide (a < b) := by
  unfold cmpN
  by_cases h : a < b
  · rw [if_pos h]; simp [h]
  · rw [if_neg h]
    by_cases h' : b < a
    · rw [if_pos h']; simp [h]
    · rw [if_neg h']; simp [h]
set_option maxHeartbeats 1000000 in
set_option maxRecDepth 100000 in
theorem compare_any (a b : Nat) (w : World) : Calls Tryz.prog 36 #[.int .i64 (a : Int), .int .i64 (b : Int)] w fun e w' => e = .returned (.int .i64 (cmpN a b)) ∧ w' = w := by
  go_enter Tryz.func36, Tryz.ntmps36
  by_cases h1 : a < b
  · have d1 : (a : Int) < (b : Int) := by omega
    have e : cmpN a b = -1 := by unfold cmpN; rw [if_pos h1]
    replace e := Lib.hid e
    clear h1
    go_wp2
    go_ret
    exact ⟨ret_int e.out.symm, rfl⟩
  · by_cases h2 : b < a
    · have d1 : ¬ (a : Int) < (b : Int) := by omega
      have d2 : (b : Int) < (a : Int) := by omega
      have e : cmpN a b = 1 := by unfold cmpN; rw [if_neg h1, if_pos h2]
      replace e := Lib.hid e
      clear h1 h2
      go_wp2
      go_ret
      exact ⟨ret_int e.out.symm, rfl⟩
    · have d1 : ¬ (a : Int) < (b : Int) := by omega
      have d2 : ¬ (b : Int) < (a : Int) := by omega
      have e : cmpN a b = 0 := by unfold cmpN; rw [if_neg h1, if_neg h2]
      replace e := Lib.hid e
      clear h1 h2
      go_wp2
      go_ret
      exact ⟨ret_int e.out.symm, rfl⟩
set_option maxHeartbeats 1000000 in
set_option maxRecDepth 100000 in
theorem even1_any {w : World} {B G n c x y : Nat} {lab : List Nat} (h : Lab w B G n c lab) (hx : x < n) (hy : y < n) : Calls Tryz.prog 35 #[.int .i64 (x : Int), .int .i64 (y : Int), .pointer (some ⟨B, 0, none⟩)] w fun e w' => e = .returned (.int .i64 (cmpN (labP lab x) (labP lab y))) ∧ ∃ m, w' = w.drewN m := by
  have c0 : w.cell? ⟨B, 0, none⟩ = some (.slice (some ⟨G, 0, none⟩) n c) := h.blk.cell 0
  have c1 := h.at_ hx
  have c2 := h.at_ hy
  clear h
  generalize labP lab x = a at *
  generalize labP lab y = b at *
  go_enter Tryz.func35, Tryz.ntmps35
  go_wp2
  go_quiet (first | (go_at_call 36; refine Calls.quiet_of_same (compare_any _ _ _)))
  all_goals go_wp2
  all_goals go_ret
  all_goals exact ⟨rfl, _, rfl⟩
end Go.Proofs.YthallgbggkgboaaGreatDoor.Gp
namespace Go.Proofs.YthallgbggkgboaaGreatDoor.Gp
open Go Go.RowKit Ut

theorem Lab.drewN {w : World} {B G n c m : Nat} {lab : List Nat} (h : Lab w B G n c lab) : Lab (w.drewN m) B G n c lab := ⟨h.blk, h.lt, h.len, h.cell⟩
theorem all_getD {l : List Nat} {n i : Nat} (h : ∀ x ∈ l, x < n) (hi : i < l.length) : l.getD i 0 < n := by
  rw [getD_at hi]; exact h _ (List.getElem_mem hi)
def evenV (B : Nat) : Value := .func (.func 35) #[] #[.pointer (some ⟨B, 0, none⟩)]
set_option maxHeartbeats 4000000 in
set_option maxRecDepth 100000 in
theorem ins_any {w : World} {O n cO B G c : Nat} {lab l0 : List Nat} (hL : Lab w B G n c lab) (hO : Blk w O 3 (ints l0)) (hlen : l0.length = n) (hall : ∀ x ∈ l0, x < n) (h1 : 1 ≤ n) (h12 : n ≤ 12) (hBO : B ≠ O) (hGO : G ≠ O) :
    Calls Tryz.prog 87 #[.slice (some ⟨O, 0, none⟩) n cO, .int .i64 0, .int .i64 (n : Int), .func (.func 35) #[] #[.pointer (some ⟨B, 0, none⟩)]] w fun e w' => e = .returned (.tuple #[]) ∧ Blk w' O 3 (ints (srtP lab (n - 1) 1 l0)) ∧ Alt w w' (fun k => k = O) := by
  have HL := Lib.hid hL
  have HO := Lib.hid hO
  have HA := Lib.hid hall
  have HLEN := Lib.hid hlen
  have HBO := Lib.hid hBO
  have HGO := Lib.hid hGO
  clear hL hO hall hlen hBO hGO
  go_enter Tryz.func87, Tryz.ntmps87
  go_wp2
  go_loopw [8] (fun iv wr => ∃ (i : Nat) (l : List Nat), 1 ≤ i ∧ i ≤ n ∧ iv = .int .i64 (i : Int) ∧ Hid (l.length = n) ∧ Hid (∀ x ∈ l, x < n) ∧ Hid (Blk wr O 3 (ints l)) ∧ Hid (Alt w wr (fun k => k = O)) ∧ Hid (srtP lab (n - i) i l = srtP lab (n - 1) 1 l0)) (fun iv _ => n - (intOf iv).toNat)
  case atStart => exact ⟨1, l0, Nat.le_refl _, h1, rfl, HLEN.out, HA.out, HO.out, Alt.refl _ _, rfl⟩
  case round =>
    obtain ⟨i, l, hi1, hin, rfl, hll, hla, hrow, halt, hsrt⟩ := hrel
    by_cases hgo : i < n
    · go_wp2
      generalize wr = wx at *
      go_loopw [9] (fun iv wr => ∃ (j : Nat) (l' : List Nat), j ≤ i ∧ iv = .int .i64 (j : Int) ∧ Hid (l'.length = n) ∧ Hid (∀ x ∈ l', x < n) ∧ Hid (Blk wr O 3 (ints l')) ∧ Hid (Alt w wr (fun k => k = O)) ∧ Hid (insP lab j l' = insP lab i l)) (fun iv _ => (intOf iv).toNat)
      case atStart => exact ⟨i, l, Nat.le_refl _, rfl, hll.out, hla.out, hrow.out, halt.out, rfl⟩
      case round =>
        obtain ⟨j, l', hji, rfl, hll', hla', hrow', halt', hins⟩ := hrel
        by_cases hj0 : 0 < j
        · obtain ⟨m, rfl⟩ : ∃ m, j = m + 1 := ⟨j - 1, by omega⟩
          have hml : m + 1 < l'.length := by rw [hll'.out]; omega
          have hm0 : m < l'.length := by omega
          have hx : l'[m + 1] < n := hla'.out _ (List.getElem_mem hml)
          have hy : l'[m] < n := hla'.out _ (List.getElem_mem hm0)
          have c1 := (hrow'.out.cell (m + 1)).trans (ints_at hml)
          have c2 := (hrow'.out.cell m).trans (ints_at hm0)
          have hLr := HL.out.kept halt'.out HBO.out HGO.out
          have hE : Hid (∀ q, Calls Tryz.prog 35 #[.int .i64 ((l'[m + 1] : Nat) : Int), .int .i64 ((l'[m] : Nat) : Int), .pointer (some ⟨B, 0, none⟩)] (wr.drewN q) fun e w' => e = .returned (.int .i64 (cmpN (labP lab l'[m + 1]) (labP lab l'[m]))) ∧ ∃ k, w' = (wr.drewN q).drewN k) := fun q => even1_any hLr.drewN hx hy
          clear hLr
          have hk4 : Hid (Blk ((wr.setCell ⟨O, m + 1, none⟩ (.int .i64 ((l'[m] : Nat) : Int))).setCell ⟨O, m, none⟩ (.int .i64 ((l'[m + 1] : Nat) : Int))) O 3 (ints (swapL l' (m + 1) m))) := by
            have h3 := hrow'.out.set_ (m + 1) (.int .i64 ((l'[m] : Nat) : Int))
            rw [ints_set] at h3
            have h4 := h3.set_ m (.int .i64 ((l'[m + 1] : Nat) : Int))
            rw [ints_set] at h4
            have hsw : (l'.set (m + 1) l'[m]).set m l'[m + 1] = swapL l' (m + 1) m := by unfold swapL; rw [getD_at hml, getD_at hm0]
            rw [hsw] at h4
            exact h4
          have fz := hrow'.out.frozen
          have hX := cmpN_neg (labP lab l'[m + 1]) (labP lab l'[m])
          by_cases hlt : labP lab l'[m + 1] < labP lab l'[m]
          · have hI : Hid (insP lab (m + 1) l' = insP lab m (swapL l' (m + 1) m)) := insP_yes (by rw [getD_at hml, getD_at hm0]; exact hlt)
            have hC : cmpN (labP lab l'[m + 1]) (labP lab l'[m]) < 0 := by simpa [hlt] using hX
            have hD : decide (cmpN (labP lab l'[m + 1]) (labP lab l'[m]) < 0) = true := by simpa using hC
            clear hX hlt
            generalize cmpN (labP lab l'[m + 1]) (labP lab l'[m]) = cc at *
            go_wp2
            go_quiet (first | (go_at_call 35; refine Calls.quiet_of (hE.out _)))
            go_wp2
            go_region
            all_goals go_wp2
            all_goals
              refine ⟨⟨m, swapL l' (m + 1) m, by omega, rfl, by rw [swapL_length]; exact hll'.out, swapL_all hla'.out (by omega), hk4.out, ((halt'.out.drewN _).set_ rfl _).set_ rfl _, hI.out.symm.trans hins.out⟩, by simp [intOf]⟩
          · have hI : Hid (insP lab (m + 1) l' = l') := insP_no (by rw [getD_at hml, getD_at hm0]; exact hlt)
            have hC : ¬ cmpN (labP lab l'[m + 1]) (labP lab l'[m]) < 0 := by simpa [hlt] using hX
            have hD : decide (cmpN (labP lab l'[m + 1]) (labP lab l'[m]) < 0) = false := by simpa using hC
            clear hX hlt
            generalize cmpN (labP lab l'[m + 1]) (labP lab l'[m]) = cc at *
            go_wp2
            go_quiet (first | (go_at_call 35; refine Calls.quiet_of (hE.out _)))
            go_wp2
            have hx := (hI.out.symm.trans hins.out)
            refine ⟨⟨i + 1, l', by omega, by omega, by go_num, hll'.out, hla'.out, hrow'.out, halt'.out.drewN _, ?_⟩, by simp [intOf]; omega⟩
            show srtP lab (n - (i + 1)) (i + 1) l' = _
            rw [hx, ← srtP_succ, show n - (i + 1) + 1 = n - i by omega]
            exact hsrt.out
        · have hd : decide ((j : Int) > 0) = false := by simp; omega
          have hd2 : ¬ (0 : Int) < (j : Int) := by omega
          replace hji := Lib.hid hji
          go_wp2
          go_quiet (fail)
          go_wp2
          have hji0 := hji.out
          have hj00 : j = 0 := by omega
          subst hj00
          have hx : l' = insP lab i l := hins.out
          refine ⟨⟨i + 1, l', by omega, by omega, by go_num, hll'.out, hla'.out, hrow'.out, halt'.out.drewN _, ?_⟩, by simp [intOf]; omega⟩
          show srtP lab (n - (i + 1)) (i + 1) l' = _
          rw [hx, ← srtP_succ, show n - (i + 1) + 1 = n - i by omega]
          exact hsrt.out
    · have hin2 : i = n := by omega
      subst hin2
      go_wp2
      refine bodyPost_end (results_none rfl _ _ _) rfl ?_
      have hS := hsrt.out
      rw [Nat.sub_self] at hS
      have hS2 : l = srtP lab (i - 1) 1 l0 := hS
      rw [← hS2]
      exact ⟨rfl, hrow.out, halt.out⟩
end Go.Proofs.YthallgbggkgboaaGreatDoor.Gp
namespace Go.Proofs.YthallgbggkgboaaGreatDoor.Gp
open Go Go.RowKit Ut

set_option maxHeartbeats 1000000 in
set_option maxRecDepth 100000 in
theorem stable_any {w : World} {O n cO B G c : Nat} {lab l0 : List Nat} (hL : Lab w B G n c lab) (hO : Blk w O 3 (ints l0)) (hlen : l0.length = n) (hall : ∀ x ∈ l0, x < n) (h1 : 1 ≤ n) (h12 : n ≤ 12) (hBO : B ≠ O) (hGO : G ≠ O) :
    Calls Tryz.prog 58 #[.slice (some ⟨O, 0, none⟩) n cO, .int .i64 (n : Int), .func (.func 35) #[] #[.pointer (some ⟨B, 0, none⟩)]] w fun e w' => e = .returned (.tuple #[]) ∧ Blk w' O 3 (ints (srtP lab (n - 1) 1 l0)) ∧ Alt w w' (fun k => k = O) := by
  have HI : Hid (Calls Tryz.prog _ _ w _) := Lib.hid (ins_any (cO := cO) hL hO hlen hall h1 h12 hBO hGO)
  clear hL hO hlen hall hBO hGO
  go_enter Tryz.func58, Tryz.ntmps58
  go_wp2
  go_loopw [7, 8] (fun jv iv wr => jv = .int .i64 0 ∧ iv = .int .i64 20 ∧ wr = w) (fun _ _ _ => 0)
  case atStart => exact ⟨rfl, rfl, rfl⟩
  case round =>
    obtain ⟨rfl, rfl, rfl⟩ := hrel
    have d : decide ((20 : Int) ≤ (n : Int)) = false := by simp; omega
    have d2 : ¬ (20 : Int) ≤ (n : Int) := by omega
    go_wp2_with (go_at_call 87; refine HI.out.mono ?_; rintro e w2 ⟨rfl, hb, ha⟩)
    have HB := Lib.hid hb
    have HA := Lib.hid ha
    clear hb ha
    generalize hw2 : w2 = w3 at *
    go_loopw [6] (fun iv wr => iv = .int .i64 20 ∧ wr = w3) (fun _ _ => 0)
    case atStart => exact ⟨rfl, rfl⟩
    case round =>
      obtain ⟨rfl, rfl⟩ := hrel
      have d3 : decide ((20 : Int) < (n : Int)) = false := by simp; omega
      have d4 : ¬ (20 : Int) < (n : Int) := by omega
      go_wp2
      refine bodyPost_end (results_none rfl _ _ _) rfl ?_
      exact ⟨rfl, HB.out, HA.out⟩
set_option maxHeartbeats 1000000 in
set_option maxRecDepth 100000 in
theorem sortStable_any {w : World} {O n cO B G c : Nat} {lab l0 : List Nat} (hL : Lab w B G n c lab) (hO : Blk w O 3 (ints l0)) (hlen : l0.length = n) (hall : ∀ x ∈ l0, x < n) (h1 : 1 ≤ n) (h12 : n ≤ 12) (hBO : B ≠ O) (hGO : G ≠ O) :
    Calls Tryz.prog 34 #[.slice (some ⟨O, 0, none⟩) n cO, .func (.func 35) #[] #[.pointer (some ⟨B, 0, none⟩)]] w fun e w' => e = .returned (.tuple #[]) ∧ Blk w' O 3 (ints (srtP lab (n - 1) 1 l0)) ∧ Alt w w' (fun k => k = O) := by
  have HI : Hid (Calls Tryz.prog _ _ w _) := Lib.hid (stable_any (cO := cO) hL hO hlen hall h1 h12 hBO hGO)
  clear hL hO hlen hall hBO hGO
  go_enter Tryz.func34, Tryz.ntmps34
  go_wp2_with (go_at_call 58; refine HI.out.mono ?_; rintro e w2 ⟨rfl, hb, ha⟩)
  refine bodyPost_end (results_none rfl _ _ _) rfl ?_
  exact ⟨rfl, hb, ha⟩
set_option maxRecDepth 100000 in
theorem new_any (s : Nat) (w : World) : Calls Tryz.prog 18 #[.int .u64 (s : Int)] w fun e w' => e = .returned (.pointer (some ⟨w.heap.size, 0, none⟩)) ∧ w' = w.alloc (.cells #[.int .u64 (s : Int)] 112) := by
  go_enter Tryz.func18, Tryz.ntmps18
  go_wp2
  go_ret
  exact ⟨rfl, rfl⟩
end Go.Proofs.YthallgbggkgboaaGreatDoor.Gp
