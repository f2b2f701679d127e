/-
  'same': the program's groups and the reference's are alike.
-/
import Derived.Test.YtgmdpmhoedjcoaaG
namespace Go.Proofs.Ytgmdpmhoedjcoaa
open Go.RowKit

theorem quiet_add {P : Program} {f : FuncId} {args : Array Value} {w : World} {a n : Nat} {v : Value}
    (h : Calls P f args (w.drewN (a + n)) fun e w' => e = .returned v ∧ ∃ m, w' = (w.drewN (a + n)).drewN m) :
    Calls P f args (w.drewN (a + n)) fun e w'' => e = .returned v ∧ ∃ m, w'' = w.drewN (a + m) :=
  h.mono fun _ _ ⟨he, m, hm⟩ => ⟨he, n + m, by rw [hm, World.drewN_drewN, Nat.add_assoc]⟩

theorem flat_nth (ba : Nat) : ∀ (gs : List Pl.Grp) (i : Nat) (h : i < gs.length), (flat ba gs)[i * 2]? = some (.slice (some ⟨ba, gs[i].fr, none⟩) (gs[i].to - gs[i].fr) (gs[i].to - gs[i].fr)) ∧ (flat ba gs)[i * 2 + 1]? = some (.int .i64 gs[i].time)
  | _ :: _, 0, _ => ⟨rfl, rfl⟩
  | x :: gs, i + 1, h => by
    have ih := flat_nth ba gs i (by simpa using h)
    simp only [flat]
    rw [show (i + 1) * 2 = i * 2 + 1 + 1 by omega, List.getElem?_cons_succ, List.getElem?_cons_succ, List.getElem?_cons_succ, List.getElem?_cons_succ]
    simpa using ih
theorem flatP_nth : ∀ (l : List Item) (i : Nat) (h : i < l.length), (flatP l)[i * 2]? = some l[i].2 ∧ (flatP l)[i * 2 + 1]? = some (.int .i64 l[i].1.time)
  | _ :: _, 0, _ => ⟨rfl, rfl⟩
  | x :: l, i + 1, h => by
    have ih := flatP_nth l i (by simpa using h)
    simp only [flatP]
    rw [show (i + 1) * 2 = i * 2 + 1 + 1 by omega, List.getElem?_cons_succ, List.getElem?_cons_succ, List.getElem?_cons_succ, List.getElem?_cons_succ]
    simpa using ih
theorem seq_ints {w : World} {base : Nat} {a : Value} {fr n : Nat} (h : w.ownsRow base 3 1 a n (seqV fr n)) : ∃ A c, a = .slice A n c ∧ IntsIn w w.heap.size A ((List.range n).map fun i => ((fr + i : Nat) : Int)) := by
  have e : seqV fr n = ((List.range n).map fun i => ((fr + i : Nat) : Int)).map (Value.int .i64) := by simp [seqV]
  have hl : ((List.range n).map fun i => ((fr + i : Nat) : Int)).length = n := by simp
  rw [e] at h
  obtain ⟨A, c, hv, hI⟩ := own_ints (xs := (List.range n).map fun i => ((fr + i : Nat) : Int)) (w := w) (base := base) (v := a) (by rw [hl]; exact h)
  rw [hl] at hv
  exact ⟨A, c, hv, hI⟩

set_option maxHeartbeats 1000000 in
theorem same_any (W : World) (b1 b2 b3 n ba c1 c2 : Nat) (A1 A2 : Option Addr) (gs : List Pl.Grp) (l : List Item) (hl : l.map (·.1) = gs)
    (h1 : W.ownsRow b1 40 2 (.slice A1 gs.length c1) gs.length (flat ba gs)) (hB : Blk W ba 3 (fillA n n)) (hfine : ∀ g ∈ gs, g.fr ≤ g.to ∧ g.to ≤ n)
    (h2 : W.ownsRow b2 44 2 (.slice A2 l.length c2) l.length (flatP l)) (h3 : GOwn W b3 l) (hn : n ≤ 65536) (hg : gs.length ≤ 65536) :
    Calls Try.prog 12 #[.slice A1 gs.length c1, .slice A2 l.length c2] W fun e w' => e = .returned (.bool true) ∧ ∃ q, w' = W.drewN q := by
  have hll : l.length = gs.length := by rw [← hl]; simp
  have hlb : ((gs.length : Int) != (l.length : Int)) = false := by simp [hll]
  have HL := Lib.hid hl
  have HLL := Lib.hid hll
  have H1 := Lib.hid h1
  have H2 := Lib.hid h2
  have H3 := Lib.hid h3
  have HB := Lib.hid hB
  have HF := Lib.hid hfine
  clear hl hll h1 h2 h3 hB hfine
  go_enter Try.func12, Try.ntmps12
  go_wp2
  go_loopw [5] (fun k wr => ∃ i q : Nat, i ≤ gs.length ∧ k = .int .i64 i ∧ wr = W.drewN q) (fun k _ => gs.length - (intOf k).toNat)
  case atStart => exact ⟨0, 0, Nat.zero_le _, rfl, rfl⟩
  case round =>
    obtain ⟨i, q, hi, rfl, rfl⟩ := hrel
    by_cases hlt : i < gs.length
    · have hlt2 : i < l.length := by have := HLL.out; omega
      obtain ⟨g1, cap1, ev, _, _⟩ := H1.out.form (by omega)
      cases ev
      obtain ⟨g2, cap2, ev, _, _⟩ := H2.out.form (by omega)
      cases ev
      have ce : l[i].1 = gs[i] := by have := HL.out; subst this; simp
      obtain ⟨Aa, ca, ea, hIa⟩ := seq_ints (H3.out l[i] (List.getElem_mem hlt2))
      rw [ce] at ea hIa
      have n1 := flat_nth ba gs i hlt
      have n2 := flatP_nth l i hlt2
      rw [ea, ce] at n2
      have fi := HF.out gs[i] (List.getElem_mem hlt)
      have hIb := part_ints HB.out fi.1 fi.2
      have cA0 : W.cell? ⟨g1, i * 2, none⟩ = some (.slice (some ⟨ba, gs[i].fr, none⟩) (gs[i].to - gs[i].fr) (gs[i].to - gs[i].fr)) := by rw [H1.out.cellAt _ (by omega)]; exact n1.1
      have cA1 : W.cell? ⟨g1, i * 2 + 1, none⟩ = some (.int .i64 gs[i].time) := by rw [H1.out.cellAt _ (by omega)]; exact n1.2
      have cB0 : W.cell? ⟨g2, i * 2, none⟩ = some (.slice Aa (gs[i].to - gs[i].fr) ca) := by rw [H2.out.cellAt _ (by omega)]; exact n2.1
      have cB1 : W.cell? ⟨g2, i * 2 + 1, none⟩ = some (.int .i64 gs[i].time) := by rw [H2.out.cellAt _ (by omega)]; exact n2.2
      have hq := fun (V : World) (x : IntsIn V W.heap.size (some ⟨ba, gs[i].fr, none⟩) _) (y : IntsIn V W.heap.size Aa _) => sameInts_any (some ⟨ba, gs[i].fr, none⟩) Aa (gs[i].to - gs[i].fr) ca W.heap.size W.heap.size ((List.range (gs[i].to - gs[i].fr)).map fun j => ((gs[i].fr + j : Nat) : Int)) ((List.range (gs[i].to - gs[i].fr)).map fun j => ((gs[i].fr + j : Nat) : Int)) V x y (by simp; omega)
      simp only [List.length_map, List.length_range, decide_true] at hq
      have hq2 := fun q => hq (W.drewN q) (Reads.drewN hIb q) (Reads.drewN hIa q)
      have HQ := Lib.hid hq2
      have cl2 : (i : Int) < (l.length : Int) := by omega
      clear hq hq2 hIa hIb n1 n2 fi ea ce
      generalize gs[i].to - gs[i].fr = m at *
      generalize gs[i].fr = fr at *
      generalize gs[i].time = tm at *
      go_wp2
      go_quiet ((go_at_call 15; exact quiet_add (HQ.out _)))
      go_wp2
      go_roundw
      case rel => exact ⟨i + 1, q + nq, by omega, by go_num, rfl⟩
      case measure => simp [intOf]; omega
    · go_wp2
      go_ret
      exact ⟨rfl, _, rfl⟩
end Go.Proofs.Ytgmdpmhoedjcoaa
