/-
  Pick, SameInts, Fine, FineTimes: contracts.
-/
import Derived.Test.YtgmdpmhoedjcoaaRows
import Derived.WalkKit
import Derived.WalkSpells
import Derived.WalkLawsBesides
import Derived.Lib.Hide
import Derived.Deep.QuietTactic
import Derived.BigQuiet
import Derived.Below
import Derived.Laws.OwnMore
import Derived.Deep.AppendLies
import Derived.Deep.Draws
import Derived.IntWalk
import Derived.Test.YtgmdpmhoedjcoaaP
namespace Go.Proofs.Ytgmdpmhoedjcoaa
open Go.RowKit

theorem ret_int {k : IntKind} {a b : Int} (h : a = b) : Ending.returned (.int k a) = .returned (.int k b) := by rw [h]
theorem ret_bool {a b : Bool} (h : a = b) : Ending.returned (.bool a) = .returned (.bool b) := by rw [h]

theorem tmod_fix (n m : Int) (h0 : 0 < m) : (if n.tmod m < 0 then n.tmod m + m else n.tmod m) = n % m := by
  have h1 := Int.emod_nonneg n (by omega : m ≠ 0)
  have h2 := Int.emod_lt_of_pos n h0
  by_cases hn : 0 ≤ n
  · rw [Int.tmod_eq_emod_of_nonneg hn, if_neg (by omega)]
  · have e := Int.tmod_eq_emod (a := n) (b := m)
    by_cases hd : m ∣ n
    · rw [if_pos (.inr hd)] at e
      rw [e, if_neg (by omega)]; omega
    · rw [if_neg (by rintro (h | h) <;> contradiction)] at e
      have : (m.natAbs : Int) = m := by omega
      rw [e, if_pos (by omega)]; omega

set_option maxHeartbeats 400000 in
theorem pick_any (n m : Int) (w : World) (h0 : 0 < m) (h1 : m ≤ 1000000) :
    Calls Try.prog 8 #[.int .i64 n, .int .i64 m] w fun e w' => e = .returned (.int .i64 (n % m)) ∧ w = w' := by
  have hm0 : (m == 0) = false := by simp; omega
  have hf := Lib.hid (tmod_fix n m h0)
  have hb : -m < n.tmod m ∧ n.tmod m < m := by
    have := Int.tmod_lt_of_pos n h0
    have h3 := Int.lt_tmod_of_pos n h0
    omega
  obtain ⟨hb1, hb2⟩ := hb
  go_enter Try.func8, Try.ntmps8
  go_wp2
  · go_ret
    refine ⟨ret_int ?_, rfl⟩
    rw [← hf.out, if_pos (by assumption)]
    done
  · go_ret
    refine ⟨ret_int ?_, rfl⟩
    rw [← hf.out, if_neg (by omega)]

/- A slice that reads as a list of cells (nil let in). -/
theorem block_of_add (a : Addr) (n : Nat) : (a.add n).block = a.block := by unfold Addr.add; split <;> rfl
theorem add_of_add (a : Addr) (i j : Nat) : (a.add i).add j = a.add (i + j) := by
  unfold Addr.add
  by_cases hi : i = 0 <;> by_cases hj : j = 0 <;> simp [hi, hj, Nat.add_assoc]

def Reads (w : World) (B size : Nat) (A : Option Addr) (n : Nat) (xs : List Value) : Prop :=
  xs.length = n * size ∧ (0 < n → ∃ ad, A = some ad ∧ ad.block < B ∧ ∀ j u, xs[j]? = some u → w.cell? (ad.add j) = some u)

section
variable {w w' : World} {B B' size n : Nat} {A : Option Addr} {xs : List Value}
theorem Reads.keep (h : Reads w B size A n xs) (hk : ∀ p : Addr, p.block < B → w'.cell? p = w.cell? p) : Reads w' B size A n xs :=
  ⟨h.1, fun hn => by
    obtain ⟨ad, e, hb, hc⟩ := h.2 hn
    exact ⟨ad, e, hb, fun j u hu => (hk _ (by rw [block_of_add]; exact hb)).trans (hc j u hu)⟩⟩
theorem Reads.more (h : Reads w B size A n xs) (hB : B ≤ B') : Reads w B' size A n xs :=
  ⟨h.1, fun hn => by
    obtain ⟨ad, e, hb, hc⟩ := h.2 hn
    exact ⟨ad, e, by omega, hc⟩⟩
theorem Reads.below (h : Reads w B size A n xs) (hb : Below B w w') : Reads w' B size A n xs := h.keep fun _ hp => hb.cell hp
theorem Reads.drewN (h : Reads w B size A n xs) (k : Nat) : Reads (w.drewN k) B size A n xs := h
theorem Reads.alloc (h : Reads w B size A n xs) (hB : B ≤ w.heap.size) (o : Obj) : Reads (w.alloc o) B size A n xs := h.keep fun p hp => World.cell?_alloc_lt w o p (by omega)
theorem Reads.setCell (h : Reads w B size A n xs) {p : Addr} (hB : B ≤ p.block) (u : Value) : Reads (w.setCell p u) B size A n xs :=
  h.keep fun q hq => World.cell?_setCell_other w p q u (fun e => by subst e; omega)
theorem Reads.grown (h : Reads w B size A n xs) {row : Option Nat} (hg : w.grownBy w' row) (hB : B ≤ w.heap.size) (hr : ∀ g, row = some g → B ≤ g) : Reads w' B size A n xs :=
  h.keep fun p hp => World.cell?_of_block (hg.block p.block (by omega) (fun e => by have := hr _ e.symm; omega))
theorem Reads.of_own {base : Nat} {e : TypeId} {c : Nat} (h : w.ownsRow base e size (.slice A n c) n xs) : Reads w w.heap.size size A n xs := by
  refine ⟨h.1, fun hn => ?_⟩
  obtain ⟨g, cap, hv, _, hlt⟩ := h.form hn
  have hA : A = some ⟨g, 0, none⟩ := by injection hv
  subst hA
  exact ⟨_, rfl, hlt, h.cells (g := g) rfl⟩
end

def IntsIn (w : World) (B : Nat) (A : Option Addr) (xs : List Int) : Prop := Reads w B 1 A xs.length (xs.map (Value.int .i64))
theorem IntsIn.at_ {w : World} {B : Nat} {A : Option Addr} {xs : List Int} {k : Nat} (h : IntsIn w B A xs) (hk : k < xs.length) :
    ∃ ad, A = some ad ∧ ad.block < B ∧ w.cell? (ad.add k) = some (.int .i64 xs[k]) := by
  obtain ⟨ad, e, hb, hc⟩ := h.2 (by omega)
  exact ⟨ad, e, hb, hc k _ (by simp [hk])⟩
theorem take_eq_succ {xs ys : List Int} {k : Nat} (h1 : k < xs.length) (h2 : k < ys.length) (ht : xs.take k = ys.take k) (he : xs[k] = ys[k]) : xs.take (k + 1) = ys.take (k + 1) := by
  rw [List.take_succ_eq_append_getElem h1, List.take_succ_eq_append_getElem h2, ht, he]
theorem eq_of_take {xs ys : List Int} {k : Nat} (h1 : xs.length ≤ k) (h2 : ys.length = xs.length) (ht : xs.take k = ys.take k) : xs = ys := by
  rwa [List.take_of_length_le h1, List.take_of_length_le (by omega)] at ht

set_option maxHeartbeats 400000 in
theorem sameInts_any (A B : Option Addr) (c d B1 B2 : Nat) (xs ys : List Int) (w : World) (hx : IntsIn w B1 A xs) (hy : IntsIn w B2 B ys) (hl : xs.length ≤ 9223372036854775806) :
    Calls Try.prog 15 #[.slice A xs.length c, .slice B ys.length d] w fun e w' => e = .returned (.bool (decide (xs = ys))) ∧ ∃ q, w' = w.drewN q := by
  by_cases hlen : xs.length = ys.length
  · have hb : (((xs.length : Int)) != (ys.length : Int)) = false := by simp [hlen]
    have HL := Lib.hid hlen
    clear hlen
    have HX := Lib.hid hx
    have HY := Lib.hid hy
    clear hx hy
    go_enter Try.func15, Try.ntmps15
    go_wp2
    go_loopw [5] (fun i wr => ∃ k q : Nat, k ≤ xs.length ∧ i = .int .i64 k ∧ wr = w.drewN q ∧ Hid (xs.take k = ys.take k)) (fun i _ => xs.length - (intOf i).toNat)
    case atStart => exact ⟨0, 0, Nat.zero_le _, rfl, rfl, rfl⟩
    case round =>
      obtain ⟨k, q, hk, rfl, rfl, ht⟩ := hrel
      by_cases hlt : k < xs.length
      · obtain ⟨ad, rfl, _, hc⟩ := HX.out.at_ hlt
        have hlt2 : k < ys.length := by have := HL.out; omega
        obtain ⟨bd, rfl, _, hd⟩ := HY.out.at_ hlt2
        go_wp2
        go_quiet (fail)
        go_wp2
        · have hne : (xs[k] != ys[k]) = true := by assumption
          go_ret
          refine ⟨?_, _, World.drewN_drewN _ _ _⟩
          rw [decide_eq_false (fun h => (bne_iff_ne.1 hne) (by simp only [h]))]; rfl
        · have hne : (xs[k] != ys[k]) = false := by assumption
          go_roundw
          case rel => exact ⟨k + 1, q + nq, by omega, by go_num, rfl, take_eq_succ hlt hlt2 ht.out (by simpa using hne)⟩
          case measure => simp [intOf]; omega
      · go_wp2
        go_ret
        refine ⟨?_, _, rfl⟩
        rw [decide_eq_true (eq_of_take (by omega) HL.out.symm ht.out)]; rfl
  · have hb : (((xs.length : Int)) != (ys.length : Int)) = true := by simp; omega
    have HL := Lib.hid hlen
    clear hlen
    go_enter Try.func15, Try.ntmps15
    go_wp2
    go_ret
    refine ⟨?_, 0, rfl⟩
    rw [decide_eq_false (fun h => HL.out (by rw [h]))]; rfl

set_option maxHeartbeats 400000 in
theorem fine_any (most wait : Int) (w : World) :
    Calls Try.prog 14 #[.agg #[.int .i64 most, .int .i64 wait]] w fun e w' => e = .returned (.bool (Pl.okRules most wait)) ∧ w' = w.alloc (.cells #[.int .i64 most, .int .i64 wait] 26) := by
  go_enter Try.func14, Try.ntmps14
  go_wp2
  all_goals (go_ret; refine ⟨ret_bool ?_, rfl⟩)
  all_goals (rw [Bool.eq_iff_iff]; simp [Pl.okRules]; try omega)

/- The times' check, as a caller meets it: what is said of slot 'times[i]'. -/
theorem okAt_no {xs : List Int} {k : Nat} (h : k < xs.length) (hx : xs[k] < 0 ∨ 1073741824 < xs[k] ∨ (0 < k ∧ xs[k] < xs.getD (k - 1) 0)) : Pl.okAt xs k = false := by
  have e : xs.getD k 0 = xs[k] := by simp [h]
  unfold Pl.okAt
  rw [e]
  rcases hx with h | h | ⟨h, h'⟩
  · rw [decide_eq_false (by omega)]; rfl
  · rw [decide_eq_false (p := xs[k] ≤ 1073741824) (by omega)]; simp
  · rw [decide_eq_false (p := xs.getD (k - 1) 0 ≤ xs[k]) (by omega), beq_eq_false_iff_ne.2 (by omega)]; simp
theorem okAt_yes {xs : List Int} {k : Nat} (h : k < xs.length) (h1 : 0 ≤ xs[k]) (h2 : xs[k] ≤ 1073741824) (h3 : k = 0 ∨ xs.getD (k - 1) 0 ≤ xs[k]) : Pl.okAt xs k = true := by
  have e : xs.getD k 0 = xs[k] := by simp [h]
  unfold Pl.okAt
  rw [e]
  rw [decide_eq_true h1, decide_eq_true h2]
  rcases h3 with h | h
  · rw [beq_iff_eq.2 h]; rfl
  · rw [decide_eq_true h]; simp
theorem okUpto_no {xs : List Int} {k n : Nat} (h : Pl.okAt xs k = false) (hk : k < n) : Pl.okUpto xs n = false := by
  rcases hb : Pl.okUpto xs n with _ | _
  · rfl
  · rw [Pl.okAt_of hb hk] at h; cases h

set_option maxHeartbeats 1000000 in
theorem fineTimes_any (A : Option Addr) (c B1 : Nat) (xs : List Int) (most wait : Int) (w : World) (hx : IntsIn w B1 A xs) (hl : xs.length ≤ 9223372036854775806) :
    Calls Try.prog 10 #[.slice A xs.length c, .int .i64 most, .int .i64 wait] w fun e w' => e = .returned (.int .i64 (Pl.code xs most wait)) ∧ ∃ q, w' = w.drewN q := by
  have HX := Lib.hid hx
  clear hx
  by_cases hr : 1 ≤ most ∧ most ≤ 300 ∧ 0 ≤ wait ∧ wait ≤ 1073741824
  · have hrb : Hid (Pl.okRules most wait = true) := by simp [Pl.okRules, Hid, hr]
    obtain ⟨r1, r2, r3, r4⟩ := hr
    go_enter Try.func10, Try.ntmps10
    go_wp2
    go_loopw [7] (fun i wr => ∃ k q : Nat, k ≤ xs.length ∧ i = .int .i64 k ∧ wr = w.drewN q ∧ Hid (Pl.okUpto xs k = true)) (fun i _ => xs.length - (intOf i).toNat)
    case atStart => exact ⟨0, 0, Nat.zero_le _, rfl, rfl, rfl⟩
    case round =>
      obtain ⟨k, q, hk, rfl, rfl, ht⟩ := hrel
      by_cases hlt : k < xs.length
      · obtain ⟨ad, rfl, _, hc⟩ := HX.out.at_ hlt
        by_cases h1 : xs[k] < 0
        · go_wp2
          go_quiet (fail)
          go_wp2
          go_ret
          refine ⟨ret_int ?_, _, World.drewN_drewN _ _ _⟩
          unfold Pl.code
          rw [hrb.out, if_neg (by simp), if_pos (okUpto_no (okAt_no hlt (.inl h1)) hlt)]
        · have d1 : decide (xs[k] < 0) = false := decide_eq_false h1
          by_cases h2 : 1073741824 < xs[k]
          · go_wp2
            go_quiet (fail)
            go_wp2
            go_ret
            refine ⟨ret_int ?_, _, World.drewN_drewN _ _ _⟩
            unfold Pl.code
            rw [hrb.out, if_neg (by simp), if_pos (okUpto_no (okAt_no hlt (.inr (.inl h2))) hlt)]
          · have d2 : decide (1073741824 < xs[k]) = false := decide_eq_false h2
            by_cases h3 : 0 < k
            · have d3 : decide ((0 : Int) < (k : Int)) = true := decide_eq_true (by omega)
              have hk1 : k - 1 < xs.length := by omega
              obtain ⟨ad', e', _, hc'⟩ := HX.out.at_ hk1
              cases e'
              have e0 := Lib.hid (show xs.getD (k - 1) 0 = xs[k - 1] by simp [hk1])
              have w1 : IntKind.i64.wrap ((k : Int) - 1) = ((k - 1 : Nat) : Int) := by rw [IntWalk.i64_in _ (by omega)]; omega
              by_cases h4 : xs[k] < xs[k - 1]
              · have d4 : decide (xs[k] < xs[k - 1]) = true := decide_eq_true h4
                go_wp2
                go_quiet (fail)
                go_wp2
                go_ret
                refine ⟨ret_int ?_, _, World.drewN_drewN _ _ _⟩
                unfold Pl.code
                rw [hrb.out, if_neg (by simp), if_pos (okUpto_no (okAt_no hlt (.inr (.inr ⟨h3, by rw [e0.out]; exact h4⟩))) hlt)]
              · have d4 : decide (xs[k] < xs[k - 1]) = false := decide_eq_false h4
                go_wp2
                go_quiet (fail)
                go_wp2
                go_roundw
                case rel => exact ⟨k + 1, q + nq, by omega, by go_num, rfl, by show Pl.okUpto xs (k + 1) = true; rw [Pl.okUpto_succ, ht.out, okAt_yes hlt (by omega) (by omega) (.inr (by rw [e0.out]; omega))]; rfl⟩
                case measure => simp [intOf]; omega
            · have d3 : decide ((0 : Int) < (k : Int)) = false := decide_eq_false (by omega)
              go_wp2
              go_quiet (fail)
              go_wp2
              go_roundw
              case rel => exact ⟨k + 1, q + nq, by omega, by go_num, rfl, by show Pl.okUpto xs (k + 1) = true; rw [Pl.okUpto_succ, ht.out, okAt_yes hlt (by omega) (by omega) (.inl (by omega))]; rfl⟩
              case measure => simp [intOf]; omega
      · have hkl := Lib.hid (show k = xs.length by omega)
        go_wp2
        · go_ret
          refine ⟨ret_int ?_, _, rfl⟩
          unfold Pl.code
          rw [hrb.out, if_neg (by simp), if_neg (by rw [← hkl.out, ht.out]; simp), if_pos (by omega)]
        · go_ret
          refine ⟨ret_int ?_, _, rfl⟩
          unfold Pl.code
          rw [hrb.out, if_neg (by simp), if_neg (by rw [← hkl.out, ht.out]; simp), if_neg (by omega)]
  · have hrb : Hid (Pl.okRules most wait = false) := by
      simp [Pl.okRules, Hid]; omega
    go_enter Try.func10, Try.ntmps10
    go_wp2
    all_goals (go_ret; refine ⟨ret_int ?_, 0, rfl⟩; unfold Pl.code; rw [if_pos hrb.out])

end Go.Proofs.Ytgmdpmhoedjcoaa
