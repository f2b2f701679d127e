/-
  SameInts, Fine: contracts; words for slices.
-/
import Derived.Test.YtjohbgkdhppglaaDoorRows
import Derived.WalkKit
import Derived.WalkSpells
import Derived.WalkLawsBesides
import Derived.Lib.Hide
import Derived.Deep.QuietTactic
import Derived.BigQuiet
import Derived.Below
import Derived.Laws.OwnMore
import Derived.Deep.AppendLies
import Derived.Deep.Draws
import Derived.IntWalk
import Derived.Test.YtjohbgkdhppglaaDoorP
namespace Go.Proofs.YtjohbgkdhppglaaDoor
open Go.RowKit

theorem ret_int {k : IntKind} {a b : Int} (h : a = b) : Ending.returned (.int k a) = .returned (.int k b) := by rw [h]
theorem ret_bool {a b : Bool} (h : a = b) : Ending.returned (.bool a) = .returned (.bool b) := by rw [h]

/- A slice that reads as a list of cells (nil let in). -/
theorem block_of_add (a : Addr) (n : Nat) : (a.add n).block = a.block := by unfold Addr.add; split <;> rfl
theorem add_of_add (a : Addr) (i j : Nat) : (a.add i).add j = a.add (i + j) := by
  unfold Addr.add
  by_cases hi : i = 0 <;> by_cases hj : j = 0 <;> simp [hi, hj, Nat.add_assoc]

def Reads (w : World) (B size : Nat) (A : Option Addr) (n : Nat) (xs : List Value) : Prop :=
  xs.length = n * size ∧ (0 < n → ∃ ad, A = some ad ∧ ad.block < B ∧ ∀ j u, xs[j]? = some u → w.cell? (ad.add j) = some u)

section
variable {w w' : World} {B B' size n : Nat} {A : Option Addr} {xs : List Value}
theorem Reads.keep (h : Reads w B size A n xs) (hk : ∀ p : Addr, p.block < B → w'.cell? p = w.cell? p) : Reads w' B size A n xs :=
  ⟨h.1, fun hn => by
    obtain ⟨ad, e, hb, hc⟩ := h.2 hn
    exact ⟨ad, e, hb, fun j u hu => (hk _ (by rw [block_of_add]; exact hb)).trans (hc j u hu)⟩⟩
theorem Reads.more (h : Reads w B size A n xs) (hB : B ≤ B') : Reads w B' size A n xs :=
  ⟨h.1, fun hn => by
    obtain ⟨ad, e, hb, hc⟩ := h.2 hn
    exact ⟨ad, e, by omega, hc⟩⟩
theorem Reads.below (h : Reads w B size A n xs) (hb : Below B w w') : Reads w' B size A n xs := h.keep fun _ hp => hb.cell hp
theorem Reads.drewN (h : Reads w B size A n xs) (k : Nat) : Reads (w.drewN k) B size A n xs := h
theorem Reads.alloc (h : Reads w B size A n xs) (hB : B ≤ w.heap.size) (o : Obj) : Reads (w.alloc o) B size A n xs := h.keep fun p hp => World.cell?_alloc_lt w o p (by omega)
theorem Reads.setCell (h : Reads w B size A n xs) {p : Addr} (hB : B ≤ p.block) (u : Value) : Reads (w.setCell p u) B size A n xs :=
  h.keep fun q hq => World.cell?_setCell_other w p q u (fun e => by subst e; omega)
theorem Reads.grown (h : Reads w B size A n xs) {row : Option Nat} (hg : w.grownBy w' row) (hB : B ≤ w.heap.size) (hr : ∀ g, row = some g → B ≤ g) : Reads w' B size A n xs :=
  h.keep fun p hp => World.cell?_of_block (hg.block p.block (by omega) (fun e => by have := hr _ e.symm; omega))
theorem Reads.of_own {base : Nat} {e : TypeId} {c : Nat} (h : w.ownsRow base e size (.slice A n c) n xs) : Reads w w.heap.size size A n xs := by
  refine ⟨h.1, fun hn => ?_⟩
  obtain ⟨g, cap, hv, _, hlt⟩ := h.form hn
  have hA : A = some ⟨g, 0, none⟩ := by injection hv
  subst hA
  exact ⟨_, rfl, hlt, h.cells (g := g) rfl⟩
end

def IntsIn (w : World) (B : Nat) (A : Option Addr) (xs : List Int) : Prop := Reads w B 1 A xs.length (xs.map (Value.int .i64))
theorem IntsIn.at_ {w : World} {B : Nat} {A : Option Addr} {xs : List Int} {k : Nat} (h : IntsIn w B A xs) (hk : k < xs.length) :
    ∃ ad, A = some ad ∧ ad.block < B ∧ w.cell? (ad.add k) = some (.int .i64 xs[k]) := by
  obtain ⟨ad, e, hb, hc⟩ := h.2 (by omega)
  exact ⟨ad, e, hb, hc k _ (by simp [hk])⟩
theorem take_eq_succ {xs ys : List Int} {k : Nat} (h1 : k < xs.length) (h2 : k < ys.length) (ht : xs.take k = ys.take k) (he : xs[k] = ys[k]) : xs.take (k + 1) = ys.take (k + 1) := by
  rw [List.take_succ_eq_append_getElem h1, List.take_succ_eq_append_getElem h2, ht, he]
theorem eq_of_take {xs ys : List Int} {k : Nat} (h1 : xs.length ≤ k) (h2 : ys.length = xs.length) (ht : xs.take k = ys.take k) : xs = ys := by
  rwa [List.take_of_length_le h1, List.take_of_length_le (by omega)] at ht

set_option maxHeartbeats 400000 in
theorem sameInts_any (A B : Option Addr) (c d B1 B2 : Nat) (xs ys : List Int) (w : World) (hx : IntsIn w B1 A xs) (hy : IntsIn w B2 B ys) (hl : xs.length ≤ 9223372036854775806) :
    Calls Tryd.prog 12 #[.slice A xs.length c, .slice B ys.length d] w fun e w' => e = .returned (.bool (decide (xs = ys))) ∧ ∃ q, w' = w.drewN q := by
  by_cases hlen : xs.length = ys.length
  · have hb : (((xs.length : Int)) != (ys.length : Int)) = false := by simp [hlen]
    have HL := Lib.hid hlen
    clear hlen
    have HX := Lib.hid hx
    have HY := Lib.hid hy
    clear hx hy
    go_enter Tryd.func12, Tryd.ntmps12
    go_wp2
    go_loopw [5] (fun i wr => ∃ k q : Nat, k ≤ xs.length ∧ i = .int .i64 k ∧ wr = w.drewN q ∧ Hid (xs.take k = ys.take k)) (fun i _ => xs.length - (intOf i).toNat)
    case atStart => exact ⟨0, 0, Nat.zero_le _, rfl, rfl, rfl⟩
    case round =>
      obtain ⟨k, q, hk, rfl, rfl, ht⟩ := hrel
      by_cases hlt : k < xs.length
      · obtain ⟨ad, rfl, _, hc⟩ := HX.out.at_ hlt
        have hlt2 : k < ys.length := by have := HL.out; omega
        obtain ⟨bd, rfl, _, hd⟩ := HY.out.at_ hlt2
        go_wp2
        go_quiet (fail)
        go_wp2
        · have hne : (xs[k] != ys[k]) = true := by assumption
          go_ret
          refine ⟨?_, _, World.drewN_drewN _ _ _⟩
          rw [decide_eq_false (fun h => (bne_iff_ne.1 hne) (by simp only [h]))]; rfl
        · have hne : (xs[k] != ys[k]) = false := by assumption
          go_roundw
          case rel => exact ⟨k + 1, q + nq, by omega, by go_num, rfl, take_eq_succ hlt hlt2 ht.out (by simpa using hne)⟩
          case measure => simp [intOf]; omega
      · go_wp2
        go_ret
        refine ⟨?_, _, rfl⟩
        rw [decide_eq_true (eq_of_take (by omega) HL.out.symm ht.out)]; rfl
  · have hb : (((xs.length : Int)) != (ys.length : Int)) = true := by simp; omega
    have HL := Lib.hid hlen
    clear hlen
    go_enter Tryd.func12, Tryd.ntmps12
    go_wp2
    go_ret
    refine ⟨?_, 0, rfl⟩
    rw [decide_eq_false (fun h => HL.out (by rw [h]))]; rfl

set_option maxHeartbeats 400000 in
theorem fine_any (most wait : Int) (w : World) :
    Calls Tryd.prog 24 #[.agg #[.int .i64 most, .int .i64 wait]] w fun e w' => e = .returned (.bool (Pl.okRules most wait)) ∧ w' = w.alloc (.cells #[.int .i64 most, .int .i64 wait] 53) := by
  go_enter Tryd.func24, Tryd.ntmps24
  go_wp2
  all_goals (go_ret; refine ⟨ret_bool ?_, rfl⟩)
  all_goals (rw [Bool.eq_iff_iff]; simp [Pl.okRules]; try omega)

/- The times' check, as a caller meets it: what is said of slot 'times[i]'. -/
theorem okAt_no {xs : List Int} {k : Nat} (h : k < xs.length) (hx : xs[k] < 0 ∨ 1073741824 < xs[k] ∨ (0 < k ∧ xs[k] < xs.getD (k - 1) 0)) : Pl.okAt xs k = false := by
  have e : xs.getD k 0 = xs[k] := by simp [h]
  unfold Pl.okAt
  rw [e]
  rcases hx with h | h | ⟨h, h'⟩
  · rw [decide_eq_false (by omega)]; rfl
  · rw [decide_eq_false (p := xs[k] ≤ 1073741824) (by omega)]; simp
  · rw [decide_eq_false (p := xs.getD (k - 1) 0 ≤ xs[k]) (by omega), beq_eq_false_iff_ne.2 (by omega)]; simp
theorem okAt_yes {xs : List Int} {k : Nat} (h : k < xs.length) (h1 : 0 ≤ xs[k]) (h2 : xs[k] ≤ 1073741824) (h3 : k = 0 ∨ xs.getD (k - 1) 0 ≤ xs[k]) : Pl.okAt xs k = true := by
  have e : xs.getD k 0 = xs[k] := by simp [h]
  unfold Pl.okAt
  rw [e]
  rw [decide_eq_true h1, decide_eq_true h2]
  rcases h3 with h | h
  · rw [beq_iff_eq.2 h]; rfl
  · rw [decide_eq_true h]; simp
theorem okUpto_no {xs : List Int} {k n : Nat} (h : Pl.okAt xs k = false) (hk : k < n) : Pl.okUpto xs n = false := by
  rcases hb : Pl.okUpto xs n with _ | _
  · rfl
  · rw [Pl.okAt_of hb hk] at h; cases h

end Go.Proofs.YtjohbgkdhppglaaDoor
