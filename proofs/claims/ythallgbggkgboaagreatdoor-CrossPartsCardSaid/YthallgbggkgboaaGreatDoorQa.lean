/-
  Plain law: SplitMix64's numbers differ, so that one of a few is small enough (no program in sight). The dice: Next, Below. The dice: Below. The dice: Order. sheet.Column.
-/
import Derived.RowKit
import Derived.KernelRfl
import Derived.Test.YthallgbggkgboaaGreatDoorGpi
import Derived.Laws.Bits64
import Derived.Deep.LoopGhost
namespace Go.Proofs.YthallgbggkgboaaGreatDoor.Gp

def MM : Nat := 18446744073709551616
def gam : Nat := 11400714819323198485
def stepN (s : Nat) : Nat := (s + gam) % MM
def mixN (k m z : Nat) : Nat := ((z ^^^ (z / 2 ^ k)) * m) % MM
def fin31 (z : Nat) : Nat := z ^^^ (z / 2 ^ 31)
def outN (s : Nat) : Nat := fin31 (mixN 27 10723151780598845931 (mixN 30 13787848793156543929 (stepN s)))
theorem xor_zero {x y : Nat} (h : x ^^^ y = 0) : x = y := by
  have : (x ^^^ y) ^^^ y = 0 ^^^ y := by rw [h]
  rwa [Nat.xor_assoc, Nat.xor_self, Nat.xor_zero, Nat.zero_xor] at this
theorem xor_swap {a b c d : Nat} (h : a ^^^ b = c ^^^ d) : a ^^^ c = b ^^^ d := by
  have h1 : (a ^^^ b) ^^^ (b ^^^ c) = (c ^^^ d) ^^^ (b ^^^ c) := by rw [h]
  have e1 : (a ^^^ b) ^^^ (b ^^^ c) = a ^^^ c := by rw [Nat.xor_assoc, ← Nat.xor_assoc b b c, Nat.xor_self, Nat.zero_xor]
  have e2 : (c ^^^ d) ^^^ (b ^^^ c) = b ^^^ d := by rw [Nat.xor_comm b c, Nat.xor_comm c d, Nat.xor_assoc, ← Nat.xor_assoc c c b, Nat.xor_self, Nat.zero_xor, Nat.xor_comm]
  rw [e1, e2] at h1
  exact h1
theorem xs_inj {k x y : Nat} (hk : 0 < k) (h : x ^^^ (x / 2 ^ k) = y ^^^ (y / 2 ^ k)) : x = y := by
  have h1 := xor_swap h
  rw [← Nat.shiftRight_eq_div_pow, ← Nat.shiftRight_eq_div_pow, ← Nat.shiftRight_xor_distrib, Nat.shiftRight_eq_div_pow] at h1
  apply xor_zero
  by_cases h0 : x ^^^ y = 0
  · exact h0
  · have h2 : (x ^^^ y) / 2 ^ k < x ^^^ y := Nat.div_lt_self (Nat.pos_of_ne_zero h0) (Nat.one_lt_two_pow (by omega))
    rw [← h1] at h2
    exact absurd h2 (Nat.lt_irrefl _)
theorem mul_inj {m m' x y : Nat} (hm : m * m' % MM = 1) (hx : x < MM) (hy : y < MM) (h : x * m % MM = y * m % MM) : x = y := by
  have key : ∀ z, z < MM → ((z * m % MM) * m') % MM = z := fun z hz => by
    rw [Nat.mul_mod, Nat.mod_mod, ← Nat.mul_mod, Nat.mul_assoc, Nat.mul_mod, hm, Nat.mul_one, Nat.mod_mod, Nat.mod_eq_of_lt hz]
  rw [← key x hx, ← key y hy, h]
theorem xs_lt {k x : Nat} (h : x < MM) : x ^^^ (x / 2 ^ k) < MM := Nat.xor_lt_two_pow (n := 64) h (Nat.lt_of_le_of_lt (Nat.div_le_self _ _) h)
theorem mix_lt (k m z : Nat) : mixN k m z < MM := Nat.mod_lt _ (by decide)
theorem mix_inj {k m m' x y : Nat} (hk : 0 < k) (hm : m * m' % MM = 1) (hx : x < MM) (hy : y < MM) (h : mixN k m x = mixN k m y) : x = y := xs_inj hk (mul_inj hm (xs_lt hx) (xs_lt hy) h)
theorem step_lt (s : Nat) : stepN s < MM := Nat.mod_lt _ (by decide)
theorem step_inj {x y : Nat} (hx : x < MM) (hy : y < MM) (h : stepN x = stepN y) : x = y := by
  unfold stepN gam MM at *; omega
theorem out_inj {x y : Nat} (hx : x < MM) (hy : y < MM) (h : outN x = outN y) : x = y := by
  have h1 : mixN 27 10723151780598845931 (mixN 30 13787848793156543929 (stepN x)) = mixN 27 10723151780598845931 (mixN 30 13787848793156543929 (stepN y)) := xs_inj (k := 31) (by decide) h
  have h2 : mixN 30 13787848793156543929 (stepN x) = mixN 30 13787848793156543929 (stepN y) := mix_inj (k := 27) (m := 10723151780598845931) (m' := 3573116690164977347) (by decide) (by kernel_rfl) (mix_lt _ _ _) (mix_lt _ _ _) h1
  exact step_inj hx hy (mix_inj (k := 30) (m := 13787848793156543929) (m' := 10871156337175269513) (by decide) (by kernel_rfl) (step_lt _) (step_lt _) h2)
theorem out_lt (s : Nat) : outN s < MM := xs_lt (mix_lt _ _ _)
def st (i s : Nat) : Nat := (s + i * gam) % MM
theorem shift_ne (a c : Nat) (h0 : 0 < c % MM) (h : a % MM = (a + c) % MM) : False := by
  have h1 : (a + c) % MM = (a % MM + c % MM) % MM := Nat.add_mod _ _ _
  rw [h1] at h
  have h2 := Nat.mod_lt a (show 0 < MM by decide)
  have h3 := Nat.mod_lt c (show 0 < MM by decide)
  generalize a % MM = x at *
  generalize c % MM = y at *
  by_cases hs : x + y < MM
  · rw [Nat.mod_eq_of_lt hs] at h; omega
  · have h4 : (x + y) % MM = x + y - MM := by
      rw [Nat.mod_eq_sub_mod (Nat.le_of_not_lt hs), Nat.mod_eq_of_lt (by omega)]
    rw [h4] at h; omega
theorem gam_mod : (List.range 13).all (fun d => Nat.beq d 0 || Nat.blt 0 (d * gam % MM)) = true := by kernel_rfl
theorem st_inj {i j s : Nat} (hj : j < 13) (hij : i < j) (h : st i s = st j s) : False := by
  obtain ⟨d, rfl⟩ : ∃ d, j = i + d := ⟨j - i, by omega⟩
  have h1 := List.all_eq_true.1 gam_mod d (List.mem_range.2 (by omega))
  have h2 : Nat.beq d 0 = false := by cases d with
    | zero => omega
    | succ d => rfl
  rw [h2, Bool.false_or] at h1
  have h3 : 0 < d * gam % MM := by simpa using h1
  unfold st at h
  rw [Nat.add_mul, ← Nat.add_assoc] at h
  exact shift_ne _ _ h3 h
theorem st_step (i s : Nat) : stepN (st i s) = st (i + 1) s := by
  unfold stepN st
  rw [Nat.mod_add_mod, Nat.add_assoc, Nat.add_mul, Nat.one_mul]
theorem pigeon : ∀ (m : Nat) (l : List Nat), l.Nodup → (∀ x ∈ l, x < m) → l.length ≤ m
  | 0, l, _, h => by
    cases l with
    | nil => exact Nat.le_refl _
    | cons a l => exact absurd (h a (by simp)) (Nat.not_lt_zero _)
  | m + 1, l, hn, h => by
    by_cases hm : m ∈ l
    · have h1 := pigeon m (l.erase m) (hn.erase m) fun x hx => by
        have h2 := (hn.mem_erase_iff).1 hx
        have := h x h2.2
        omega
      rw [List.length_erase_of_mem hm] at h1
      omega
    · have := pigeon m l hn fun x hx => by
        have h2 := h x hx
        have h3 : x ≠ m := fun e => hm (e ▸ hx)
        omega
      omega
def lastN (n : Nat) : Nat := MM - 1 - MM % n
theorem accept (n s : Nat) (h1 : 1 ≤ n) (h12 : n ≤ 12) : ∃ i, i < n ∧ outN (st i s) ≤ lastN n := by
  refine Classical.byContradiction fun hno => ?_
  have hgt : ∀ i, i < n → lastN n < outN (st i s) := fun i hi => Nat.lt_of_not_le fun h => hno ⟨i, hi, h⟩
  have hmod : MM % n < n := Nat.mod_lt _ h1
  have hle := pigeon (MM % n) ((List.range n).map fun i => outN (st i s) - lastN n - 1) (List.pairwise_iff_getElem.2 fun i j hi hj hij => by
      simp only [List.length_map, List.length_range] at hi hj
      simp only [List.getElem_map, List.getElem_range]
      intro e
      have a := hgt i hi
      have b := hgt j hj
      have e2 : outN (st i s) = outN (st j s) := by omega
      exact st_inj (s := s) (by omega) hij (out_inj (Nat.mod_lt _ (by decide)) (Nat.mod_lt _ (by decide)) e2)) fun x hx => by
    obtain ⟨i, hi, rfl⟩ := List.mem_map.1 hx
    have hi := List.mem_range.1 hi
    have a := hgt i hi
    have b := out_lt (st i s)
    unfold lastN at a ⊢
    have : MM = 18446744073709551616 := rfl
    omega
  rw [List.length_map, List.length_range] at hle
  omega
/- Drawing: what is drawn, and the state behind it. -/
def belowP : Nat → Nat → Nat → Nat × Nat
  | 0, _, s => (0, s)
  | f + 1, n, s => if outN s ≤ lastN n then (outN s % n, stepN s) else belowP f n (stepN s)
/- So many draws are enough. -/
def enough (f n s : Nat) : Prop := ∃ i, i < f ∧ outN (st i s) ≤ lastN n
theorem st_zero {s : Nat} (h : s < MM) : st 0 s = s := by unfold st; rw [Nat.zero_mul, Nat.add_zero, Nat.mod_eq_of_lt h]
theorem st_succ (i s : Nat) : st i (stepN s) = st (i + 1) s := by
  unfold st stepN
  rw [Nat.mod_add_mod, Nat.add_assoc, Nat.add_mul, Nat.one_mul, Nat.add_comm gam]
theorem enough_next {f n s : Nat} (hs : s < MM) (h : enough (f + 1) n s) (hno : ¬ outN s ≤ lastN n) : enough f n (stepN s) := by
  obtain ⟨i, hi, ha⟩ := h
  cases i with
  | zero => rw [st_zero hs] at ha; exact absurd ha hno
  | succ i => exact ⟨i, by omega, by rw [st_succ]; exact ha⟩
end Go.Proofs.YthallgbggkgboaaGreatDoor.Gp
namespace Go.Proofs.YthallgbggkgboaaGreatDoor.Gp
open Go Go.RowKit Ut

theorem step_int (s : Nat) : IntKind.u64.wrap ((s : Int) + 11400714819323198485) = (stepN s : Int) := by
  rw [IntKind.wrap_u64]; unfold stepN gam MM; omega
theorem mixA_int {z : Nat} (hz : z < MM) : IntKind.u64.wrap (bits .xor .u64 (z : Int) ((z : Int) / 1073741824) * 13787848793156543929) = (mixN 30 13787848793156543929 z : Int) := by
  have e : (z : Int) / 1073741824 = ((z / 2 ^ 30 : Nat) : Int) := (Int.natCast_ediv z (2 ^ 30)).symm
  rw [e, bits_xor_u64_nat z (z / 2 ^ 30) hz (Nat.lt_of_le_of_lt (Nat.div_le_self _ _) hz), IntKind.wrap_u64]
  unfold mixN
  rw [Int.natCast_emod, Int.natCast_mul]; rfl
theorem mixB_int {z : Nat} (hz : z < MM) : IntKind.u64.wrap (bits .xor .u64 (z : Int) ((z : Int) / 134217728) * 10723151780598845931) = (mixN 27 10723151780598845931 z : Int) := by
  have e : (z : Int) / 134217728 = ((z / 2 ^ 27 : Nat) : Int) := (Int.natCast_ediv z (2 ^ 27)).symm
  rw [e, bits_xor_u64_nat z (z / 2 ^ 27) hz (Nat.lt_of_le_of_lt (Nat.div_le_self _ _) hz), IntKind.wrap_u64]
  unfold mixN
  rw [Int.natCast_emod, Int.natCast_mul]; rfl
theorem fin_int {z : Nat} (hz : z < MM) : bits .xor .u64 (z : Int) ((z : Int) / 2147483648) = (fin31 z : Int) := by
  have e : (z : Int) / 2147483648 = ((z / 2 ^ 31 : Nat) : Int) := (Int.natCast_ediv z (2 ^ 31)).symm
  rw [e, bits_xor_u64_nat z (z / 2 ^ 31) hz (Nat.lt_of_le_of_lt (Nat.div_le_self _ _) hz)]
  rfl
set_option maxHeartbeats 1000000 in
set_option maxRecDepth 100000 in
theorem next_any (g s : Nat) (w : World) (h : Blk w g 112 #[.int .u64 (s : Int)]) :
    Calls Tryz.prog 86 #[.pointer (some ⟨g, 0, none⟩)] w fun e w' => e = .returned (.int .u64 (outN s : Int)) ∧ w' = w.setCell ⟨g, 0, none⟩ (.int .u64 (stepN s : Int)) := by
  have c0 : w.cell? ⟨g, 0, none⟩ = some (.int .u64 (s : Int)) := h.cell 0
  have fz := h.frozen
  go_enter Tryz.func86, Tryz.ntmps86
  go_wp2
  go_ret
  rw [step_int, mixA_int (step_lt _), mixB_int (mix_lt _ _ _), fin_int (mix_lt _ _ _)]
  exact ⟨rfl, rfl⟩
end Go.Proofs.YthallgbggkgboaaGreatDoor.Gp
namespace Go.Proofs.YthallgbggkgboaaGreatDoor.Gp
open Go Go.RowKit Ut

/- Blocks that do not fit are as they were. -/
structure Alt (w w' : World) (p : Nat → Prop) : Prop where
  os : w'.os = w.os
  tape : w'.tape = w.tape
  output : w'.output = w.output
  size : w.heap.size ≤ w'.heap.size
  block : ∀ k, k < w.heap.size → ¬ p k → w'.heap[k]? = w.heap[k]?
section
variable {w w' w'' : World} {p q : Nat → Prop}
theorem Alt.refl (w : World) (p : Nat → Prop) : Alt w w p := ⟨rfl, rfl, rfl, Nat.le_refl _, fun _ _ _ => rfl⟩
theorem Alt.mono (h : Alt w w' p) (hp : ∀ k, p k → q k) : Alt w w' q := ⟨h.os, h.tape, h.output, h.size, fun k hk hq => h.block k hk fun h => hq (hp k h)⟩
theorem Alt.trans (h : Alt w w' p) (h' : Alt w' w'' q) (hp : ∀ k, k < w.heap.size → q k → p k) : Alt w w'' p :=
  ⟨h'.os.trans h.os, h'.tape.trans h.tape, h'.output.trans h.output, Nat.le_trans h.size h'.size, fun k hk hk' => (h'.block k (Nat.lt_of_lt_of_le hk h.size) fun hq => hk' (hp k hk hq)).trans (h.block k hk hk')⟩
theorem Alt.drewN (h : Alt w w' p) (n : Nat) : Alt w (w'.drewN n) p := ⟨h.os, h.tape, h.output, h.size, h.block⟩
theorem Alt.set_ (h : Alt w w' p) {a : Addr} (hp : p a.block) (v : Value) : Alt w (w'.setCell a v) p :=
  ⟨h.os, h.tape, h.output, by simpa using h.size, fun k hk hk' => (Below.heap_setCell w' a v k (fun e => hk' (by rw [e]; exact hp))).trans (h.block k hk hk')⟩
theorem Alt.alloc (h : Alt w w' p) (o : Obj) : Alt w (w'.alloc o) p :=
  ⟨h.os, h.tape, h.output, by have := h.size; simp; omega, fun k hk hk' => (Below.heap_alloc w' o k (Nat.lt_of_lt_of_le hk h.size)).trans (h.block k hk hk')⟩
theorem Alt.grown {row : Option Nat} (h : Alt w w' p) (hg : w'.grownBy w'' row) (hr : ∀ g, row = some g → g < w.heap.size → p g) : Alt w w'' p :=
  ⟨hg.os.trans h.os, hg.tape.trans h.tape, hg.output.trans h.output, Nat.le_trans h.size hg.size, fun k hk hk' =>
    (hg.block k (Nat.lt_of_lt_of_le hk h.size) (fun e => hk' (hr k e.symm hk))).trans (h.block k hk hk')⟩
theorem Alt.below {B : Nat} (h : Alt w w' p) (hp : ∀ k, p k → B ≤ k) (hB : B ≤ w.heap.size) : Below B w w' := ⟨h.os, h.tape, h.output, h.size, fun k hk => h.block k (by omega) fun hpk => by have := hp k hpk; omega⟩
end


theorem Blk.kept {w w' : World} {g : Nat} {t : TypeId} {cs : Array Value} {p : Nat → Prop} (h : Blk w g t cs) (hb : Alt w w' p) (hg : ¬ p g) : Blk w' g t cs := (hb.block g h.lt hg).trans h
theorem last_int {n : Nat} (h1 : 1 ≤ n) (h12 : n ≤ 12) : IntKind.u64.wrap (18446744073709551615 - (IntKind.u64.wrap (18446744073709551615 % (n : Int) + 1)).tmod n) = (lastN n : Int) := by
  rcases (show n = 1 ∨ n = 2 ∨ n = 3 ∨ n = 4 ∨ n = 5 ∨ n = 6 ∨ n = 7 ∨ n = 8 ∨ n = 9 ∨ n = 10 ∨ n = 11 ∨ n = 12 by omega) with rfl | rfl | rfl | rfl | rfl | rfl | rfl | rfl | rfl | rfl | rfl | rfl <;> rfl
set_option maxHeartbeats 1000000 in
set_option maxRecDepth 100000 in
theorem below_any {F : Nat} (hF : F = 12) (g s n : Nat) (w : World) (h : Blk w g 112 #[.int .u64 (s : Int)]) (hs : s < MM) (h1 : 1 ≤ n) (h12 : n ≤ 12) :
    Calls Tryz.prog 57 #[.pointer (some ⟨g, 0, none⟩), .int .i64 (n : Int)] w fun e w' => e = .returned (.int .i64 ((belowP F n s).1 : Int)) ∧ Blk w' g 112 #[.int .u64 ((belowP F n s).2 : Int)] ∧ (belowP F n s).2 < MM ∧ Alt w w' (fun k => k = g) := by
  have HB := Lib.hid h
  clear h
  go_enter Tryz.func57, Tryz.ntmps57
  go_wp2
  rw [last_int h1 h12]
  go_loopg [7] F (fun f _ wr => ∃ s' : Nat, s' < MM ∧ Hid (Blk wr g 112 #[.int .u64 (s' : Int)]) ∧ Hid (enough f n s') ∧ Hid (belowP f n s' = belowP F n s) ∧ Hid (Alt w wr (fun k => k = g)))
  case atStart =>
    obtain ⟨i, hi, ha⟩ := accept n s h1 h12
    exact ⟨s, hs, HB.out, ⟨i, by omega, ha⟩, rfl, Alt.refl _ _⟩
  case round =>
    obtain ⟨s', hs', hblk, hen, heq, halt⟩ := hrel
    obtain ⟨f, rfl⟩ : ∃ f, gk = f + 1 := by
      obtain ⟨i, hi, _⟩ := hen.out
      exact ⟨gk - 1, by omega⟩
    have hk2 := hblk.out.set_ 0 (.int .u64 (stepN s' : Int))
    have ha2 := halt.out.set_ (a := ⟨g, 0, none⟩) rfl (.int .u64 (stepN s' : Int))
    have hE := heq.out
    by_cases hacc : outN s' ≤ lastN n
    · have e1 : belowP (f + 1) n s' = (outN s' % n, stepN s') := by rw [belowP, if_pos hacc]
      rw [e1] at hE
      have hacc' : (outN s' : Int) ≤ (lastN n : Int) := by omega
      go_wp2_with (go_at_call 86; refine (next_any g s' wr hblk.out).mono ?_; rintro e w2 ⟨rfl, rfl⟩)
      go_ret
      rw [← hE]
      refine ⟨ret_int ?_, hk2, step_lt _, ha2⟩
      have hlt : outN s' % n < 12 := Nat.lt_of_lt_of_le (Nat.mod_lt _ h1) h12
      show wrap64 ((outN s' : Int) % (n : Int)) = ((outN s' % n : Nat) : Int)
      rw [← Int.natCast_emod]
      generalize outN s' % n = r at *
      unfold wrap64
      omega
    · have e1 : belowP (f + 1) n s' = belowP f n (stepN s') := by rw [belowP, if_neg hacc]
      rw [e1] at hE
      have hacc' : ¬ (outN s' : Int) ≤ (lastN n : Int) := by omega
      go_wp2_with (go_at_call 86; refine (next_any g s' wr hblk.out).mono ?_; rintro e w2 ⟨rfl, rfl⟩)
      go_roundg f
      case measure => omega
      case rel => exact ⟨stepN s', step_lt _, hk2, enough_next hs' hen.out hacc, hE, ha2⟩
end Go.Proofs.YthallgbggkgboaaGreatDoor.Gp
namespace Go.Proofs.YthallgbggkgboaaGreatDoor.Gp
open Go Go.RowKit Ut

def ints (l : List Nat) : Array Value := ⟨l.map fun (n : Nat) => Value.int .i64 (n : Int)⟩
theorem ints_set (l : List Nat) (i v : Nat) : (ints l).setIfInBounds i (.int .i64 (v : Int)) = ints (l.set i v) := by
  unfold ints
  rw [List.setIfInBounds_toArray, List.map_set]
theorem ints_at {l : List Nat} {i : Nat} (h : i < l.length) : (ints l)[i]? = some (.int .i64 (l[i] : Int)) := by
  unfold ints
  rw [List.getElem?_toArray, List.getElem?_map, List.getElem?_eq_getElem h]; rfl
def swapL (l : List Nat) (i j : Nat) : List Nat := (l.set i (l.getD j 0)).set j (l.getD i 0)
theorem swapL_length (l : List Nat) (i j : Nat) : (swapL l i j).length = l.length := by unfold swapL; simp
def ordP (F : Nat) : Nat → List Nat → Nat → List Nat × Nat
  | 0, l, s => (l, s)
  | i + 1, l, s => ordP F i (swapL l (i + 1) (belowP F (i + 2) s).1) (belowP F (i + 2) s).2
theorem ordP_succ (F i : Nat) (l : List Nat) (s : Nat) : ordP F (i + 1) l s = ordP F i (swapL l (i + 1) (belowP F (i + 2) s).1) (belowP F (i + 2) s).2 := by
  conv => lhs; unfold ordP
theorem ordP_length (F : Nat) : ∀ (i : Nat) (l : List Nat) (s : Nat), (ordP F i l s).1.length = l.length
  | 0, _, _ => rfl
  | i + 1, l, s => by rw [ordP_succ, ordP_length F i, swapL_length]
theorem belowP_lt : ∀ (f n s : Nat), 0 < n → (belowP f n s).1 < n
  | 0, n, s, h => h
  | f + 1, n, s, h => by
    rw [belowP]
    split
    · exact Nat.mod_lt _ h
    · exact belowP_lt f n _ h
theorem ordP_all (F : Nat) : ∀ (i : Nat) (l : List Nat) (s m : Nat), (∀ x ∈ l, x < m) → 0 < m → ∀ x ∈ (ordP F i l s).1, x < m
  | 0, _, _, _, h, _ => h
  | i + 1, l, s, m, h, hm => by
    rw [ordP_succ]
    refine ordP_all F i (swapL l (i + 1) (belowP F (i + 2) s).1) (belowP F (i + 2) s).2 m (fun x hx => ?_) hm
    have hd : ∀ k, l.getD k 0 < m := fun k => by
      rw [List.getD_eq_getElem?_getD]
      by_cases hk : k < l.length
      · rw [List.getElem?_eq_getElem hk]; exact h _ (List.getElem_mem hk)
      · rw [List.getElem?_eq_none (by omega)]; exact hm
    unfold swapL at hx
    rcases List.mem_or_eq_of_mem_set hx with hx | rfl
    · rcases List.mem_or_eq_of_mem_set hx with hx | rfl
      · exact h x hx
      · exact hd _
    · exact hd _
theorem made_ints (n : Nat) : madeCells #[.int .i64 0] n = ints (List.replicate n 0) := by
  unfold madeCells ints
  apply Array.ext
  · simp
  · intro i h1 h2
    simp [Nat.mod_one]
theorem below_at {F : Nat} (hF : F = 12) {a : Int} (g s n : Nat) (w : World) (h : Blk w g 112 #[.int .u64 (s : Int)]) (hs : s < MM) (h1 : 1 ≤ n) (h12 : n ≤ 12) (ha : a = (n : Int)) :
    Calls Tryz.prog 57 #[.pointer (some ⟨g, 0, none⟩), .int .i64 a] w fun e w' => ∃ v t : Nat, e = .returned (.int .i64 (v : Int)) ∧ v < n ∧ v = (belowP F n s).1 ∧ t = (belowP F n s).2 ∧ t < MM ∧ Blk w' g 112 #[.int .u64 (t : Int)] ∧ Alt w w' (fun k => k = g) := by
  subst ha
  refine (below_any hF g s n w h hs h1 h12).mono ?_
  rintro e w' ⟨rfl, hb, ht, ha⟩
  exact ⟨_, _, rfl, belowP_lt F n s (by omega), rfl, rfl, ht, hb, ha⟩
theorem getD_at {l : List Nat} {i : Nat} (h : i < l.length) : l.getD i 0 = l[i] := by
  rw [List.getD_eq_getElem?_getD, List.getElem?_eq_getElem h]; rfl
set_option maxHeartbeats 4000000 in
set_option maxRecDepth 100000 in
theorem order_any {F : Nat} (hF : F = 12) (g s n : Nat) (w : World) (h : Blk w g 112 #[.int .u64 (s : Int)]) (hs : s < MM) (h2 : 2 ≤ n) (h12 : n ≤ 12) :
    Calls Tryz.prog 33 #[.pointer (some ⟨g, 0, none⟩), .int .i64 (n : Int)] w fun e w' => e = .returned (.slice (some ⟨w.heap.size, 0, none⟩) n n) ∧ Blk w' w.heap.size 3 (ints (ordP F (n - 1) (List.range n) s).1) ∧ Blk w' g 112 #[.int .u64 ((ordP F (n - 1) (List.range n) s).2 : Int)] ∧ (ordP F (n - 1) (List.range n) s).2 < MM ∧ Alt w w' (fun k => k = g) := by
  have hg := h.lt
  have HB := Lib.hid h
  have HF := Lib.hid hF
  clear hF
  obtain ⟨i0, hi0, hz0, hz1, hz2⟩ := info_parts infoInt
  have HMK : Hid (∀ W, (Instr.makeSlice 22 (.int .i64 (n : Int)) (.int .i64 (n : Int))).run Tryz.prog W = .ok (.slice (some ⟨W.heap.size, 0, none⟩) n n) (W.alloc (.cells (madeCells #[.int .i64 0] n) 3))) := fun W => by
    have hr := run_make (P := Tryz.prog) (w := W) 22 3 i0 _ Tryz.underlying22 hi0 hz0 .i64 .i64 (n : Int) (n : Int) (by omega) (Int.le_refl _) (by rw [hz2]; omega) (by omega)
    rw [hr, hz1]
    simp [Value.cells]
  have HMC : Hid (madeCells #[.int .i64 0] n = ints (List.replicate n 0)) := by
    exact made_ints n
  clear hi0 hz0 hz1 hz2 h
  have d1 : decide ((n : Int) < 1) = false := by simp; omega
  have d2 : decide ((65536 : Int) < (n : Int)) = false := by simp; omega
  have d3 : ¬ (n : Int) < 1 := by omega
  have d4 : ¬ (65536 : Int) < (n : Int) := by omega
  go_enter Tryz.func33, Tryz.ntmps33
  go_wp2
  rw [HMK.out, HMC.out]
  go_wp2
  have hR : w.heap.size ≠ g := by omega
  go_loopw [20] (fun iv wr => ∃ (j : Nat) (l : List Nat), j ≤ n ∧ iv = .int .i64 (j : Int) ∧ l.length = n ∧ Hid (∀ i, i < j → l[i]? = some i) ∧ Hid (Blk wr w.heap.size 3 (ints l)) ∧ Hid (Blk wr g 112 #[.int .u64 (s : Int)]) ∧ Hid (Alt w wr (fun k => k = g))) (fun iv _ => n - (intOf iv).toNat)
  case atStart => exact ⟨0, List.replicate n 0, Nat.zero_le _, rfl, by simp, (fun i hi => absurd hi (Nat.not_lt_zero _)), Blk.new _ _ _, HB.out.alloc _, (Alt.refl _ _).alloc _⟩
  case round =>
    obtain ⟨j, l, hj, rfl, hll, hlj, hrow, hdice, halt⟩ := hrel
    by_cases hgo : j < n
    · have c0 := (hrow.out.cell j).trans (ints_at (l := l) (i := j) (by omega))
      have fz := hrow.out.frozen
      go_wp2
      refine ⟨⟨j + 1, l.set j j, by omega, by go_num, by rw [List.length_set]; exact hll, ?_, ?_, hdice.out.far (by show g ≠ w.heap.size; omega) _, ?_⟩, by simp [intOf]; omega⟩
      · show ∀ i, _
        intro i hi
        rw [List.getElem?_set]
        by_cases e : j = i
        · subst e; rw [if_pos rfl, if_pos (by omega)]
        · rw [if_neg e]; exact hlj.out i (by omega)
      · have := hrow.out.set_ j (.int .i64 (j : Int))
        rw [ints_set] at this
        exact this
      · have ha : Alt w (wr.setCell ⟨w.heap.size, j, none⟩ (.int .i64 (j : Int))) (fun k => k = g ∨ k = w.heap.size) := (halt.out.mono fun k hk => .inl hk).set_ (.inr rfl) _
        exact ⟨ha.os, ha.tape, ha.output, ha.size, fun k hk hk' => ha.block k hk (fun h => h.elim hk' (fun h => by omega))⟩
    · have hjn : j = n := by omega
      subst hjn
      have hl : l = List.range j := List.ext_getElem? fun i => by
        by_cases hi : i < j
        · rw [hlj.out i hi, List.getElem?_range hi]
        · rw [List.getElem?_eq_none (by omega), List.getElem?_eq_none (by simp; omega)]
      subst hl
      clear hlj hll hgo
      go_wp2
      generalize wr = wx at *
      go_loopw [8] (fun iv wr => ∃ (i s' : Nat) (l : List Nat), i < j ∧ iv = .int .i64 (i : Int) ∧ l.length = j ∧ s' < MM ∧ Hid (Blk wr w.heap.size 3 (ints l)) ∧ Hid (Blk wr g 112 #[.int .u64 (s' : Int)]) ∧ Hid (Alt w wr (fun k => k = g)) ∧ Hid (ordP F i l s' = ordP F (j - 1) (List.range j) s)) (fun iv _ => (intOf iv).toNat)
      case atStart => exact ⟨j - 1, s, List.range j, by omega, by go_num, by simp, hs, hrow, hdice, halt, rfl⟩
      case round =>
        obtain ⟨i, s', l, hi, rfl, hll, hs', hrow, hdice, halt, hord⟩ := hrel
        by_cases hgo : 1 ≤ i
        · obtain ⟨m, rfl⟩ : ∃ m, i = m + 1 := ⟨i - 1, by omega⟩
          have hO := hord.out
          rw [ordP_succ] at hO
          replace hO := Lib.hid hO
          have h12' : m + 2 ≤ 12 := by omega
          go_wp2_with (go_at_call 57; refine (below_at HF.out g s' (m + 2) wr hdice.out hs' (by omega) h12' (by omega)).mono ?_; rintro e w2 ⟨v, t, rfl, hv, hv1, ht1, ht, hd2, ha2⟩; have HV := Lib.hid hv1; have HT := Lib.hid ht1; clear hv1 ht1)
          have hrow2 : Blk w2 w.heap.size 3 (ints l) := Blk.kept hrow.out ha2 hR
          have hvl : v < l.length := by omega
          have hml : m + 1 < l.length := by omega
          have c1 := (hrow2.cell (m + 1)).trans (ints_at hml)
          have c2 := (hrow2.cell v).trans (ints_at hvl)
          have fz := hrow2.frozen
          have hk3 := hrow2.set_ (m + 1) (.int .i64 (l[v] : Int))
          rw [ints_set] at hk3
          have hvl3 : v < (l.set (m + 1) l[v]).length := by rw [List.length_set]; exact hvl
          have c3 := (hk3.cell v).trans (ints_at hvl3)
          have fz3 := hk3.frozen
          have hvj : v < j := by omega
          have hk4 := hk3.set_ v (.int .i64 (l[m + 1] : Int))
          rw [ints_set] at hk4
          have hsw : (l.set (m + 1) l[v]).set v l[m + 1] = swapL l (m + 1) v := by unfold swapL; rw [getD_at hvl, getD_at hml]
          rw [hsw] at hk4
          replace hk4 := Lib.hid hk4
          clear hk3 hsw
          go_region
          all_goals go_wp2
          all_goals
            have ha : Alt w ((w2.setCell ⟨w.heap.size, m + 1, none⟩ (.int .i64 (l[v] : Int))).setCell ⟨w.heap.size, v, none⟩ (.int .i64 (l[m + 1] : Int))) (fun k => k = g ∨ k = w.heap.size) := (((halt.out.trans ha2 (fun k _ h => h)).mono fun k hk => .inl hk).set_ (a := ⟨w.heap.size, m + 1, none⟩) (.inr rfl) _).set_ (a := ⟨w.heap.size, v, none⟩) (.inr rfl) _
            refine ⟨⟨m, t, swapL l (m + 1) v, by omega, rfl, by rw [swapL_length]; exact hll, ht, hk4.out, (Blk.far (Blk.far hd2 (by show g ≠ w.heap.size; omega) _) (by show g ≠ w.heap.size; omega) _), ⟨ha.os, ha.tape, ha.output, ha.size, fun k hk hk' => ha.block k hk (fun h => h.elim hk' (fun h => by omega))⟩, ?_⟩, by simp [intOf]⟩
            show _ = _
            rw [HV.out, HT.out]
            exact hO.out
        · have hi0 : i = 0 := by omega
          subst hi0
          have hO := hord.out
          go_wp2
          go_ret
          rw [← hO]
          exact ⟨rfl, hrow.out, hdice.out, hs', halt.out⟩
end Go.Proofs.YthallgbggkgboaaGreatDoor.Gp
namespace Go.Proofs.YthallgbggkgboaaGreatDoor.Gp
open Go Go.RowKit Ut

def colF (nm : ByteArray) : List CI → Nat → Nat × Bool
  | [], _ => (0, false)
  | c :: l, i => if (c.nm.toList == nm.toList) = true then (i, true) else colF nm l (i + 1)
theorem colF_cons (nm : ByteArray) (c : CI) (l : List CI) (i : Nat) : colF nm (c :: l) i = if (c.nm.toList == nm.toList) = true then (i, true) else colF nm l (i + 1) := rfl
theorem colF_nil (nm : ByteArray) (i : Nat) : colF nm [] i = (0, false) := rfl
theorem colF_lt (nm : ByteArray) : ∀ (l : List CI) (i : Nat), (colF nm l i).2 = true → (colF nm l i).1 < i + l.length
  | [], i, h => by cases h
  | c :: l, i, h => by
    unfold colF at h ⊢
    split
    · simp
    · next hc =>
      rw [if_neg hc] at h
      have := colF_lt nm l (i + 1) h
      simp; omega
set_option maxHeartbeats 4000000 in
set_option maxRecDepth 100000 in
theorem column_any (cu ru : Value) (cs : List CI) (b : Nat) (gs : List (List PC × Value)) (nm : ByteArray) (w : World) (h : SheetOk w cu ru cs b gs) :
    Calls Tryz.prog 16 #[.agg #[cu, ru], .string nm] w fun e w' => e = .returned (.tuple #[.int .i64 ((colF nm cs 0).1 : Int), .bool (colF nm cs 0).2]) ∧ Below w.heap.size w w' := by
  obtain ⟨g, c, A2, c2, rfl, rfl, hcc⟩ := h.form
  have H := Lib.hid h
  have h6 := h.c6
  clear h
  go_enter Tryz.func16, Tryz.ntmps16
  go_wp2
  go_loopw [11] (fun iv wr => ∃ j : Nat, j ≤ cs.length ∧ iv = .int .i64 (j : Int) ∧ Hid (colF nm (cs.drop j) j = colF nm cs 0) ∧ Hid (Below w.heap.size w wr)) (fun iv _ => cs.length - (intOf iv).toNat)
  case atStart => exact ⟨0, Nat.zero_le _, rfl, rfl, (Below.refl _ _).alloc (Nat.le_refl _) _⟩
  case round =>
    obtain ⟨j, hj, rfl, hcol, hbel⟩ := hrel
    have hszr := hbel.out.size
    by_cases hgo : j < cs.length
    · obtain ⟨g', hg', hg, q0, q1, q2⟩ := (H.out.cols.below hbel.out).at_ hgo
      have e : g = g' := by injection hg' with hg'; injection hg'
      subst e
      obtain ⟨hk, hof⟩ := H.out.cols.2 _ (List.getElem_mem hgo)
      obtain ⟨A, k, hwd⟩ := CI.wd_form hof
      rw [hwd] at q2
      have hC := hcol.out
      rw [List.drop_eq_getElem_cons hgo] at hC
      replace hC := Lib.hid hC
      generalize cs[j] = ci at *
      obtain ⟨n2, kd, wd⟩ := ci
      clear hof hwd hcol hk hg'
      by_cases he : (n2.toList == nm.toList) = true
      · have hD := hC.out
        rw [colF_cons, if_pos he] at hD
        replace hD := Lib.hid hD
        have he' : n2.toList = nm.toList := by simpa using he
        go_wp2
        go_ret2
        rw [← hD.out]
        exact ⟨rfl, hbel.out.alloc hszr _⟩
      · have hD := hC.out
        rw [colF_cons, if_neg he] at hD
        replace hD := Lib.hid hD
        have he' : (n2.toList == nm.toList) = false := by cases h : (n2.toList == nm.toList) <;> simp_all
        go_wp2
        exact ⟨⟨j + 1, by omega, by go_num, hD.out, hbel.out.alloc hszr _⟩, by simp [intOf]; omega⟩
    · have hD := hcol.out
      rw [List.drop_eq_nil_of_le (by omega), colF_nil] at hD
      replace hD := Lib.hid hD
      clear hcol
      go_wp2
      go_ret2
      rw [← hD.out]
      exact ⟨rfl, hbel.out⟩
end Go.Proofs.YthallgbggkgboaaGreatDoor.Gp
