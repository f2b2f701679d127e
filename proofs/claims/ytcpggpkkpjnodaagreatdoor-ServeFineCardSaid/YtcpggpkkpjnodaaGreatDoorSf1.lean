/-
  Words for worlds; Pick; small fractions by runs; Fine's parts.
-/
import Derived.Test.YtcpggpkkpjnodaaGreatDoorE5
import Derived.Test.YtcpggpkkpjnodaaGreatDoorRows
import Derived.WalkKit
import Derived.WalkSpells
import Derived.WalkLawsBesides
import Derived.Lib.Hide
import Derived.Deep.QuietTactic
import Derived.BigQuiet
import Derived.Below
import Derived.Laws.OwnMore
import Derived.IntWalk
namespace Go.Proofs.YtcpggpkkpjnodaaGreatDoor
open Go.RowKit

theorem ret_int {k : IntKind} {a b : Int} (h : a = b) : Ending.returned (.int k a) = .returned (.int k b) := by rw [h]
theorem ret_bool {a b : Bool} (h : a = b) : Ending.returned (.bool a) = .returned (.bool b) := by rw [h]
/- A slice that reads as a list of cells (nil let in). -/
theorem block_of_add (a : Addr) (n : Nat) : (a.add n).block = a.block := by unfold Addr.add; split <;> rfl
theorem add_of_add (a : Addr) (i j : Nat) : (a.add i).add j = a.add (i + j) := by
  unfold Addr.add
  by_cases hi : i = 0 <;> by_cases hj : j = 0 <;> simp [hi, hj, Nat.add_assoc]

def Reads (w : World) (B size : Nat) (A : Option Addr) (n : Nat) (xs : List Value) : Prop :=
  xs.length = n * size ∧ (0 < n → ∃ ad, A = some ad ∧ ad.block < B ∧ ∀ j u, xs[j]? = some u → w.cell? (ad.add j) = some u)

section
variable {w w' : World} {B B' size n : Nat} {A : Option Addr} {xs : List Value}
theorem Reads.keep (h : Reads w B size A n xs) (hk : ∀ p : Addr, p.block < B → w'.cell? p = w.cell? p) : Reads w' B size A n xs :=
  ⟨h.1, fun hn => by
    obtain ⟨ad, e, hb, hc⟩ := h.2 hn
    exact ⟨ad, e, hb, fun j u hu => (hk _ (by rw [block_of_add]; exact hb)).trans (hc j u hu)⟩⟩
theorem Reads.more (h : Reads w B size A n xs) (hB : B ≤ B') : Reads w B' size A n xs :=
  ⟨h.1, fun hn => by
    obtain ⟨ad, e, hb, hc⟩ := h.2 hn
    exact ⟨ad, e, by omega, hc⟩⟩
theorem Reads.below (h : Reads w B size A n xs) (hb : Below B w w') : Reads w' B size A n xs := h.keep fun _ hp => hb.cell hp
theorem Reads.drewN (h : Reads w B size A n xs) (k : Nat) : Reads (w.drewN k) B size A n xs := h
theorem Reads.alloc (h : Reads w B size A n xs) (hB : B ≤ w.heap.size) (o : Obj) : Reads (w.alloc o) B size A n xs := h.keep fun p hp => World.cell?_alloc_lt w o p (by omega)
theorem Reads.setCell (h : Reads w B size A n xs) {p : Addr} (hB : B ≤ p.block) (u : Value) : Reads (w.setCell p u) B size A n xs :=
  h.keep fun q hq => World.cell?_setCell_other w p q u (fun e => by subst e; omega)
theorem Reads.grown (h : Reads w B size A n xs) {row : Option Nat} (hg : w.grownBy w' row) (hB : B ≤ w.heap.size) (hr : ∀ g, row = some g → B ≤ g) : Reads w' B size A n xs :=
  h.keep fun p hp => World.cell?_of_block (hg.block p.block (by omega) (fun e => by have := hr _ e.symm; omega))
end
def Blk (w : World) (g : Nat) (t : TypeId) (cs : Array Value) : Prop := w.heap[g]? = some (.cells cs t (0, 0))
section
variable {w w' : World} {g : Nat} {t : TypeId} {cs : Array Value}
theorem Blk.lt (h : Blk w g t cs) : g < w.heap.size := lt_of_block h
theorem Blk.cell (h : Blk w g t cs) (i : Nat) : w.cell? ⟨g, i, none⟩ = cs[i]? := by
  unfold Blk at h; simp [World.cell?, h]
theorem Blk.frozen (h : Blk w g t cs) (i : Nat) : w.frozen? ⟨g, i, none⟩ = false := by
  unfold Blk at h
  simp [World.frozen?, h]
theorem Blk.new (w : World) (t : TypeId) (cs : Array Value) : Blk (w.alloc (.cells cs t)) w.heap.size t cs := heap_alloc_new w _
theorem Blk.drewN (h : Blk w g t cs) (n : Nat) : Blk (w.drewN n) g t cs := h
theorem Blk.alloc (h : Blk w g t cs) (o : Obj) : Blk (w.alloc o) g t cs := (Below.heap_alloc w o g h.lt).trans h
theorem Blk.set_ (h : Blk w g t cs) (i : Nat) (u : Value) : Blk (w.setCell ⟨g, i, none⟩ u) g t (cs.setIfInBounds i u) := by
  unfold Blk at h ⊢
  simp [World.setCell, Array.getElem?_modify, h]
theorem Blk.far (h : Blk w g t cs) {p : Addr} (hp : g ≠ p.block) (u : Value) : Blk (w.setCell p u) g t cs := (Below.heap_setCell w p u g hp).trans h
theorem Blk.below {B : Nat} (h : Blk w g t cs) (hb : Below B w w') (hg : g < B) : Blk w' g t cs := (hb.block g hg).trans h
theorem Blk.grown {row : Option Nat} (h : Blk w g t cs) (hb : w.grownBy w' row) (hg : some g ≠ row) : Blk w' g t cs := (hb.block g h.lt hg).trans h
theorem Blk.ne_ {g' : Nat} {t' : TypeId} {cs' : Array Value} (h : Blk w g t cs) (h' : Blk w g' t' cs') (hne : t ≠ t') : g ≠ g' := by
  rintro rfl
  unfold Blk at h h'
  rw [h] at h'
  injection h' with h'
  injection h' with _ ht
  exact hne ht
end
theorem tmod_fix (n m : Int) (h0 : 0 < m) : (if n.tmod m < 0 then n.tmod m + m else n.tmod m) = n % m := by
  have h1 := Int.emod_nonneg n (by omega : m ≠ 0)
  have h2 := Int.emod_lt_of_pos n h0
  by_cases hn : 0 ≤ n
  · rw [Int.tmod_eq_emod_of_nonneg hn, if_neg (by omega)]
  · have e := Int.tmod_eq_emod (a := n) (b := m)
    by_cases hd : m ∣ n
    · rw [if_pos (.inr hd)] at e
      rw [e, if_neg (by omega)]; omega
    · rw [if_neg (by rintro (h | h) <;> contradiction)] at e
      have : (m.natAbs : Int) = m := by omega
      rw [e, if_pos (by omega)]; omega

set_option maxHeartbeats 400000 in
theorem pick_any (n m : Int) (w : World) (h0 : 0 < m) (h1 : m ≤ 4294967296) :
    Calls Tryz.prog 4 #[.int .i64 n, .int .i64 m] w fun e w' => e = .returned (.int .i64 (n % m)) ∧ w = w' := by
  have hm0 : (m == 0) = false := by simp; omega
  have hf := Lib.hid (tmod_fix n m h0)
  have hb : -m < n.tmod m ∧ n.tmod m < m := by
    have := Int.tmod_lt_of_pos n h0
    have h3 := Int.lt_tmod_of_pos n h0
    omega
  obtain ⟨hb1, hb2⟩ := hb
  go_enter Tryz.func4, Tryz.ntmps4
  go_wp2
  · go_ret
    refine ⟨ret_int ?_, rfl⟩
    rw [← hf.out, if_pos (by assumption)]
    done
  · go_ret
    refine ⟨ret_int ?_, rfl⟩
    rw [← hf.out, if_neg (by omega)]


noncomputable def X0 : CX.X := CX.X.mk' Tryz.prog 10 9 4 CX.noSym CX.noFacts CX.noOrc
theorem X0_ok : X0.Ok := CX.X.mk'_ok _ _ _ _ _ _ _ (CX.noFacts_ok _) (CX.noOrc_ok _ _) (by kernel_rfl)
/- A small whole number, as a fraction. -/
def qv (k : Int) : Value := .agg ⟨[.bool false, .int .u64 k, .string ⟨#[]⟩, .int .u64 0, .string ⟨#[]⟩]⟩
theorem known_run : CX.gives1 X0 2000 6 [] (.bool true) = true := by kernel_rfl
theorem known_any (w : World) : Calls Tryz.prog 6 #[] w fun e w' => e = .returned (.bool true) ∧ Below w.heap.size w w' :=
  CX.gives1_run X0_ok CX.noSym_one known_run rfl rfl w
def sgn (k : Int) : Int := if k = 0 then 0 else 1
theorem sign_any (k : Int) (h0 : 0 ≤ k) (h1 : k < 3) (w : World) : Calls Tryz.prog 16 #[qv k] w fun e w' => e = .returned (.int .i64 (sgn k)) ∧ Below w.heap.size w w' := by
  have : k = 0 ∨ k = 1 ∨ k = 2 := by omega
  rcases this with rfl | rfl | rfl
  · exact CX.gives1_run X0_ok CX.noSym_one (x := X0) (fuel := 2000) (av := [qv 0]) (v := .int .i64 0) (by kernel_rfl) rfl rfl w
  · exact CX.gives1_run X0_ok CX.noSym_one (x := X0) (fuel := 2000) (av := [qv 1]) (v := .int .i64 1) (by kernel_rfl) rfl rfl w
  · exact CX.gives1_run X0_ok CX.noSym_one (x := X0) (fuel := 2000) (av := [qv 2]) (v := .int .i64 1) (by kernel_rfl) rfl rfl w
theorem of_any (k : Int) (h0 : 0 ≤ k) (h1 : k < 3) (w : World) : Calls Tryz.prog 5 #[.int .i64 k] w fun e w' => e = .returned (qv k) ∧ Below w.heap.size w w' := by
  have : k = 0 ∨ k = 1 ∨ k = 2 := by omega
  rcases this with rfl | rfl | rfl
  · exact CX.gives1_run X0_ok CX.noSym_one (x := X0) (fuel := 2000) (av := [.int .i64 0]) (v := qv 0) (by kernel_rfl) rfl rfl w
  · exact CX.gives1_run X0_ok CX.noSym_one (x := X0) (fuel := 2000) (av := [.int .i64 1]) (v := qv 1) (by kernel_rfl) rfl rfl w
  · exact CX.gives1_run X0_ok CX.noSym_one (x := X0) (fuel := 2000) (av := [.int .i64 2]) (v := qv 2) (by kernel_rfl) rfl rfl w
end Go.Proofs.YtcpggpkkpjnodaaGreatDoor
