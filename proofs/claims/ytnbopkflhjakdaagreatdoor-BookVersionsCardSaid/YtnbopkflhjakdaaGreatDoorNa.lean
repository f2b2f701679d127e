/-
  Plain law of the disks (no program in sight); rows, blocks, what may have changed.
  And: The program's disk: contracts of NewDisk, Fuse, Sync, Safe, Down, burn, Clone, Bytes, Crash; of Pick, Few. Bytes appended; Few, Clone, Bytes. The program's disk: Crash, Write, Swap. The program's disk: Write. The program's disk: Swap.
-/
import Derived.Test.YtnbopkflhjakdaaGreatDoorProg
import Derived.WalkKit
import Derived.WalkSpells
import Derived.WalkLawsBesides
import Derived.Lib.Hide
import Derived.Deep.QuietTactic
import Derived.BigQuiet
import Derived.Below
import Derived.Laws.OwnMore
import Derived.Deep.AppendLies
import Derived.Deep.Draws
import Derived.Deep.RegionHeld3
import Derived.IntWalk
import Derived.OwnWalk
import Derived.OneCell
import Derived.Laws.MakeOwn
import Derived.Laws.Entries
import Derived.KernelRfl
import Derived.Deep.AppendSrc
import Derived.Deep.RegionLaw
namespace Go.Proofs.YtnbopkflhjakdaaGreatDoor.Dk
open Go Go.RowKit

structure St where
  xs : List Int
  room : Nat
  safe : Nat
  fuse : Option Nat
  dead : Bool

def wr (S : St) (b : List Int) : Int × St :=
  if S.dead = true then (15, S) else if S.room < S.xs.length + b.length then (14, S) else
    match S.fuse with
    | none => (0, { S with xs := S.xs ++ b })
    | some k => if b.length ≤ k then (0, { S with xs := S.xs ++ b, fuse := some (k - b.length) }) else (15, { S with xs := S.xs ++ b.take k, fuse := some 0, dead := true })
def sy (S : St) : Int × St := if S.dead = true then (15, S) else (0, { S with safe := S.xs.length })
def sw (S : St) (b : List Int) : Int × St :=
  if S.dead = true then (15, S) else if S.room < b.length then (14, S) else
    match S.fuse with
    | none => (0, { S with xs := b, safe := b.length })
    | some k => if b.length ≤ k then (0, { S with xs := b, safe := b.length, fuse := some (k - b.length) }) else (15, { S with fuse := some 0, dead := true })
def fu (S : St) (n : Nat) : St := { S with fuse := some n }
def cr (S : St) (keep : Nat) : St := { xs := S.xs.take (S.safe + min keep (S.xs.length - S.safe)), room := S.room, safe := S.safe + min keep (S.xs.length - S.safe), fuse := none, dead := false }

/- What may be: the bytes within the room, the safe ones among them, a fuse that is not great. -/
def Ok (S : St) : Prop := S.xs.length ≤ S.room ∧ S.room ≤ 4194304 ∧ S.safe ≤ S.xs.length ∧ ∀ k, S.fuse = some k → k ≤ 1000000

theorem wr_ok {S : St} (h : Ok S) (b : List Int) : Ok (wr S b).2 := by
  obtain ⟨h1, h2, h3, h4⟩ := h
  unfold wr
  split
  · exact ⟨h1, h2, h3, h4⟩
  · split
    · exact ⟨h1, h2, h3, h4⟩
    · split
      · next hf => exact ⟨by simp; omega, h2, by simp; omega, fun k hk => by simp [hf] at hk⟩
      · next k hf =>
        have := h4 k hf
        split
        · exact ⟨by simp; omega, h2, by simp; omega, fun j hj => by simp at hj; omega⟩
        · exact ⟨by simp; omega, h2, by simp; omega, fun j hj => by simp at hj; omega⟩
theorem sy_ok {S : St} (h : Ok S) : Ok (sy S).2 := by
  obtain ⟨h1, h2, h3, h4⟩ := h
  unfold sy
  split
  · exact ⟨h1, h2, h3, h4⟩
  · exact ⟨h1, h2, Nat.le_refl _, h4⟩
theorem sw_ok {S : St} (h : Ok S) (b : List Int) : Ok (sw S b).2 := by
  obtain ⟨h1, h2, h3, h4⟩ := h
  unfold sw
  split
  · exact ⟨h1, h2, h3, h4⟩
  · split
    · exact ⟨h1, h2, h3, h4⟩
    · split
      · next hf => exact ⟨by simp; omega, h2, Nat.le_refl _, fun k hk => by simp [hf] at hk⟩
      · next k hf =>
        have := h4 k hf
        split
        · exact ⟨by simp; omega, h2, Nat.le_refl _, fun j hj => by simp at hj; omega⟩
        · exact ⟨h1, h2, h3, fun j hj => by simp at hj; omega⟩
theorem fu_ok {S : St} (h : Ok S) {n : Nat} (hn : n ≤ 1000000) : Ok (fu S n) := ⟨h.1, h.2.1, h.2.2.1, fun k hk => by
  have : n = k := by simpa [fu] using hk
  omega⟩
theorem cr_ok {S : St} (h : Ok S) (n : Nat) : Ok (cr S n) := by
  obtain ⟨h1, h2, h3, h4⟩ := h
  refine ⟨?_, h2, ?_, fun k hk => by simp [cr] at hk⟩
  · simp [cr]; omega
  · simp [cr]; omega

/- Blocks that do not fit are as they were. -/
structure Alt (w w' : World) (p : Nat → Prop) : Prop where
  os : w'.os = w.os
  tape : w'.tape = w.tape
  output : w'.output = w.output
  size : w.heap.size ≤ w'.heap.size
  block : ∀ k, k < w.heap.size → ¬ p k → w'.heap[k]? = w.heap[k]?
section
variable {w w' w'' : World} {p q : Nat → Prop}
theorem Alt.refl (w : World) (p : Nat → Prop) : Alt w w p := ⟨rfl, rfl, rfl, Nat.le_refl _, fun _ _ _ => rfl⟩
theorem Alt.mono (h : Alt w w' p) (hp : ∀ k, p k → q k) : Alt w w' q := ⟨h.os, h.tape, h.output, h.size, fun k hk hq => h.block k hk fun h => hq (hp k h)⟩
theorem Alt.trans (h : Alt w w' p) (h' : Alt w' w'' q) (hp : ∀ k, k < w.heap.size → q k → p k) : Alt w w'' p :=
  ⟨h'.os.trans h.os, h'.tape.trans h.tape, h'.output.trans h.output, Nat.le_trans h.size h'.size, fun k hk hk' => (h'.block k (Nat.lt_of_lt_of_le hk h.size) fun hq => hk' (hp k hk hq)).trans (h.block k hk hk')⟩
theorem Alt.drewN (h : Alt w w' p) (n : Nat) : Alt w (w'.drewN n) p := ⟨h.os, h.tape, h.output, h.size, h.block⟩
theorem Alt.set_ (h : Alt w w' p) {a : Addr} (hp : p a.block) (v : Value) : Alt w (w'.setCell a v) p :=
  ⟨h.os, h.tape, h.output, by simpa using h.size, fun k hk hk' => (Below.heap_setCell w' a v k (fun e => hk' (by rw [e]; exact hp))).trans (h.block k hk hk')⟩
theorem Alt.alloc (h : Alt w w' p) (o : Obj) : Alt w (w'.alloc o) p :=
  ⟨h.os, h.tape, h.output, by have := h.size; simp; omega, fun k hk hk' => (Below.heap_alloc w' o k (Nat.lt_of_lt_of_le hk h.size)).trans (h.block k hk hk')⟩
theorem Alt.grown {row : Option Nat} (h : Alt w w' p) (hg : w'.grownBy w'' row) (hr : ∀ g, row = some g → g < w.heap.size → p g) : Alt w w'' p :=
  ⟨hg.os.trans h.os, hg.tape.trans h.tape, hg.output.trans h.output, Nat.le_trans h.size hg.size, fun k hk hk' =>
    (hg.block k (Nat.lt_of_lt_of_le hk h.size) (fun e => hk' (hr k e.symm hk))).trans (h.block k hk hk')⟩
theorem Alt.below {B : Nat} (h : Alt w w' p) (hp : ∀ k, p k → B ≤ k) (hB : B ≤ w.heap.size) : Below B w w' := ⟨h.os, h.tape, h.output, h.size, fun k hk => h.block k (by omega) fun hpk => by have := hp k hpk; omega⟩
end

def Blk (w : World) (g : Nat) (t : TypeId) (cs : Array Value) : Prop := w.heap[g]? = some (.cells cs t (0, 0))
section
variable {w w' : World} {g : Nat} {t : TypeId} {cs : Array Value}
theorem Blk.lt (h : Blk w g t cs) : g < w.heap.size := lt_of_block h
theorem Blk.cell (h : Blk w g t cs) (i : Nat) : w.cell? ⟨g, i, none⟩ = cs[i]? := by
  unfold Blk at h; simp [World.cell?, h]
theorem Blk.frozen (h : Blk w g t cs) (i : Nat) : w.frozen? ⟨g, i, none⟩ = false := by
  unfold Blk at h
  simp [World.frozen?, h]
theorem Blk.new (w : World) (t : TypeId) (cs : Array Value) : Blk (w.alloc (.cells cs t)) w.heap.size t cs := heap_alloc_new w _
theorem Blk.drewN (h : Blk w g t cs) (n : Nat) : Blk (w.drewN n) g t cs := h
theorem Blk.alloc (h : Blk w g t cs) (o : Obj) : Blk (w.alloc o) g t cs := (Below.heap_alloc w o g h.lt).trans h
theorem Blk.set_ (h : Blk w g t cs) (i : Nat) (u : Value) : Blk (w.setCell ⟨g, i, none⟩ u) g t (cs.setIfInBounds i u) := by
  unfold Blk at h ⊢
  simp [World.setCell, Array.getElem?_modify, h]
theorem Blk.far (h : Blk w g t cs) {p : Addr} (hp : g ≠ p.block) (u : Value) : Blk (w.setCell p u) g t cs := (Below.heap_setCell w p u g hp).trans h
theorem Blk.grown {row : Option Nat} (h : Blk w g t cs) (hb : w.grownBy w' row) (hg : some g ≠ row) : Blk w' g t cs := (hb.block g h.lt hg).trans h
theorem Blk.kept {p : Nat → Prop} (h : Blk w g t cs) (hb : Alt w w' p) (hg : ¬ p g) : Blk w' g t cs := (hb.block g h.lt hg).trans h
theorem Blk.ne_ {g' : Nat} {t' : TypeId} {cs' : Array Value} (h : Blk w g t cs) (h' : Blk w g' t' cs') (hne : t ≠ t') : g ≠ g' := by
  rintro rfl
  unfold Blk at h h'
  rw [h] at h'
  injection h' with h'
  injection h' with _ ht
  exact hne ht
end

/- Bytes of one's own. -/
def Own (w : World) (base : Nat) (v : Value) (xs : List Int) : Prop := w.ownsRow base 5 1 v xs.length (xs.map (Value.int .u8))
section
variable {w w' : World} {b0 : Nat} {v : Value} {xs : List Int} {g : Nat} {t : TypeId} {cs : Array Value}
theorem Own.slice (h : Own w b0 v xs) : ∃ A c, v = .slice A xs.length c ∧ (0 < xs.length → ∃ g, A = some ⟨g, 0, none⟩) := by
  rcases h.2 with ⟨rfl, hn⟩ | ⟨g, cap, cur, rfl, _⟩
  · exact ⟨none, 0, by rw [hn], fun h => by omega⟩
  · exact ⟨_, _, rfl, fun _ => ⟨g, rfl⟩⟩
theorem Own.ne (h : Own w b0 v xs) (hg : Blk w g t cs) (hne : 5 ≠ t) : v.ownBlock ≠ some g := by
  rcases h.2 with ⟨rfl, _⟩ | ⟨g', cap, cur, rfl, _, hh, _⟩
  · simp [Value.ownBlock]
  · intro he
    have : g' = g := by simpa [Value.ownBlock] using he
    subst this
    exact Blk.ne_ (t := 5) hh hg hne rfl
theorem Own.base (h : Own w b0 v xs) {k : Nat} (hk : v.ownBlock = some k) : b0 ≤ k ∧ k < w.heap.size := h.lt k hk
theorem Own.keep {p : Nat → Prop} (h : Own w b0 v xs) (hb : Alt w w' p) (hv : ∀ k, v.ownBlock = some k → ¬ p k) : Own w' b0 v xs := by
  refine ⟨h.1, ?_⟩
  rcases h.2 with h0 | ⟨g, cap, cur, rfl, h1, h2, h3⟩
  · exact .inl h0
  · exact .inr ⟨g, cap, cur, rfl, h1, (hb.block g (lt_of_block h2) (hv g rfl)).trans h2, h3⟩
/- Of a slice a first part. -/
theorem Own.take_ (h : Own w b0 v xs) {k : Nat} (hk : k ≤ xs.length) : ∃ v', Own w b0 v' (xs.take k) ∧ v'.ownBlock = v.ownBlock ∧ (∀ A n c, v = .slice A n c → v' = .slice A k c) := by
  rcases h.2 with ⟨rfl, h0⟩ | ⟨g, cap, cur, rfl, h1, h2, h3, h4, h5, h6⟩
  · refine ⟨.slice none 0 0, ⟨by simp <;> omega, .inl ⟨rfl, by simp <;> omega⟩⟩, rfl, fun A n c e => ?_⟩
    injection e with e1 e2 e3
    subst e1; subst e2; subst e3
    rw [show k = 0 by omega]
  · refine ⟨.slice (some ⟨g, 0, none⟩) k cap, ⟨by simp, .inr ⟨g, cap, cur, by rw [show (xs.take k).length = k by simp; omega], h1, h2, by simp; omega, h4, h5, ?_⟩⟩, rfl, fun A n c e => ?_⟩
    · rw [show (xs.take k).length = k by simp; omega, List.map_take, ← h6, Nat.mul_one, List.take_take, Nat.mul_one, Nat.min_eq_left hk]
    · injection e with e1 e2 e3
      subst e1; subst e2; subst e3; rfl
end

/- A slice that reads as bytes. -/
theorem block_of_add (a : Addr) (n : Nat) : (a.add n).block = a.block := by unfold Addr.add; split <;> rfl
def Rd (w : World) (size : Nat) (A : Option Addr) (n : Nat) (xs : List Value) : Prop :=
  xs.length = n * size ∧ (0 < n → ∃ ad, A = some ad ∧ ad.block < w.heap.size ∧ ∀ j u, xs[j]? = some u → w.cell? (ad.add j) = some u)
end Go.Proofs.YtnbopkflhjakdaaGreatDoor.Dk
namespace Go.Proofs.YtnbopkflhjakdaaGreatDoor.Dk
open Go Go.RowKit

theorem cells6 {w : World} {g : Nat} {t : TypeId} {a b c d e f : Value} (h : Blk w g t #[a, b, c, d, e, f]) :
    (w.cell? ⟨g, 0, none⟩ = some a ∧ w.cell? ⟨g, 1, none⟩ = some b ∧ w.cell? ⟨g, 2, none⟩ = some c ∧ w.cell? ⟨g, 3, none⟩ = some d ∧ w.cell? ⟨g, 4, none⟩ = some e ∧ w.cell? ⟨g, 5, none⟩ = some f) ∧
    ∀ i, w.frozen? ⟨g, i, none⟩ = false :=
  ⟨⟨h.cell 0, h.cell 1, h.cell 2, h.cell 3, h.cell 4, h.cell 5⟩, h.frozen⟩
theorem cells5 {w : World} {g : Nat} {t : TypeId} {a b c d e : Value} (h : Blk w g t #[a, b, c, d, e]) :
    (w.cell? ⟨g, 0, none⟩ = some a ∧ w.cell? ⟨g, 1, none⟩ = some b ∧ w.cell? ⟨g, 2, none⟩ = some c ∧ w.cell? ⟨g, 3, none⟩ = some d ∧ w.cell? ⟨g, 4, none⟩ = some e) ∧
    ∀ i, w.frozen? ⟨g, i, none⟩ = false :=
  ⟨⟨h.cell 0, h.cell 1, h.cell 2, h.cell 3, h.cell 4⟩, h.frozen⟩

def pc (v : Value) (S : St) (f : Int) : Array Value := #[v, .int .i64 S.room, .int .i64 S.safe, .bool S.dead, .bool S.fuse.isSome, .int .i64 f]

theorem ret_int {k : IntKind} {a b : Int} (h : a = b) : Ending.returned (.int k a) = .returned (.int k b) := by rw [h]

set_option maxHeartbeats 400000 in
set_option maxRecDepth 100000 in
theorem pnew_any (n : Int) (w : World) (h0 : -10 ≤ n) (h1 : n ≤ 4194304) :
    Calls Tryz.prog 5 #[.int .i64 n] w fun e w' => e = .returned (.pointer (some ⟨w.heap.size, 0, none⟩)) ∧
      w' = w.alloc (.cells (pc (.slice none 0 0) ⟨[], n.toNat, 0, none, false⟩ 0) 84) := by
  go_enter Tryz.func5, Tryz.ntmps5
  rcases (show n < 0 ∨ 0 ≤ n by omega) with h | h
  · have e : n.toNat = 0 := by omega
    go_wp2
    go_ret
    refine ⟨rfl, ?_⟩
    simp [pc, e]
  · have e : ((n.toNat : Nat) : Int) = n := by omega
    go_wp2
    go_ret
    refine ⟨rfl, ?_⟩
    simp [pc, e]

set_option maxHeartbeats 400000 in
set_option maxRecDepth 100000 in
theorem psync_any (g : Nat) (A : Option Addr) (c : Nat) (S : St) (f : Int) (w : World) (h : Blk w g 84 (pc (.slice A S.xs.length c) S f)) :
    Calls Tryz.prog 51 #[.pointer (some ⟨g, 0, none⟩)] w fun e w' => e = .returned (.int .i64 (sy S).1) ∧
      Blk w' g 84 (pc (.slice A S.xs.length c) (sy S).2 f) ∧ Alt w w' (fun k => k = g) := by
  obtain ⟨⟨c0, c1, c2, c3, c4, c5⟩, fz⟩ := cells6 h
  have H := Lib.hid h
  clear h
  rcases hd : S.dead with _ | _
  · have HD := Lib.hid hd
    rw [hd] at c3
    clear hd
    go_enter Tryz.func51, Tryz.ntmps51
    go_wp2
    go_ret
    refine ⟨?_, ?_, (Alt.refl w (fun k => k = g)).set_ rfl _⟩
    · rw [sy, if_neg (by rw [HD.out]; decide)]; rfl
    · have h2 := H.out.set_ 2 (.int .i64 (S.xs.length : Int))
      rw [sy, if_neg (by rw [HD.out]; decide)]
      simpa [pc] using h2
  · have HD := Lib.hid hd
    rw [hd] at c3
    clear hd
    go_enter Tryz.func51, Tryz.ntmps51
    go_wp2
    go_ret
    refine ⟨?_, ?_, Alt.refl w (fun k => k = g)⟩
    · rw [sy, if_pos HD.out]; rfl
    · rw [sy, if_pos HD.out]; exact H.out

/- burn: without a fuse; within it; past it. -/
set_option maxHeartbeats 400000 in
set_option maxRecDepth 100000 in
theorem burn_un (g n : Nat) (v : Value) (S : St) (f : Int) (w : World) (h : Blk w g 84 (pc v S f)) (hf : S.fuse = none) :
    Calls Tryz.prog 33 #[.pointer (some ⟨g, 0, none⟩), .int .i64 n] w fun e w' => e = .returned (.int .i64 n) ∧ w' = w := by
  obtain ⟨⟨c0, c1, c2, c3, c4, c5⟩, fz⟩ := cells6 h
  rw [hf] at c4
  clear h hf
  go_enter Tryz.func33, Tryz.ntmps33
  go_wp2
  go_ret
  exact ⟨rfl, rfl⟩
set_option maxHeartbeats 400000 in
set_option maxRecDepth 100000 in
theorem burn_in (g n k : Nat) (v : Value) (S : St) (w : World) (h : Blk w g 84 (pc v S (k : Int))) (hf : S.fuse = some k) (hn : n ≤ k) (hk : k ≤ 1000000) :
    Calls Tryz.prog 33 #[.pointer (some ⟨g, 0, none⟩), .int .i64 n] w fun e w' => e = .returned (.int .i64 n) ∧ w' = w.setCell ⟨g, 5, none⟩ (.int .i64 ((k - n : Nat) : Int)) := by
  obtain ⟨⟨c0, c1, c2, c3, c4, c5⟩, fz⟩ := cells6 h
  rw [hf] at c4
  have e := Lib.hid (show ((k - n : Nat) : Int) = (k : Int) - n by omega)
  clear h hf
  go_enter Tryz.func33, Tryz.ntmps33
  go_wp2
  go_ret
  refine ⟨rfl, ?_⟩
  rw [e.out]
set_option maxHeartbeats 400000 in
set_option maxRecDepth 100000 in
theorem burn_over (g n k : Nat) (v : Value) (S : St) (w : World) (h : Blk w g 84 (pc v S (k : Int))) (hf : S.fuse = some k) (hn : k < n) (_hk : n ≤ 1000000) :
    Calls Tryz.prog 33 #[.pointer (some ⟨g, 0, none⟩), .int .i64 n] w fun e w' => e = .returned (.int .i64 k) ∧ w' = (w.setCell ⟨g, 3, none⟩ (.bool true)).setCell ⟨g, 5, none⟩ (.int .i64 0) := by
  obtain ⟨⟨c0, c1, c2, c3, c4, c5⟩, fz⟩ := cells6 h
  rw [hf] at c4
  clear h hf
  go_enter Tryz.func33, Tryz.ntmps33
  go_wp2
  go_ret
  refine ⟨rfl, ?_⟩
  simp
end Go.Proofs.YtnbopkflhjakdaaGreatDoor.Dk
namespace Go.Proofs.YtnbopkflhjakdaaGreatDoor.Dk
open Go Go.RowKit

theorem infoByte : (Tryz.prog.info? 5).map (fun i => (i.zero, i.size, i.bytes)) = some (some (.int .u8 0), 1, 1) := by kernel_rfl

/- A slice that reads as bytes. -/
def Rb (w : World) (A : Option Addr) (ys : List Int) : Prop := 0 < ys.length → ∃ ad, A = some ad ∧ ad.block < w.heap.size ∧ ∀ j u, (ys.map (Value.int .u8))[j]? = some u → w.cell? (ad.add j) = some u
theorem Rb.keep {w w' : World} {A : Option Addr} {ys : List Int} {p : Nat → Prop} (h : Rb w A ys) (hk : Alt w w' p) (hp : ∀ ad, A = some ad → ¬ p ad.block) : Rb w' A ys := fun hn => by
  obtain ⟨ad, e, hb, hc⟩ := h hn
  exact ⟨ad, e, Nat.lt_of_lt_of_le hb hk.size, fun j u hu => (World.cell?_of_block (by rw [block_of_add]; exact hk.block _ hb (hp ad e))).trans (hc j u hu)⟩
theorem Rb.take_ {w : World} {A : Option Addr} {ys : List Int} (h : Rb w A ys) (k : Nat) : Rb w A (ys.take k) := fun hn => by
  obtain ⟨ad, e, hb, hc⟩ := h (by simp at hn; omega)
  refine ⟨ad, e, hb, fun j u hu => hc j u ?_⟩
  rw [List.map_take] at hu
  rw [List.getElem?_take] at hu
  split at hu
  · exact hu
  · cases hu
theorem Rb.of_own {w : World} {b0 : Nat} {A : Option Addr} {n c : Nat} {xs : List Int} (h : Own w b0 (.slice A n c) xs) : Rb w A xs := fun hn => by
  obtain ⟨g, cap, hv, _, hlt⟩ := World.ownsRow.form h hn
  injection hv with hA
  subst hA
  exact ⟨_, rfl, hlt, World.ownsRow.cells h (g := g) rfl⟩
theorem Rb.nil (w : World) (A : Option Addr) : Rb w A [] := fun h => by simp at h

theorem bytes_one (ys : List Int) : ∀ u ∈ ys.map (Value.int .u8), u.oneCell' = true := by
  intro u hu
  obtain ⟨x, _, rfl⟩ := List.mem_map.1 hu
  rfl

theorem app_run (w : World) {b0 : Nat} {v : Value} {xs : List Int} (hown : Own w b0 v xs) {A : Option Addr} {c : Nat} {ys : List Int} (hy : Rb w A ys) (ty : TypeId) (hb : xs.length + ys.length ≤ 100000000) (hbase : b0 ≤ w.heap.size) :
    ∃ A' c' w', (Builtin.append_ #[82, 82] ty #[v, .slice A ys.length c]).run Tryz.prog w = .ok (.slice A' (xs.length + ys.length) c') w' ∧
      Own w' b0 (.slice A' (xs.length + ys.length) c') (xs ++ ys) ∧ w.grownBy w' v.ownBlock ∧ ((Value.slice A' (xs.length + ys.length) c').ownBlock = v.ownBlock ∨ (Value.slice A' (xs.length + ys.length) c').ownBlock = some w.heap.size) := by
  obtain ⟨i0, hi0, hz0, hz1, hz2⟩ := info_parts infoByte
  have fin : ∀ v' w', (Builtin.append_ #[82, 82] ty #[v, .slice A ys.length c]).run Tryz.prog w = .ok v' w' → Own w' b0 v' (xs ++ ys) → w.grownBy w' v.ownBlock → (v'.ownBlock = v.ownBlock ∨ v'.ownBlock = some w.heap.size) →
      ∃ A' c' w', (Builtin.append_ #[82, 82] ty #[v, .slice A ys.length c]).run Tryz.prog w = .ok (.slice A' (xs.length + ys.length) c') w' ∧
      Own w' b0 (.slice A' (xs.length + ys.length) c') (xs ++ ys) ∧ w.grownBy w' v.ownBlock ∧ ((Value.slice A' (xs.length + ys.length) c').ownBlock = v.ownBlock ∨ (Value.slice A' (xs.length + ys.length) c').ownBlock = some w.heap.size) := by
    intro v' w' h1 h2 h3 h4
    obtain ⟨A', c', rfl, _⟩ := h2.slice
    rw [List.length_append] at h1 h2 h4
    exact ⟨A', c', w', h1, h2, h3, h4⟩
  rcases A with _ | ad
  · have h0 : ys = [] := by
      rcases ys with _ | ⟨y, ys⟩
      · rfl
      · obtain ⟨_, h, _⟩ := hy (by simp)
        cases h
    subst h0
    refine fin v w ?_ (by simpa using hown) ⟨rfl, rfl, rfl, Nat.le_refl _, fun _ _ _ => rfl⟩ (.inl rfl)
    rcases hown.2 with ⟨rfl, hn⟩ | ⟨g, cap, cur, rfl, _, hg, hcap, _, hsz, _⟩
    · simp [Builtin.append_, run_underlying Tryz.underlying82, sizeOf, typeInfo, hi0, Builtin.lenOf, Builtin.firstCells]
    · have := run_append_room_src (P := Tryz.prog) w 82 82 ty 5 i0 Tryz.underlying82 hi0 g 0 xs.length cap (.slice none 0 c) 0 [] (Src.ofNil w Tryz.underlying82 c) hcap (fun j hj => by simp at hj) (fun j hj => by simp at hj)
      simpa [World.setCells] using this
  · by_cases h0 : ys.length = 0
    · have h0 : ys = [] := List.eq_nil_of_length_eq_zero h0
      subst h0
      obtain ⟨v', w', h1, h2, h3, _, h5⟩ := run_append_own_at (P := Tryz.prog) w b0 82 ty 5 i0 _ 1 1 Tryz.underlying82 hi0 hz0 hz1 hz2 rfl (by decide) v xs.length (xs.map (Value.int .u8)) hown ad 0 c [] rfl (fun j u h => by simp at h) (fun u h => by simp at h) (by unfold maxLen; simp at hb; omega) (by simp at hb; omega) hbase
      refine fin v' w' h1 ?_ h3 h5
      simpa [Own] using h2
    · obtain ⟨ad', e, _, hc⟩ := hy (by omega)
      cases e
      obtain ⟨v', w', h1, h2, h3, _, h5⟩ := run_append_own_at (P := Tryz.prog) w b0 82 ty 5 i0 _ 1 1 Tryz.underlying82 hi0 hz0 hz1 hz2 rfl (by decide) v xs.length (xs.map (Value.int .u8)) hown ad ys.length c (ys.map (Value.int .u8)) (by simp) hc (bytes_one ys) (by unfold maxLen; omega) (by omega) hbase
      refine fin v' w' h1 ?_ h3 h5
      unfold Own
      rw [List.length_append, List.map_append]; exact h2

theorem wp_app {o : Oper} {a : Act} {K : Act → World → Prop} {Q : Exit → Act → World → Prop} (w : World) (s x : Operand)
    (ho : o.op = .call { callee := .builtin .append, args := #[s, x], argTypes := #[82, 82] })
    {b0 : Nat} {v : Value} {xs : List Int} (hs : a.eval s = v) (hown : Own w b0 v xs) {A : Option Addr} {c : Nat} {ys : List Int} (hx : a.eval x = .slice A ys.length c) (hy : Rb w A ys) (hb : xs.length + ys.length ≤ 100000000) (hbase : b0 ≤ w.heap.size)
    (h : ∀ A' c' w', Own w' b0 (.slice A' (xs.length + ys.length) c') (xs ++ ys) → w.grownBy w' v.ownBlock → ((Value.slice A' (xs.length + ys.length) c').ownBlock = v.ownBlock ∨ (Value.slice A' (xs.length + ys.length) c').ownBlock = some w.heap.size) → K (a.put o.dst (.slice A' (xs.length + ys.length) c')) w') : o.wp Tryz.prog a w K Q := by
  obtain ⟨A', c', w', hr, h2, h3, h4⟩ := app_run w hown hy (c := c) o.type hb hbase
  unfold Oper.wp execOp
  simp only [ho, resolve, invoke, builtin, Sem.run_bind, Sem.run_pure, Result.andThen_ok, List.map_toArray, List.map_cons, List.map_nil, hs, hx, hr]
  exact h A' c' w' h2 h3 h4
theorem wpList_app {ops : Array Oper} {rest : List Oper} {o : Oper} {a : Act} {Q : Exit → Act → World → Prop} (w : World) (hgd : o.guard = none) (s x : Operand)
    (ho : o.op = .call { callee := .builtin .append, args := #[s, x], argTypes := #[82, 82] })
    {b0 : Nat} {v : Value} {xs : List Int} (hs : a.eval s = v) (hown : Own w b0 v xs) {A : Option Addr} {c : Nat} {ys : List Int} (hx : a.eval x = .slice A ys.length c) (hy : Rb w A ys) (hb : xs.length + ys.length ≤ 100000000) (hbase : b0 ≤ w.heap.size)
    (h : ∀ A' c' w', Own w' b0 (.slice A' (xs.length + ys.length) c') (xs ++ ys) → w.grownBy w' v.ownBlock → ((Value.slice A' (xs.length + ys.length) c').ownBlock = v.ownBlock ∨ (Value.slice A' (xs.length + ys.length) c').ownBlock = some w.heap.size) → wpList Tryz.prog ops Q rest (a.put o.dst (.slice A' (xs.length + ys.length) c')) w') : wpList Tryz.prog ops Q (o :: rest) a w :=
  wpList_plain hgd fun _ hK => wp_app w s x ho hs hown hx hy hb hbase fun A' c' w' h2 h3 h4 => hK _ _ (h A' c' w' h2 h3 h4)
theorem step_app {ops : Array Oper} {o : Oper} {a : Act} {K : Act → World → Prop} {Q : Exit → Act → World → Prop} {E : Prop} (w : World) (hgd : o.guard = none) (s x : Operand)
    (ho : o.op = .call { callee := .builtin .append, args := #[s, x], argTypes := #[82, 82] })
    {b0 : Nat} {v : Value} {xs : List Int} (hs : a.eval s = v) (hown : Own w b0 v xs) {A : Option Addr} {c : Nat} {ys : List Int} (hx : a.eval x = .slice A ys.length c) (hy : Rb w A ys) (hb : xs.length + ys.length ≤ 100000000) (hbase : b0 ≤ w.heap.size)
    (h : ∀ A' c' w', Own w' b0 (.slice A' (xs.length + ys.length) c') (xs ++ ys) → w.grownBy w' v.ownBlock → ((Value.slice A' (xs.length + ys.length) c').ownBlock = v.ownBlock ∨ (Value.slice A' (xs.length + ys.length) c').ownBlock = some w.heap.size) → K (a.put o.dst (.slice A' (xs.length + ys.length) c')) w') :
    if Region.wanted o (yielded ops a.tmps) = true then Oper.wp Tryz.prog o a w K Q else E := by
  have hw : Region.wanted o (yielded ops a.tmps) = true := by simp [Region.wanted, hgd]
  rw [if_pos hw]
  exact wp_app w s x ho hs hown hx hy hb hbase h

/- New bytes: those of an empty literal. -/
theorem own_empty (w : World) : Own (w.alloc (.cells #[] 5)) w.heap.size (.slice (some ⟨w.heap.size, 0, none⟩) 0 0) [] :=
  World.ownsRow_made w #[] 0 (Nat.le_refl _) (by unfold maxLen; omega) rfl

set_option maxHeartbeats 400000 in
set_option maxRecDepth 100000 in
theorem clone_any (A : Option Addr) (c : Nat) (ys : List Int) (w : World) (hy : Rb w A ys) (hl : ys.length ≤ 10000000) (hA : A = none → ys.length = 0 ∧ c = 0) :
    Calls Tryz.prog 34 #[.slice A ys.length c] w fun e w' => ∃ A' c', e = .returned (.slice A' ys.length c') ∧ Own w' w.heap.size (.slice A' ys.length c') ys ∧ Alt w w' (fun _ => False) := by
  have HY := Lib.hid hy
  clear hy
  have q : ∀ W a n c n' c', (binOp .eql 82 (.slice a n c) (.slice none n' c')).run Tryz.prog W = .ok (.bool a.isNone) W := fun W a n c n' c' => Lib.run_eql_slice_nil W _ _ a n c n' c' Tryz.underlying82
  rcases A with _ | ad
  · obtain ⟨h0, rfl⟩ := hA rfl
    obtain rfl : ys = [] := List.eq_nil_of_length_eq_zero h0
    clear hA h0
    go_enter Tryz.func34, Tryz.ntmps34
    go_wp2
    go_ret
    exact ⟨none, 0, rfl, World.ownsRow_nil _ _ _ _, Alt.refl _ _⟩
  · clear hA
    go_enter Tryz.func34, Tryz.ntmps34
    go_wp2_with (at_builtin; refine wpList_app _ rfl _ _ rfl rfl (own_empty w) (ys := ys) rfl (HY.out.keep (Alt.alloc (Alt.refl w (fun _ => False)) _) (fun _ _ h => h)) (by simp; omega) (by simp) ?_; intro A' c' w1 hown hgrow _)
    go_ret
    simp only [List.nil_append, List.length_nil, Nat.zero_add] at hown
    refine ⟨A', c', by simp, hown, ?_⟩
    refine (Alt.alloc (Alt.refl w (fun _ => False)) _).grown hgrow (fun g hg hlt => ?_)
    have e : w.heap.size = g := by injection (show some w.heap.size = some g from hg)
    omega

theorem Own.none_ {w : World} {b0 n c : Nat} {xs : List Int} (h : Own w b0 (.slice none n c) xs) : xs.length = 0 ∧ c = 0 := by
  rcases h.2 with ⟨e, h0⟩ | ⟨g, cap, cur, e, _⟩
  · injection e with _ _ e3
    exact ⟨h0, e3⟩
  · injection e with e; cases e

theorem own_more {w : World} {b0 b1 : Nat} {v : Value} {xs : List Int} (h : Own w b1 v xs) (hb : b0 ≤ b1) : Own w b0 v xs := by
  refine ⟨h.1, ?_⟩
  rcases h.2 with h0 | ⟨g', cap, cur, h1, h2, h3⟩
  · exact .inl h0
  · exact .inr ⟨g', cap, cur, h1, by omega, h3⟩

end Go.Proofs.YtnbopkflhjakdaaGreatDoor.Dk
namespace Go.Proofs.YtnbopkflhjakdaaGreatDoor.Dk
open Go Go.RowKit

theorem Blk.to {w : World} {g : Nat} {t : TypeId} {cs cs' : Array Value} (h : Blk w g t cs') (e : cs' = cs) : Blk w g t cs := e ▸ h

set_option maxHeartbeats 1000000 in
set_option maxRecDepth 100000 in
theorem pcrash_any (g : Nat) (A : Option Addr) (c b0 : Nat) (S : St) (f n : Int) (w : World) (h : Blk w g 84 (pc (.slice A S.xs.length c) S f)) (ho : Own w b0 (.slice A S.xs.length c) S.xs) (hok : Ok S) (h0 : -9223372036854775808 ≤ n) (h1 : n ≤ 9223372036854775807) :
    Calls Tryz.prog 10 #[.pointer (some ⟨g, 0, none⟩), .int .i64 n] w fun e w' => e = .returned (.tuple #[]) ∧
      ∃ A' c', Blk w' g 84 (pc (.slice A' (cr S n.toNat).xs.length c') (cr S n.toNat) 0) ∧ Own w' b0 (.slice A' (cr S n.toNat).xs.length c') (cr S n.toNat).xs ∧ Alt w w' (fun k => k = g) ∧
        (Value.slice A' (cr S n.toNat).xs.length c').ownBlock = (Value.slice A S.xs.length c).ownBlock := by
  obtain ⟨⟨c0, c1, c2, c3, c4, c5⟩, fz⟩ := cells6 h
  obtain ⟨k1, k2, k3, k4⟩ := hok
  have H := Lib.hid h
  have HO := Lib.hid ho
  have hcap : S.xs.length ≤ c := by
    rcases ho.2 with ⟨e, h0⟩ | ⟨g, cap, cur, e, _, _, h3, _⟩
    · omega
    · injection e with _ _ e3; omega
  obtain ⟨m, hm⟩ : ∃ m, m = S.safe + min n.toNat (S.xs.length - S.safe) := ⟨_, rfl⟩
  have HM := Lib.hid hm
  clear hm h ho k4
  have hlen : (cr S n.toNat).xs.length = m := by have := HM.out; simp [cr]; omega
  have HL := Lib.hid hlen
  clear hlen
  have fin : ∀ w' A', A' = A ∨ (S.xs.length = 0 ∧ A' = none ∧ A = none) → Blk w' g 84 (pc (.slice A' m c) (cr S n.toNat) 0) → Alt w w' (fun k => k = g) → ∃ A' c', Blk w' g 84 (pc (.slice A' (cr S n.toNat).xs.length c') (cr S n.toNat) 0) ∧ Own w' b0 (.slice A' (cr S n.toNat).xs.length c') (cr S n.toNat).xs ∧ Alt w w' (fun k => k = g) ∧
        (Value.slice A' (cr S n.toNat).xs.length c').ownBlock = (Value.slice A S.xs.length c).ownBlock := by
    intro w' A' hA hb ha
    have hA : A' = A := by rcases hA with h | ⟨_, h, h'⟩ <;> simp [*]
    subst hA
    rw [HL.out]
    obtain ⟨v', h1, h2, h3⟩ := HO.out.take_ (k := m) (by have := HM.out; omega)
    obtain rfl := h3 _ _ _ rfl
    have e : (cr S n.toNat).xs = S.xs.take m := by rw [HM.out]; rfl
    refine ⟨A', c, hb, ?_, ha, h2⟩
    rw [e]
    exact h1.keep ha (fun k hk e => by
      subst e
      exact HO.out.ne H.out (by decide) (by rw [← h2]; exact hk))
  have FIN := Lib.hid fin
  clear fin
  have hsafe : Hid ((cr S n.toNat).safe = m) := HM.out.symm
  rcases A with _ | ad
  · obtain ⟨z1, z2⟩ := HO.out.none_
    subst z2
    have z3 : S.safe = 0 := by omega
    have z4 := Lib.hid (show m = 0 by have := HM.out; omega)
    rw [z1] at c0
    rw [z3] at c2
    clear k1 k3 hcap z1 z3
    rcases (show n < 0 ∨ n = 0 ∨ 0 < n by omega) with p1 | rfl | p1
    all_goals
      go_enter Tryz.func10, Tryz.ntmps10
      go_wp2
      go_quiet (fail)
      go_wp2
      go_region
      go_wp2
      go_end0
      refine ⟨rfl, FIN.out _ none (.inl rfl) (Blk.to (((((H.out.drewN _).set_ 0 _).set_ 2 _).set_ 3 _).set_ 4 _ |>.set_ 5 _) ?_) ((((((Alt.refl w (fun k => k = g)).drewN _).set_ rfl _).set_ rfl _).set_ rfl _).set_ rfl _ |>.set_ rfl _)⟩
      have e := hsafe.out
      have e2 := z4.out
      rw [e2] at e
      simp [pc, e, e2]
      simp [cr] <;> (have := HM.out; omega)
  · rcases (show (n < 0 ∧ m = S.safe) ∨ (0 ≤ n ∧ n ≤ (S.xs.length : Int) - S.safe ∧ (m : Int) = S.safe + n) ∨ (0 ≤ n ∧ (S.xs.length : Int) - S.safe < n ∧ m = S.xs.length) by have := HM.out; omega) with ⟨p1, p2⟩ | ⟨p1, p2, p3⟩ | ⟨p1, p2, p3⟩
    · have P := Lib.hid p2
      clear h0 h1 p2
      go_enter Tryz.func10, Tryz.ntmps10
      go_wp2
      go_quiet (fail)
      go_wp2
      go_region
      go_wp2
      go_end0
      refine ⟨rfl, FIN.out _ (some ad) (.inl rfl) (Blk.to (((((H.out.drewN _).set_ 0 _).set_ 2 _).set_ 3 _).set_ 4 _ |>.set_ 5 _) ?_) ((((((Alt.refl w (fun k => k = g)).drewN _).set_ rfl _).set_ rfl _).set_ rfl _).set_ rfl _ |>.set_ rfl _)⟩
      have e := hsafe.out
      rw [P.out] at e ⊢
      simp [pc, e]
      simp [cr]
    · have P := Lib.hid p3
      clear h0 h1 p3
      go_enter Tryz.func10, Tryz.ntmps10
      go_wp2
      go_quiet (fail)
      go_wp2
      go_region
      go_wp2
      go_end0
      have e3 : (S.safe + n : Int).toNat = m := by have := P.out; omega
      have e4 : max ((S.safe : Int) + n) 0 = (m : Int) := by have := P.out; omega
      rw [e3, e4]
      refine ⟨rfl, FIN.out _ (some ad) (.inl rfl) (Blk.to (((((H.out.drewN _).set_ 0 _).set_ 2 _).set_ 3 _).set_ 4 _ |>.set_ 5 _) ?_) ((((((Alt.refl w (fun k => k = g)).drewN _).set_ rfl _).set_ rfl _).set_ rfl _).set_ rfl _ |>.set_ rfl _)⟩
      have e := hsafe.out
      simp [pc, e]
      simp [cr]
    · have P := Lib.hid p3
      clear h0 h1 p3
      go_enter Tryz.func10, Tryz.ntmps10
      go_wp2
      go_quiet (fail)
      go_wp2
      go_region
      go_wp2
      go_end0
      refine ⟨rfl, FIN.out _ (some ad) (.inl rfl) (Blk.to (((((H.out.drewN _).set_ 0 _).set_ 2 _).set_ 3 _).set_ 4 _ |>.set_ 5 _) ?_) ((((((Alt.refl w (fun k => k = g)).drewN _).set_ rfl _).set_ rfl _).set_ rfl _).set_ rfl _ |>.set_ rfl _)⟩
      have e := hsafe.out
      rw [P.out] at e ⊢
      simp [pc, e]
      simp [cr]

/- The room is not enough, or it is: as the test has it. -/
theorem own_cap {w : World} {b0 n c : Nat} {A : Option Addr} {xs : List Int} (h : Own w b0 (.slice A n c) xs) : n = xs.length ∧ xs.length ≤ c := by
  rcases h.2 with ⟨e, h0⟩ | ⟨g, cap, cur, e, _, _, h3, _⟩
  · injection e with _ e2 e3; omega
  · injection e with _ e2 e3; omega

end Go.Proofs.YtnbopkflhjakdaaGreatDoor.Dk
namespace Go.Proofs.YtnbopkflhjakdaaGreatDoor.Dk
open Go Go.RowKit

def WPost (w : World) (g b0 : Nat) (v : Value) (r : Int × St) (e : Ending) (w' : World) : Prop :=
  e = .returned (.int .i64 r.1) ∧ ∃ A' c' f', Blk w' g 84 (pc (.slice A' r.2.xs.length c') r.2 f') ∧ (∀ k, r.2.fuse = some k → f' = k) ∧ Own w' b0 (.slice A' r.2.xs.length c') r.2.xs ∧
    Alt w w' (fun k => k = g ∨ v.ownBlock = some k) ∧ ((Value.slice A' r.2.xs.length c').ownBlock = v.ownBlock ∨ ∀ k, (Value.slice A' r.2.xs.length c').ownBlock = some k → w.heap.size ≤ k)

set_option maxHeartbeats 1000000 in
set_option maxRecDepth 100000 in
theorem pwrite_any (g : Nat) (A B : Option Addr) (c d b0 : Nat) (S : St) (f : Int) (ys : List Int) (w : World) (h : Blk w g 84 (pc (.slice A S.xs.length c) S f)) (hf : ∀ k, S.fuse = some k → f = k)
    (ho : Own w b0 (.slice A S.xs.length c) S.xs) (hok : Ok S) (hy : Rb w B ys) (_hB : B = none → ys.length = 0 ∧ d = 0) (hl : ys.length ≤ 1000000) (hd : ys.length ≤ d) (hBg : ∀ ad, B = some ad → ¬ ad.block = g) (hb0 : b0 ≤ w.heap.size) :
    Calls Tryz.prog 50 #[.pointer (some ⟨g, 0, none⟩), .slice B ys.length d] w (WPost w g b0 (.slice A S.xs.length c) (wr S ys)) := by
  obtain ⟨⟨c0, c1, c2, c3, c4, c5⟩, fz⟩ := cells6 h
  obtain ⟨k1, k2, k3, k4⟩ := hok
  have hne := Lib.hid (ho.ne h (by decide))
  have H := Lib.hid h
  have HO := Lib.hid ho
  have HY := Lib.hid hy
  clear h ho hy
  rcases hdd : S.dead with _ | _
  · by_cases hr : S.room < S.xs.length + ys.length
    · have hw : Hid (wr S ys = (14, S)) := by show _ = _; rw [wr, if_neg (by rw [hdd]; decide), if_pos hr]
      rw [hdd] at c3
      clear hdd
      go_enter Tryz.func50, Tryz.ntmps50
      go_wp2
      go_quiet (fail)
      go_wp2
      go_ret
      rw [hw.out]
      exact ⟨rfl, A, c, f, H.out.drewN _, hf, HO.out, (Alt.refl w _).drewN _, .inl rfl⟩
    · have hw0 := Lib.hid (show ¬ S.dead = true by rw [hdd]; decide)
      have hr0 := Lib.hid hr
      have hsd := Lib.hid hdd
      have hr1 : S.xs.length + ys.length ≤ S.room := by omega
      rw [hdd] at c3
      clear hdd hr
      rcases hfu : S.fuse with _ | k
      · have hw : Hid (wr S ys = (0, { S with xs := S.xs ++ ys })) := by show _ = _; rw [wr, if_neg hw0.out, if_neg hr0.out, hfu]
        have HFU := Lib.hid hfu
        clear hfu
        go_enter Tryz.func50, Tryz.ntmps50
        go_wp2
        go_quiet (fail)
        go_wp2
        go_region_law (first
            | (refine step_app _ rfl _ _ rfl (v := .slice A S.xs.length c) rfl (by exact HO.out) (ys := ys) rfl (by exact HY.out) (by first | omega | (simp; omega)) (by first | exact hb0 | simpa using hb0) ?_; intro A' c' w1 hown hgrow hblk; have HB1 : Hid (Blk w1 g 84 (pc (.slice A S.xs.length c) S f)) := Blk.grown (by exact H.out) hgrow (fun e => hne.out e.symm); have fz1 := HB1.out.frozen 0; have cz1 : w1.cell? ⟨g, 0, none⟩ = some (.slice A S.xs.length c) := HB1.out.cell 0; have cz3 : w1.cell? ⟨g, 3, none⟩ = some (.bool false) := by { refine (HB1.out.cell 3).trans ?_; simp [pc, hsd.out] })
            | (go_simp; go_at_call 33; refine (burn_un g ys.length _ S f _ (by exact H.out) HFU.out).mono ?_; rintro e w1 ⟨rfl, rfl⟩))
        all_goals
          go_wp2
          go_ret
          rw [hw.out]
          refine ⟨rfl, A', c', f, Blk.to (HB1.out.set_ 0 _) (by simp [pc]), hf, ?_, ?_, ?_⟩
          · exact Own.keep (p := fun k => k = g) (by simpa using hown) ((Alt.refl w1 (fun k => k = g)).set_ rfl _) (fun k hk e => by
              subst e
              exact Own.ne (v := .slice A' (S.xs.length + ys.length) c') hown HB1.out (by decide) (by simpa using hk))
          · exact (((Alt.refl w _).drewN _).grown hgrow (fun k hk _ => .inr hk)).set_ (.inl rfl) _
          · rcases hblk with e | e
            · left; simpa using e
            · right
              intro k hk
              simp only [List.length_append] at hk
              rw [e] at hk
              injection hk with hk
              rw [← hk]; exact Nat.le_refl _
      · have hk := k4 k hfu
        obtain rfl := hf k hfu
        by_cases hin : ys.length ≤ k
        · have hw : Hid (wr S ys = (0, { S with xs := S.xs ++ ys, fuse := some (k - ys.length) })) := by show _ = _; rw [wr, if_neg hw0.out, if_neg hr0.out, hfu]; simp only []; rw [if_pos hin]
          have HFU := Lib.hid hfu
          clear hfu hf
          go_enter Tryz.func50, Tryz.ntmps50
          go_wp2
          go_quiet (fail)
          go_wp2
          go_region_law (first
            | (refine step_app _ rfl _ _ rfl (v := .slice A S.xs.length c) rfl (by exact HO.out.keep (((Alt.refl w (fun k => k = g)).drewN _).set_ rfl _) (fun k hk e => hne.out (by rw [hk, e]))) (ys := ys) rfl (by exact HY.out.keep (((Alt.refl w (fun k => k = g)).drewN _).set_ rfl _) hBg) (by first | omega | (simp; omega)) (by first | exact hb0 | simpa using hb0) ?_; intro A' c' w1 hown hgrow hblk; have HB1 : Hid (Blk w1 g 84 ((pc (.slice A S.xs.length c) S k).setIfInBounds 5 (.int .i64 ((k - ys.length : Nat) : Int)))) := Blk.grown (by exact (H.out.drewN _).set_ 5 _) hgrow (fun e => hne.out e.symm); have fz1 := HB1.out.frozen 0; have cz1 : w1.cell? ⟨g, 0, none⟩ = some (.slice A S.xs.length c) := by { refine (HB1.out.cell 0).trans ?_; simp [pc] }; have cz3 : w1.cell? ⟨g, 3, none⟩ = some (.bool false) := by { refine (HB1.out.cell 3).trans ?_; simp [pc, hsd.out] })
            | (go_simp; go_at_call 33; refine (burn_in g ys.length k _ S _ (by exact H.out) HFU.out hin hk).mono ?_; rintro e w1 ⟨rfl, rfl⟩))
          all_goals
            go_wp2
            go_ret
            rw [hw.out]
            refine ⟨rfl, A', c', ((k - ys.length : Nat) : Int), Blk.to (HB1.out.set_ 0 _) (by simp [pc, HFU.out]), ?_, ?_, ?_, ?_⟩
            · intro j hj
              have e : k - ys.length = j := by simpa using hj
              omega
            · exact Own.keep (p := fun k => k = g) (by simpa using hown) ((Alt.refl w1 (fun k => k = g)).set_ rfl _) (fun k hk e => by
                subst e
                exact Own.ne (v := .slice A' (S.xs.length + (ys).length) c') hown HB1.out (by decide) (by simpa using hk))
            · exact ((((Alt.refl w _).drewN _).set_ (.inl rfl) _).grown hgrow (fun k hk _ => .inr hk)).set_ (.inl rfl) _
            · rcases hblk with e | e
              · left; simpa using e
              · right
                intro k hk
                simp only [List.length_append] at hk
                rw [e] at hk
                injection hk with hk
                simp at hk
                omega
        · have hw : Hid (wr S ys = (15, { S with xs := S.xs ++ ys.take k, fuse := some 0, dead := true })) := by show _ = _; rw [wr, if_neg hw0.out, if_neg hr0.out, hfu]; simp only []; rw [if_neg hin]
          have HE := Lib.hid (show (ys.take k).length = k by simp; omega)
          have hov : k < ys.length := by omega
          have hkd : k ≤ d := by omega
          have HFU := Lib.hid hfu
          clear hfu hf hin
          go_enter Tryz.func50, Tryz.ntmps50
          go_wp2
          go_quiet (fail)
          go_wp2
          go_region_law (first
            | (refine step_app _ rfl _ _ rfl (v := .slice A S.xs.length c) rfl (by exact HO.out.keep ((((Alt.refl w (fun k => k = g)).drewN _).set_ rfl _).set_ rfl _) (fun k hk e => hne.out (by rw [hk, e]))) (ys := ys.take k) (by rw [HE.out]; rfl) (by exact (HY.out.take_ k).keep ((((Alt.refl w (fun k => k = g)).drewN _).set_ rfl _).set_ rfl _) hBg) (by first | omega | (simp; omega)) (by first | exact hb0 | simpa using hb0) ?_; intro A' c' w1 hown hgrow hblk; have HB1 : Hid (Blk w1 g 84 (((pc (.slice A S.xs.length c) S k).setIfInBounds 3 (.bool true)).setIfInBounds 5 (.int .i64 0))) := Blk.grown (by exact ((H.out.drewN _).set_ 3 _).set_ 5 _) hgrow (fun e => hne.out e.symm); have fz1 := HB1.out.frozen 0; have cz1 : w1.cell? ⟨g, 0, none⟩ = some (.slice A S.xs.length c) := by { refine (HB1.out.cell 0).trans ?_; simp [pc] }; have cz3 : w1.cell? ⟨g, 3, none⟩ = some (.bool true) := by { refine (HB1.out.cell 3).trans ?_; simp [pc, hsd.out] })
            | (go_simp; go_at_call 33; refine (burn_over g ys.length k _ S _ (by exact H.out) HFU.out hov (by omega)).mono ?_; rintro e w1 ⟨rfl, rfl⟩))
          all_goals
            go_wp2
            go_ret
            rw [hw.out]
            refine ⟨rfl, A', c', 0, Blk.to (HB1.out.set_ 0 _) (by simp [pc, HFU.out]), ?_, ?_, ?_, ?_⟩
            · intro j hj
              have e : 0 = j := by simpa using hj
              omega
            · exact Own.keep (p := fun k => k = g) (by simpa using hown) ((Alt.refl w1 (fun k => k = g)).set_ rfl _) (fun q hq e => by
                subst e
                exact Own.ne (v := .slice A' (S.xs.length + (ys.take k).length) c') hown HB1.out (by decide) (by simpa using hq))
            · exact (((((Alt.refl w _).drewN _).set_ (.inl rfl) _).set_ (.inl rfl) _).grown hgrow (fun k hk _ => .inr hk)).set_ (.inl rfl) _
            · rcases hblk with e | e
              · left; simpa using e
              · right
                intro k hk
                simp only [List.length_append] at hk
                rw [e] at hk
                injection hk with hk
                simp at hk
                omega
  · have hw : Hid (wr S ys = (15, S)) := by show _ = _; rw [wr, if_pos hdd]
    rw [hdd] at c3
    clear hdd
    go_enter Tryz.func50, Tryz.ntmps50
    go_wp2
    go_ret
    rw [hw.out]
    exact ⟨rfl, A, c, f, H.out, hf, HO.out, Alt.refl w _, .inl rfl⟩
end Go.Proofs.YtnbopkflhjakdaaGreatDoor.Dk
namespace Go.Proofs.YtnbopkflhjakdaaGreatDoor.Dk
open Go Go.RowKit

set_option maxHeartbeats 1000000 in
set_option maxRecDepth 100000 in
theorem pswap_any (g : Nat) (A B : Option Addr) (c d b0 : Nat) (S : St) (f : Int) (ys : List Int) (w : World) (h : Blk w g 84 (pc (.slice A S.xs.length c) S f)) (hf : ∀ k, S.fuse = some k → f = k)
    (ho : Own w b0 (.slice A S.xs.length c) S.xs) (hok : Ok S) (hy : Rb w B ys) (hB : B = none → ys.length = 0 ∧ d = 0) (hl : ys.length ≤ 1000000) (hBg : ∀ ad, B = some ad → ¬ ad.block = g) (hb0 : b0 ≤ w.heap.size) :
    Calls Tryz.prog 16 #[.pointer (some ⟨g, 0, none⟩), .slice B ys.length d] w (WPost w g b0 (.slice A S.xs.length c) (sw S ys)) := by
  obtain ⟨⟨c0, c1, c2, c3, c4, c5⟩, fz⟩ := cells6 h
  obtain ⟨k1, k2, k3, k4⟩ := hok
  have hne := Lib.hid (ho.ne h (by decide))
  have H := Lib.hid h
  have HO := Lib.hid ho
  have HY := Lib.hid hy
  clear h ho hy
  rcases hdd : S.dead with _ | _
  · by_cases hr : S.room < ys.length
    · have hw : Hid (sw S ys = (14, S)) := by show _ = _; rw [sw, if_neg (by rw [hdd]; decide), if_pos hr]
      rw [hdd] at c3
      clear hdd
      go_enter Tryz.func16, Tryz.ntmps16
      go_wp2
      go_ret
      rw [hw.out]
      exact ⟨rfl, A, c, f, H.out, hf, HO.out, Alt.refl w _, .inl rfl⟩
    · have hw0 := Lib.hid (show ¬ S.dead = true by rw [hdd]; decide)
      have hr0 := Lib.hid hr
      have hsd := Lib.hid hdd
      have hr1 : ys.length ≤ S.room := by omega
      rw [hdd] at c3
      clear hdd hr
      rcases hfu : S.fuse with _ | k
      · have hw : Hid (sw S ys = (0, { S with xs := ys, safe := ys.length })) := by show _ = _; rw [sw, if_neg hw0.out, if_neg hr0.out, hfu]
        have HFU := Lib.hid hfu
        clear hfu
        go_enter Tryz.func16, Tryz.ntmps16
        go_wp2_with (first
            | (go_at_call 33; refine (burn_un g ys.length _ S f _ (by exact H.out) HFU.out).mono ?_; rintro e w1 ⟨rfl, hw1⟩; rw [hw1]; clear hw1 w1)
            | (go_at_call 34; refine (clone_any B d ys _ (by exact HY.out) (by omega) hB).mono ?_; rintro e w1 ⟨A', c', rfl, hown, halt⟩; have HB1 : Hid (Blk w1 g 84 (pc (.slice A S.xs.length c) S f)) := Blk.kept (by exact H.out) halt (fun h => h); have fz1 := HB1.out.frozen 0; have fz2 := HB1.out.frozen 2; have cz0 : w1.cell? ⟨g, 0, none⟩ = some (.slice A S.xs.length c) := by { refine (HB1.out.cell 0).trans ?_; simp [pc] }; have cz2 : w1.cell? ⟨g, 2, none⟩ = some (.int .i64 S.safe) := by { refine (HB1.out.cell 2).trans ?_; simp [pc] }))
        go_ret
        rw [hw.out]
        refine ⟨rfl, A', c', f, Blk.to ((HB1.out.set_ 0 _).set_ 2 _) (by simp [pc]), ?_, ?_, ?_, ?_⟩
        · exact hf
        · exact own_more (Own.keep (p := fun k => k = g) hown (((Alt.refl w1 (fun k => k = g)).set_ rfl _).set_ rfl _) (fun k hk e => by
            subst e
            exact Own.ne hown HB1.out (by decide) hk)) (by first | exact hb0 | simpa using hb0)
        · exact ((Alt.trans (Alt.refl w _) halt (fun _ _ h => h.elim)).set_ (.inl rfl) _).set_ (.inl rfl) _
        · right
          intro k hk
          have := (Own.base hown hk).1
          first | exact this | simpa using this
      · have hk := k4 k hfu
        obtain rfl := hf k hfu
        by_cases hin : ys.length ≤ k
        · have hw : Hid (sw S ys = (0, { S with xs := ys, safe := ys.length, fuse := some (k - ys.length) })) := by show _ = _; rw [sw, if_neg hw0.out, if_neg hr0.out, hfu]; simp only []; rw [if_pos hin]
          have HFU := Lib.hid hfu
          clear hfu hf
          go_enter Tryz.func16, Tryz.ntmps16
          go_wp2_with (first
              | (go_at_call 33; refine (burn_in g ys.length k _ S _ (by exact H.out) HFU.out hin hk).mono ?_; rintro e w1 ⟨rfl, rfl⟩)
              | (go_at_call 34; refine (clone_any B d ys _ (by exact HY.out.keep (((Alt.refl w (fun k => k = g))).set_ rfl _) hBg) (by omega) hB).mono ?_; rintro e w1 ⟨A', c', rfl, hown, halt⟩; have HB1 : Hid (Blk w1 g 84 ((pc (.slice A S.xs.length c) S k).setIfInBounds 5 (.int .i64 ((k - ys.length : Nat) : Int)))) := Blk.kept (by exact H.out.set_ 5 _) halt (fun h => h); have fz1 := HB1.out.frozen 0; have fz2 := HB1.out.frozen 2; have cz0 : w1.cell? ⟨g, 0, none⟩ = some (.slice A S.xs.length c) := by { refine (HB1.out.cell 0).trans ?_; simp [pc] }; have cz2 : w1.cell? ⟨g, 2, none⟩ = some (.int .i64 S.safe) := by { refine (HB1.out.cell 2).trans ?_; simp [pc] }))
          go_ret
          rw [hw.out]
          refine ⟨rfl, A', c', ((k - ys.length : Nat) : Int), Blk.to ((HB1.out.set_ 0 _).set_ 2 _) (by simp [pc, HFU.out]), ?_, ?_, ?_, ?_⟩
          · intro j hj
            have e : k - ys.length = j := by simpa using hj
            omega
          · exact own_more (Own.keep (p := fun k => k = g) hown (((Alt.refl w1 (fun k => k = g)).set_ rfl _).set_ rfl _) (fun k hk e => by
              subst e
              exact Own.ne hown HB1.out (by decide) hk)) (by first | exact hb0 | simpa using hb0)
          · exact ((Alt.trans ((Alt.refl w _).set_ (.inl rfl) _) halt (fun _ _ h => h.elim)).set_ (.inl rfl) _).set_ (.inl rfl) _
          · right
            intro k hk
            have := (Own.base hown hk).1
            first | exact this | simpa using this
        · have hw : Hid (sw S ys = (15, { S with fuse := some 0, dead := true })) := by show _ = _; rw [sw, if_neg hw0.out, if_neg hr0.out, hfu]; simp only []; rw [if_neg hin]
          have hov : k < ys.length := by omega
          have HFU := Lib.hid hfu
          clear hfu hf hin
          go_enter Tryz.func16, Tryz.ntmps16
          go_wp2_with (go_at_call 33; refine (burn_over g ys.length k _ S _ (by exact H.out) HFU.out hov (by omega)).mono ?_; rintro e w1 ⟨rfl, rfl⟩)
          go_ret
          rw [hw.out]
          refine ⟨rfl, A, c, 0, Blk.to ((H.out.set_ 3 _).set_ 5 _) (by simp [pc, HFU.out]), ?_, ?_, ((Alt.refl w _).set_ (.inl rfl) _).set_ (.inl rfl) _, .inl rfl⟩
          · intro j hj
            have e : 0 = j := by simpa using hj
            omega
          · exact HO.out.keep (((Alt.refl w (fun k => k = g)).set_ rfl _).set_ rfl _) (fun k hk e => hne.out (by rw [hk, e]))
  · have hw : Hid (sw S ys = (15, S)) := by show _ = _; rw [sw, if_pos hdd]
    rw [hdd] at c3
    clear hdd
    go_enter Tryz.func16, Tryz.ntmps16
    go_wp2
    go_ret
    rw [hw.out]
    exact ⟨rfl, A, c, f, H.out, hf, HO.out, Alt.refl w _, .inl rfl⟩
end Go.Proofs.YtnbopkflhjakdaaGreatDoor.Dk
