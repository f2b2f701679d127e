/-
  Plain law of the disks (no program in sight); rows, blocks, what may have changed.
-/
import Derived.Test.YthfmallebojjpaaGreatDoorProg
import Derived.WalkKit
import Derived.WalkSpells
import Derived.WalkLawsBesides
import Derived.Lib.Hide
import Derived.Deep.QuietTactic
import Derived.BigQuiet
import Derived.Below
import Derived.Laws.OwnMore
import Derived.Deep.AppendLies
import Derived.Deep.Draws
import Derived.Deep.RegionHeld3
import Derived.IntWalk
import Derived.OwnWalk
import Derived.OneCell
import Derived.Laws.MakeOwn
import Derived.Laws.Entries
import Derived.KernelRfl
namespace Go.Proofs.YthfmallebojjpaaGreatDoor.Dk
open Go Go.RowKit

structure St where
  xs : List Int
  room : Nat
  safe : Nat
  fuse : Option Nat
  dead : Bool

def wr (S : St) (b : List Int) : Int × St :=
  if S.dead = true then (15, S) else if S.room < S.xs.length + b.length then (14, S) else
    match S.fuse with
    | none => (0, { S with xs := S.xs ++ b })
    | some k => if b.length ≤ k then (0, { S with xs := S.xs ++ b, fuse := some (k - b.length) }) else (15, { S with xs := S.xs ++ b.take k, fuse := some 0, dead := true })
def sy (S : St) : Int × St := if S.dead = true then (15, S) else (0, { S with safe := S.xs.length })
def sw (S : St) (b : List Int) : Int × St :=
  if S.dead = true then (15, S) else if S.room < b.length then (14, S) else
    match S.fuse with
    | none => (0, { S with xs := b, safe := b.length })
    | some k => if b.length ≤ k then (0, { S with xs := b, safe := b.length, fuse := some (k - b.length) }) else (15, { S with fuse := some 0, dead := true })
def fu (S : St) (n : Nat) : St := { S with fuse := some n }
def cr (S : St) (keep : Nat) : St := { xs := S.xs.take (S.safe + min keep (S.xs.length - S.safe)), room := S.room, safe := S.safe + min keep (S.xs.length - S.safe), fuse := none, dead := false }

/- What may be: the bytes within the room, the safe ones among them, a fuse that is not great. -/
def Ok (S : St) : Prop := S.xs.length ≤ S.room ∧ S.room ≤ 4194304 ∧ S.safe ≤ S.xs.length ∧ ∀ k, S.fuse = some k → k ≤ 1000000

theorem wr_ok {S : St} (h : Ok S) (b : List Int) : Ok (wr S b).2 := by
  obtain ⟨h1, h2, h3, h4⟩ := h
  unfold wr
  split
  · exact ⟨h1, h2, h3, h4⟩
  · split
    · exact ⟨h1, h2, h3, h4⟩
    · split
      · next hf => exact ⟨by simp; omega, h2, by simp; omega, fun k hk => by simp [hf] at hk⟩
      · next k hf =>
        have := h4 k hf
        split
        · exact ⟨by simp; omega, h2, by simp; omega, fun j hj => by simp at hj; omega⟩
        · exact ⟨by simp; omega, h2, by simp; omega, fun j hj => by simp at hj; omega⟩
theorem sy_ok {S : St} (h : Ok S) : Ok (sy S).2 := by
  obtain ⟨h1, h2, h3, h4⟩ := h
  unfold sy
  split
  · exact ⟨h1, h2, h3, h4⟩
  · exact ⟨h1, h2, Nat.le_refl _, h4⟩
theorem sw_ok {S : St} (h : Ok S) (b : List Int) : Ok (sw S b).2 := by
  obtain ⟨h1, h2, h3, h4⟩ := h
  unfold sw
  split
  · exact ⟨h1, h2, h3, h4⟩
  · split
    · exact ⟨h1, h2, h3, h4⟩
    · split
      · next hf => exact ⟨by simp; omega, h2, Nat.le_refl _, fun k hk => by simp [hf] at hk⟩
      · next k hf =>
        have := h4 k hf
        split
        · exact ⟨by simp; omega, h2, Nat.le_refl _, fun j hj => by simp at hj; omega⟩
        · exact ⟨h1, h2, h3, fun j hj => by simp at hj; omega⟩
theorem fu_ok {S : St} (h : Ok S) {n : Nat} (hn : n ≤ 1000000) : Ok (fu S n) := ⟨h.1, h.2.1, h.2.2.1, fun k hk => by
  have : n = k := by simpa [fu] using hk
  omega⟩
theorem cr_ok {S : St} (h : Ok S) (n : Nat) : Ok (cr S n) := by
  obtain ⟨h1, h2, h3, h4⟩ := h
  refine ⟨?_, h2, ?_, fun k hk => by simp [cr] at hk⟩
  · simp [cr]; omega
  · simp [cr]; omega

/- Blocks that do not fit are as they were. -/
structure Alt (w w' : World) (p : Nat → Prop) : Prop where
  os : w'.os = w.os
  tape : w'.tape = w.tape
  output : w'.output = w.output
  size : w.heap.size ≤ w'.heap.size
  block : ∀ k, k < w.heap.size → ¬ p k → w'.heap[k]? = w.heap[k]?
section
variable {w w' w'' : World} {p q : Nat → Prop}
theorem Alt.refl (w : World) (p : Nat → Prop) : Alt w w p := ⟨rfl, rfl, rfl, Nat.le_refl _, fun _ _ _ => rfl⟩
theorem Alt.mono (h : Alt w w' p) (hp : ∀ k, p k → q k) : Alt w w' q := ⟨h.os, h.tape, h.output, h.size, fun k hk hq => h.block k hk fun h => hq (hp k h)⟩
theorem Alt.trans (h : Alt w w' p) (h' : Alt w' w'' q) (hp : ∀ k, k < w.heap.size → q k → p k) : Alt w w'' p :=
  ⟨h'.os.trans h.os, h'.tape.trans h.tape, h'.output.trans h.output, Nat.le_trans h.size h'.size, fun k hk hk' => (h'.block k (Nat.lt_of_lt_of_le hk h.size) fun hq => hk' (hp k hk hq)).trans (h.block k hk hk')⟩
theorem Alt.drewN (h : Alt w w' p) (n : Nat) : Alt w (w'.drewN n) p := ⟨h.os, h.tape, h.output, h.size, h.block⟩
theorem Alt.set_ (h : Alt w w' p) {a : Addr} (hp : p a.block) (v : Value) : Alt w (w'.setCell a v) p :=
  ⟨h.os, h.tape, h.output, by simpa using h.size, fun k hk hk' => (Below.heap_setCell w' a v k (fun e => hk' (by rw [e]; exact hp))).trans (h.block k hk hk')⟩
theorem Alt.alloc (h : Alt w w' p) (o : Obj) : Alt w (w'.alloc o) p :=
  ⟨h.os, h.tape, h.output, by have := h.size; simp; omega, fun k hk hk' => (Below.heap_alloc w' o k (Nat.lt_of_lt_of_le hk h.size)).trans (h.block k hk hk')⟩
theorem Alt.grown {row : Option Nat} (h : Alt w w' p) (hg : w'.grownBy w'' row) (hr : ∀ g, row = some g → g < w.heap.size → p g) : Alt w w'' p :=
  ⟨hg.os.trans h.os, hg.tape.trans h.tape, hg.output.trans h.output, Nat.le_trans h.size hg.size, fun k hk hk' =>
    (hg.block k (Nat.lt_of_lt_of_le hk h.size) (fun e => hk' (hr k e.symm hk))).trans (h.block k hk hk')⟩
theorem Alt.below {B : Nat} (h : Alt w w' p) (hp : ∀ k, p k → B ≤ k) (hB : B ≤ w.heap.size) : Below B w w' := ⟨h.os, h.tape, h.output, h.size, fun k hk => h.block k (by omega) fun hpk => by have := hp k hpk; omega⟩
end

def Blk (w : World) (g : Nat) (t : TypeId) (cs : Array Value) : Prop := w.heap[g]? = some (.cells cs t (0, 0))
section
variable {w w' : World} {g : Nat} {t : TypeId} {cs : Array Value}
theorem Blk.lt (h : Blk w g t cs) : g < w.heap.size := lt_of_block h
theorem Blk.cell (h : Blk w g t cs) (i : Nat) : w.cell? ⟨g, i, none⟩ = cs[i]? := by
  unfold Blk at h; simp [World.cell?, h]
theorem Blk.frozen (h : Blk w g t cs) (i : Nat) : w.frozen? ⟨g, i, none⟩ = false := by
  unfold Blk at h
  simp [World.frozen?, h]
theorem Blk.new (w : World) (t : TypeId) (cs : Array Value) : Blk (w.alloc (.cells cs t)) w.heap.size t cs := heap_alloc_new w _
theorem Blk.drewN (h : Blk w g t cs) (n : Nat) : Blk (w.drewN n) g t cs := h
theorem Blk.alloc (h : Blk w g t cs) (o : Obj) : Blk (w.alloc o) g t cs := (Below.heap_alloc w o g h.lt).trans h
theorem Blk.set_ (h : Blk w g t cs) (i : Nat) (u : Value) : Blk (w.setCell ⟨g, i, none⟩ u) g t (cs.setIfInBounds i u) := by
  unfold Blk at h ⊢
  simp [World.setCell, Array.getElem?_modify, h]
theorem Blk.far (h : Blk w g t cs) {p : Addr} (hp : g ≠ p.block) (u : Value) : Blk (w.setCell p u) g t cs := (Below.heap_setCell w p u g hp).trans h
theorem Blk.grown {row : Option Nat} (h : Blk w g t cs) (hb : w.grownBy w' row) (hg : some g ≠ row) : Blk w' g t cs := (hb.block g h.lt hg).trans h
theorem Blk.kept {p : Nat → Prop} (h : Blk w g t cs) (hb : Alt w w' p) (hg : ¬ p g) : Blk w' g t cs := (hb.block g h.lt hg).trans h
theorem Blk.ne_ {g' : Nat} {t' : TypeId} {cs' : Array Value} (h : Blk w g t cs) (h' : Blk w g' t' cs') (hne : t ≠ t') : g ≠ g' := by
  rintro rfl
  unfold Blk at h h'
  rw [h] at h'
  injection h' with h'
  injection h' with _ ht
  exact hne ht
end

/- Bytes of one's own. -/
def Own (w : World) (base : Nat) (v : Value) (xs : List Int) : Prop := w.ownsRow base 5 1 v xs.length (xs.map (Value.int .u8))
section
variable {w w' : World} {b0 : Nat} {v : Value} {xs : List Int} {g : Nat} {t : TypeId} {cs : Array Value}
theorem Own.slice (h : Own w b0 v xs) : ∃ A c, v = .slice A xs.length c ∧ (0 < xs.length → ∃ g, A = some ⟨g, 0, none⟩) := by
  rcases h.2 with ⟨rfl, hn⟩ | ⟨g, cap, cur, rfl, _⟩
  · exact ⟨none, 0, by rw [hn], fun h => by omega⟩
  · exact ⟨_, _, rfl, fun _ => ⟨g, rfl⟩⟩
theorem Own.ne (h : Own w b0 v xs) (hg : Blk w g t cs) (hne : 5 ≠ t) : v.ownBlock ≠ some g := by
  rcases h.2 with ⟨rfl, _⟩ | ⟨g', cap, cur, rfl, _, hh, _⟩
  · simp [Value.ownBlock]
  · intro he
    have : g' = g := by simpa [Value.ownBlock] using he
    subst this
    exact Blk.ne_ (t := 5) hh hg hne rfl
theorem Own.base (h : Own w b0 v xs) {k : Nat} (hk : v.ownBlock = some k) : b0 ≤ k ∧ k < w.heap.size := h.lt k hk
theorem Own.keep {p : Nat → Prop} (h : Own w b0 v xs) (hb : Alt w w' p) (hv : ∀ k, v.ownBlock = some k → ¬ p k) : Own w' b0 v xs := by
  refine ⟨h.1, ?_⟩
  rcases h.2 with h0 | ⟨g, cap, cur, rfl, h1, h2, h3⟩
  · exact .inl h0
  · exact .inr ⟨g, cap, cur, rfl, h1, (hb.block g (lt_of_block h2) (hv g rfl)).trans h2, h3⟩
/- Of a slice a first part. -/
theorem Own.take_ (h : Own w b0 v xs) {k : Nat} (hk : k ≤ xs.length) : ∃ v', Own w b0 v' (xs.take k) ∧ v'.ownBlock = v.ownBlock ∧ (∀ A n c, v = .slice A n c → v' = .slice A k c) := by
  rcases h.2 with ⟨rfl, h0⟩ | ⟨g, cap, cur, rfl, h1, h2, h3, h4, h5, h6⟩
  · refine ⟨.slice none 0 0, ⟨by simp <;> omega, .inl ⟨rfl, by simp <;> omega⟩⟩, rfl, fun A n c e => ?_⟩
    injection e with e1 e2 e3
    subst e1; subst e2; subst e3
    rw [show k = 0 by omega]
  · refine ⟨.slice (some ⟨g, 0, none⟩) k cap, ⟨by simp, .inr ⟨g, cap, cur, by rw [show (xs.take k).length = k by simp; omega], h1, h2, by simp; omega, h4, h5, ?_⟩⟩, rfl, fun A n c e => ?_⟩
    · rw [show (xs.take k).length = k by simp; omega, List.map_take, ← h6, Nat.mul_one, List.take_take, Nat.mul_one, Nat.min_eq_left hk]
    · injection e with e1 e2 e3
      subst e1; subst e2; subst e3; rfl
end

/- A slice that reads as bytes. -/
theorem block_of_add (a : Addr) (n : Nat) : (a.add n).block = a.block := by unfold Addr.add; split <;> rfl
def Rd (w : World) (size : Nat) (A : Option Addr) (n : Nat) (xs : List Value) : Prop :=
  xs.length = n * size ∧ (0 < n → ∃ ad, A = some ad ∧ ad.block < w.heap.size ∧ ∀ j u, xs[j]? = some u → w.cell? (ad.add j) = some u)
end Go.Proofs.YthfmallebojjpaaGreatDoor.Dk
