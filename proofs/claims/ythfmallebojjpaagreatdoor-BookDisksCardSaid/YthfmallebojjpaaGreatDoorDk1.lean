/-
  The program's disk: contracts of NewDisk, Fuse, Sync, Safe, Down, burn, Clone, Bytes, Crash; of Pick, Few.
-/
import Derived.Test.YthfmallebojjpaaGreatDoorDk0
namespace Go.Proofs.YthfmallebojjpaaGreatDoor.Dk
open Go Go.RowKit

theorem cells6 {w : World} {g : Nat} {t : TypeId} {a b c d e f : Value} (h : Blk w g t #[a, b, c, d, e, f]) :
    (w.cell? ⟨g, 0, none⟩ = some a ∧ w.cell? ⟨g, 1, none⟩ = some b ∧ w.cell? ⟨g, 2, none⟩ = some c ∧ w.cell? ⟨g, 3, none⟩ = some d ∧ w.cell? ⟨g, 4, none⟩ = some e ∧ w.cell? ⟨g, 5, none⟩ = some f) ∧
    ∀ i, w.frozen? ⟨g, i, none⟩ = false :=
  ⟨⟨h.cell 0, h.cell 1, h.cell 2, h.cell 3, h.cell 4, h.cell 5⟩, h.frozen⟩
theorem cells5 {w : World} {g : Nat} {t : TypeId} {a b c d e : Value} (h : Blk w g t #[a, b, c, d, e]) :
    (w.cell? ⟨g, 0, none⟩ = some a ∧ w.cell? ⟨g, 1, none⟩ = some b ∧ w.cell? ⟨g, 2, none⟩ = some c ∧ w.cell? ⟨g, 3, none⟩ = some d ∧ w.cell? ⟨g, 4, none⟩ = some e) ∧
    ∀ i, w.frozen? ⟨g, i, none⟩ = false :=
  ⟨⟨h.cell 0, h.cell 1, h.cell 2, h.cell 3, h.cell 4⟩, h.frozen⟩

def pc (v : Value) (S : St) (f : Int) : Array Value := #[v, .int .i64 S.room, .int .i64 S.safe, .bool S.dead, .bool S.fuse.isSome, .int .i64 f]

theorem ret_int {k : IntKind} {a b : Int} (h : a = b) : Ending.returned (.int k a) = .returned (.int k b) := by rw [h]

set_option maxHeartbeats 400000 in
set_option maxRecDepth 100000 in
theorem pnew_any (n : Int) (w : World) (h0 : -10 ≤ n) (h1 : n ≤ 1000) :
    Calls Tryz.prog 5 #[.int .i64 n] w fun e w' => e = .returned (.pointer (some ⟨w.heap.size, 0, none⟩)) ∧
      w' = w.alloc (.cells (pc (.slice none 0 0) ⟨[], n.toNat, 0, none, false⟩ 0) 44) := by
  go_enter Tryz.func5, Tryz.ntmps5
  rcases (show n < 0 ∨ 0 ≤ n by omega) with h | h
  · have e : n.toNat = 0 := by omega
    go_wp2
    go_ret
    refine ⟨rfl, ?_⟩
    simp [pc, e]
  · have e : ((n.toNat : Nat) : Int) = n := by omega
    go_wp2
    go_ret
    refine ⟨rfl, ?_⟩
    simp [pc, e]

set_option maxHeartbeats 400000 in
set_option maxRecDepth 100000 in
theorem pfuse_any (g : Nat) (v : Value) (S : St) (f n : Int) (w : World) (h : Blk w g 44 (pc v S f)) (h0 : -10 ≤ n) (h1 : n ≤ 1000) :
    Calls Tryz.prog 14 #[.pointer (some ⟨g, 0, none⟩), .int .i64 n] w fun e w' => e = .returned (.tuple #[]) ∧
      Blk w' g 44 (pc v (fu S n.toNat) n.toNat) ∧ Alt w w' (fun k => k = g) := by
  obtain ⟨⟨c0, c1, c2, c3, c4, c5⟩, fz⟩ := cells6 h
  have H := Lib.hid h
  clear h
  go_enter Tryz.func14, Tryz.ntmps14
  rcases (show n < 0 ∨ 0 ≤ n by omega) with hn | hn
  all_goals
    go_wp2
    go_end0
    refine ⟨rfl, ?_, ((Alt.refl w (fun k => k = g)).set_ rfl _).set_ rfl _⟩
    first
      | (have h2 := (H.out.set_ 4 (.bool true)).set_ 5 (.int .i64 n)
         rw [show ((n.toNat : Nat) : Int) = n by omega]
         simpa [pc, fu] using h2)
      | (have h2 := (H.out.set_ 4 (.bool true)).set_ 5 (.int .i64 0)
         rw [show n.toNat = 0 by omega]
         simpa [pc, fu] using h2)

set_option maxHeartbeats 400000 in
set_option maxRecDepth 100000 in
theorem psync_any (g : Nat) (A : Option Addr) (c : Nat) (S : St) (f : Int) (w : World) (h : Blk w g 44 (pc (.slice A S.xs.length c) S f)) :
    Calls Tryz.prog 10 #[.pointer (some ⟨g, 0, none⟩)] w fun e w' => e = .returned (.int .i64 (sy S).1) ∧
      Blk w' g 44 (pc (.slice A S.xs.length c) (sy S).2 f) ∧ Alt w w' (fun k => k = g) := by
  obtain ⟨⟨c0, c1, c2, c3, c4, c5⟩, fz⟩ := cells6 h
  have H := Lib.hid h
  clear h
  rcases hd : S.dead with _ | _
  · have HD := Lib.hid hd
    rw [hd] at c3
    clear hd
    go_enter Tryz.func10, Tryz.ntmps10
    go_wp2
    go_ret
    refine ⟨?_, ?_, (Alt.refl w (fun k => k = g)).set_ rfl _⟩
    · rw [sy, if_neg (by rw [HD.out]; decide)]; rfl
    · have h2 := H.out.set_ 2 (.int .i64 (S.xs.length : Int))
      rw [sy, if_neg (by rw [HD.out]; decide)]
      simpa [pc] using h2
  · have HD := Lib.hid hd
    rw [hd] at c3
    clear hd
    go_enter Tryz.func10, Tryz.ntmps10
    go_wp2
    go_ret
    refine ⟨?_, ?_, Alt.refl w (fun k => k = g)⟩
    · rw [sy, if_pos HD.out]; rfl
    · rw [sy, if_pos HD.out]; exact H.out

set_option maxHeartbeats 400000 in
set_option maxRecDepth 100000 in
theorem psafe_any (g : Nat) (v : Value) (S : St) (f : Int) (w : World) (h : Blk w g 44 (pc v S f)) :
    Calls Tryz.prog 18 #[.pointer (some ⟨g, 0, none⟩)] w fun e w' => e = .returned (.int .i64 S.safe) ∧ w = w' := by
  obtain ⟨⟨c0, c1, c2, c3, c4, c5⟩, fz⟩ := cells6 h
  clear h
  go_enter Tryz.func18, Tryz.ntmps18
  go_wp2
  go_ret
  exact ⟨rfl, rfl⟩
set_option maxHeartbeats 400000 in
set_option maxRecDepth 100000 in
theorem pdown_any (g : Nat) (v : Value) (S : St) (f : Int) (w : World) (h : Blk w g 44 (pc v S f)) :
    Calls Tryz.prog 19 #[.pointer (some ⟨g, 0, none⟩)] w fun e w' => e = .returned (.bool S.dead) ∧ w = w' := by
  obtain ⟨⟨c0, c1, c2, c3, c4, c5⟩, fz⟩ := cells6 h
  clear h
  go_enter Tryz.func19, Tryz.ntmps19
  go_wp2
  go_ret
  exact ⟨rfl, rfl⟩

/- burn: without a fuse; within it; past it. -/
set_option maxHeartbeats 400000 in
set_option maxRecDepth 100000 in
theorem burn_un (g n : Nat) (v : Value) (S : St) (f : Int) (w : World) (h : Blk w g 44 (pc v S f)) (hf : S.fuse = none) :
    Calls Tryz.prog 21 #[.pointer (some ⟨g, 0, none⟩), .int .i64 n] w fun e w' => e = .returned (.int .i64 n) ∧ w' = w := by
  obtain ⟨⟨c0, c1, c2, c3, c4, c5⟩, fz⟩ := cells6 h
  rw [hf] at c4
  clear h hf
  go_enter Tryz.func21, Tryz.ntmps21
  go_wp2
  go_ret
  exact ⟨rfl, rfl⟩
set_option maxHeartbeats 400000 in
set_option maxRecDepth 100000 in
theorem burn_in (g n k : Nat) (v : Value) (S : St) (w : World) (h : Blk w g 44 (pc v S (k : Int))) (hf : S.fuse = some k) (hn : n ≤ k) (hk : k ≤ 1000000) :
    Calls Tryz.prog 21 #[.pointer (some ⟨g, 0, none⟩), .int .i64 n] w fun e w' => e = .returned (.int .i64 n) ∧ w' = w.setCell ⟨g, 5, none⟩ (.int .i64 ((k - n : Nat) : Int)) := by
  obtain ⟨⟨c0, c1, c2, c3, c4, c5⟩, fz⟩ := cells6 h
  rw [hf] at c4
  have e := Lib.hid (show ((k - n : Nat) : Int) = (k : Int) - n by omega)
  clear h hf
  go_enter Tryz.func21, Tryz.ntmps21
  go_wp2
  go_ret
  refine ⟨rfl, ?_⟩
  rw [e.out]
set_option maxHeartbeats 400000 in
set_option maxRecDepth 100000 in
theorem burn_over (g n k : Nat) (v : Value) (S : St) (w : World) (h : Blk w g 44 (pc v S (k : Int))) (hf : S.fuse = some k) (hn : k < n) (_hk : n ≤ 1000000) :
    Calls Tryz.prog 21 #[.pointer (some ⟨g, 0, none⟩), .int .i64 n] w fun e w' => e = .returned (.int .i64 k) ∧ w' = (w.setCell ⟨g, 3, none⟩ (.bool true)).setCell ⟨g, 5, none⟩ (.int .i64 0) := by
  obtain ⟨⟨c0, c1, c2, c3, c4, c5⟩, fz⟩ := cells6 h
  rw [hf] at c4
  clear h hf
  go_enter Tryz.func21, Tryz.ntmps21
  go_wp2
  go_ret
  refine ⟨rfl, ?_⟩
  simp
end Go.Proofs.YthfmallebojjpaaGreatDoor.Dk
