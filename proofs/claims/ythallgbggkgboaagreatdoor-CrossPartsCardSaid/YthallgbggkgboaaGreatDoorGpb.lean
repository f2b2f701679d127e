/-
  sheet.Right.
-/
import Derived.Test.YthallgbggkgboaaGreatDoorGc
namespace Go.Proofs.YthallgbggkgboaaGreatDoor.Gp
open Go Go.RowKit Ut

theorem q_zero {c : PC} (h : c.q = qzV) : c.neg = false ∧ c.n = 0 ∧ c.s = ⟨⟨[]⟩⟩ ∧ c.d = 0 ∧ c.s' = ⟨⟨[]⟩⟩ := by
  unfold PC.q qzV at h
  simpa using h
def colV (nm : ByteArray) (kd : Nat) (A : Option Addr) (k : Nat) : Value := .agg #[.string nm, .int .i64 (kindOf kd), .slice A kd k]
def cellV (c : PC) : Value := .agg #[.bool c.lk, .bool c.neg, .int .u64 c.n, .string c.s, .int .u64 c.d, .string c.s', .int .i64 c.wd]
set_option maxHeartbeats 4000000 in
set_option maxRecDepth 100000 in
theorem right_any (nm : ByteArray) (kd : Nat) (A : Option Addr) (k : Nat) (c : PC) (w : World) (hkd : kd ≤ 5) (hok : pcOk kd c) :
    Calls Tryz.prog 30 #[colV nm kd A k, cellV c] w fun e w' => e = .returned (.bool true) ∧ Below w.heap.size w w' := by
  obtain ⟨lk, neg, n, s, d, s', wd⟩ := c
  obtain ⟨hq, hok⟩ := hok
  have HB : Hid (∀ W o t u, Below (w.heap.size + 2) ((w.alloc o).alloc (.cells u t)) W → (∀ i, W.cell? ⟨w.heap.size + 1, i, none⟩ = u[i]?) ∧ (∀ i, W.cell? ⟨w.heap.size, i, none⟩ = (w.alloc o).cell? ⟨w.heap.size, i, none⟩) ∧ Below w.heap.size w W) := fun W o t u h => by
    have hk := (h.block (w.heap.size + 1) (by omega)).trans (Blk.new2 w _ _ _)
    refine ⟨fun i => Blk.cell hk i, fun i => ?_, (((Below.refl _ _).alloc (Nat.le_refl _) _).alloc (by simp) _).trans (h.mono (by omega))⟩
    exact (h.cell (p := ⟨w.heap.size, i, none⟩) (by show w.heap.size < _; omega)).trans (World.cell?_alloc_lt _ _ _ (by simp))
  rcases hok with ⟨h1, h2, h3⟩ | ⟨h1, h2, h3⟩ | ⟨h1, h2, h3, h4⟩
  · obtain ⟨e1, e2, e3, e4, e5⟩ := q_zero h2
    simp only at h1 h3 e1 e2 e3 e4 e5
    subst h1 h3 e1 e2 e3 e4 e5
    clear h2 hq
    unfold colV cellV
    go_enter Tryz.func30, Tryz.ntmps30
    go_wp2_with (go_at_call 52; refine (sign_any _).mono ?_; rintro e w2 ⟨rfl, hb2⟩; rw [show ∀ o o', ((w.alloc o).alloc o').heap.size = w.heap.size + 2 from fun _ _ => by simp] at hb2; obtain ⟨hx, hc, hbw⟩ := HB.out _ _ _ _ hb2; have x6 := hx 6; simp only [List.getElem?_toArray, List.getElem?_cons_zero, List.getElem?_cons_succ] at x6; clear hx hc)
    go_ret
    exact ⟨rfl, hbw⟩
  · simp only at h1 h3
    subst h1 h2 h3
    unfold colV cellV
    go_enter Tryz.func30, Tryz.ntmps30
    have e1 : kindOf 0 = 1 := rfl
    rw [e1]
    go_wp2
    go_ret
    exact ⟨rfl, ((Below.refl _ _).alloc (Nat.le_refl _) _).alloc (by simp) _⟩
  · obtain ⟨e1, e2, e3, e4, e5⟩ := q_zero h3
    simp only at h1 h4 e1 e2 e3 e4 e5
    subst h1 e1 e2 e3 e4 e5
    clear h3 hq
    unfold colV cellV
    have e1 : kindOf kd = 2 := if_neg h2
    rw [e1]
    have hw1 : ¬ ((wd : Int) < 0) := by omega
    have hw2 : ((wd : Int) < (kd : Int)) := by omega
    go_enter Tryz.func30, Tryz.ntmps30
    go_wp2_with (go_at_call 52; refine (sign_any _).mono ?_; rintro e w2 ⟨rfl, hb2⟩; rw [show ∀ o o', ((w.alloc o).alloc o').heap.size = w.heap.size + 2 from fun _ _ => by simp] at hb2; obtain ⟨hx, hc, hbw⟩ := HB.out _ _ _ _ hb2; have x6 := hx 6; have c2 := hc 2; simp only [List.getElem?_toArray, List.getElem?_cons_zero, List.getElem?_cons_succ] at x6 c2; simp at c2; clear hx hc)
    go_ret
    exact ⟨rfl, hbw⟩
end Go.Proofs.YthallgbggkgboaaGreatDoor.Gp
