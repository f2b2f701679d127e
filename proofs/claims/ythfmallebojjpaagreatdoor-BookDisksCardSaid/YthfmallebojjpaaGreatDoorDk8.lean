/-
  The document's disk: Crash.
-/
import Derived.Test.YthfmallebojjpaaGreatDoorDk7
namespace Go.Proofs.YthfmallebojjpaaGreatDoor.Dk
open Go Go.RowKit

theorem Blk.drew1 {w : World} {g : Nat} {t : TypeId} {cs : Array Value} (h : Blk w g t cs) : Blk w.drew g t cs := h
theorem Alt.drew1 {w w' : World} {p : Nat → Prop} (h : Alt w w' p) : Alt w w'.drew p := ⟨h.os, h.tape, h.output, h.size, h.block⟩

set_option maxHeartbeats 1000000 in
set_option maxRecDepth 100000 in
theorem rcrash_any (g : Nat) (A : Option Addr) (c b0 : Nat) (S : St) (f n : Int) (w : World) (h : Blk w g 39 (rc (.slice A S.xs.length c) S f)) (ho : Own w b0 (.slice A S.xs.length c) S.xs) (hok : Ok S) (h0 : -10 ≤ n) (h1 : n ≤ 1000) :
    Calls Tryz.prog 16 #[.pointer (some ⟨g, 0, none⟩), .int .i64 n] w fun e w' => e = .returned (.tuple #[]) ∧
      ∃ A' c', Blk w' g 39 (rc (.slice A' (cr S n.toNat).xs.length c') (cr S n.toNat) (-1)) ∧ Own w' b0 (.slice A' (cr S n.toNat).xs.length c') (cr S n.toNat).xs ∧ Alt w w' (fun k => k = g) ∧
        (Value.slice A' (cr S n.toNat).xs.length c').ownBlock = (Value.slice A S.xs.length c).ownBlock := by
  obtain ⟨⟨c0, c1, c2, c3, c4⟩, fz⟩ := cells5 h
  obtain ⟨k1, k2, k3, k4⟩ := hok
  have H := Lib.hid h
  have HO := Lib.hid ho
  have hcap : S.xs.length ≤ c := by
    rcases ho.2 with ⟨e, h0⟩ | ⟨g, cap, cur, e, _, _, h3, _⟩
    · omega
    · injection e with _ _ e3; omega
  obtain ⟨m, hm⟩ : ∃ m, m = S.safe + min n.toNat (S.xs.length - S.safe) := ⟨_, rfl⟩
  have HM := Lib.hid hm
  clear hm h ho k4
  have hlen : (cr S n.toNat).xs.length = m := by have := HM.out; simp [cr]; omega
  have HL := Lib.hid hlen
  clear hlen
  have fin : ∀ w' A', A' = A ∨ (S.xs.length = 0 ∧ A' = none ∧ A = none) → Blk w' g 39 (rc (.slice A' m c) (cr S n.toNat) (-1)) → Alt w w' (fun k => k = g) → ∃ A' c', Blk w' g 39 (rc (.slice A' (cr S n.toNat).xs.length c') (cr S n.toNat) (-1)) ∧ Own w' b0 (.slice A' (cr S n.toNat).xs.length c') (cr S n.toNat).xs ∧ Alt w w' (fun k => k = g) ∧
        (Value.slice A' (cr S n.toNat).xs.length c').ownBlock = (Value.slice A S.xs.length c).ownBlock := by
    intro w' A' hA hb ha
    have hA : A' = A := by rcases hA with h | ⟨_, h, h'⟩ <;> simp [*]
    subst hA
    rw [HL.out]
    obtain ⟨v', h1, h2, h3⟩ := HO.out.take_ (k := m) (by have := HM.out; omega)
    obtain rfl := h3 _ _ _ rfl
    have e : (cr S n.toNat).xs = S.xs.take m := by rw [HM.out]; rfl
    refine ⟨A', c, hb, ?_, ha, h2⟩
    rw [e]
    exact h1.keep ha (fun k hk e => by
      subst e
      exact HO.out.ne H.out (by decide) (by rw [← h2]; exact hk))
  have FIN := Lib.hid fin
  clear fin
  have hsafe : Hid ((cr S n.toNat).safe = m) := HM.out.symm
  rcases A with _ | ad
  · obtain ⟨z1, z2⟩ := HO.out.none_
    subst z2
    have z3 : S.safe = 0 := by omega
    have z4 := Lib.hid (show m = 0 by have := HM.out; omega)
    rw [z1] at c0
    rw [z3] at c1
    clear k1 k3 hcap z1 z3
    rcases (show n < 0 ∨ n = 0 ∨ 0 < n by omega) with p1 | rfl | p1
    all_goals
      go_enter Tryz.func16, Tryz.ntmps16
      go_wp2
      go_region
      go_wp2
      go_end0
      refine ⟨rfl, FIN.out _ none (.inl rfl) (Blk.to ((((H.out.set_ 0 _).set_ 1 _).set_ 4 _).set_ 3 _).drew1 ?_) (((((Alt.refl w (fun k => k = g)).set_ rfl _).set_ rfl _).set_ rfl _).set_ rfl _).drew1⟩
      have e := hsafe.out
      have e2 := z4.out
      rw [e2] at e
      simp [rc, e, e2]
      simp [cr] <;> (have := HM.out; omega)
  · rcases (show (n ≤ 0 ∧ m = S.safe) ∨ (0 < n ∧ n ≤ (S.xs.length : Int) - S.safe ∧ (m : Int) = S.safe + n) ∨ (0 < n ∧ ((S.xs.length : Int) - S.safe < n ∧ (0 : Int) < (S.xs.length : Int) - S.safe) ∧ m = S.xs.length) ∨ (0 < n ∧ ((S.xs.length : Int) - S.safe < n ∧ (S.xs.length : Int) - S.safe ≤ 0) ∧ m = S.xs.length) by have := HM.out; omega) with ⟨p1, p2⟩ | ⟨p1, p2, p3⟩ | ⟨p1, ⟨p2, p4⟩, p3⟩ | ⟨p1, ⟨p2, p4⟩, p3⟩
    · have P := Lib.hid p2
      clear h0 h1 p2
      go_enter Tryz.func16, Tryz.ntmps16
      go_wp2
      go_region
      go_wp2
      go_end0
      refine ⟨rfl, FIN.out _ (some ad) (.inl rfl) (Blk.to ((((H.out.set_ 0 _).set_ 1 _).set_ 4 _).set_ 3 _).drew1 ?_) (((((Alt.refl w (fun k => k = g)).set_ rfl _).set_ rfl _).set_ rfl _).set_ rfl _).drew1⟩
      have e := hsafe.out
      rw [P.out] at e ⊢
      simp [rc, e]
      simp [cr]
    · have P := Lib.hid p3
      clear h0 h1 p3
      go_enter Tryz.func16, Tryz.ntmps16
      go_wp2
      go_region
      go_wp2
      go_end0
      have e3 : (S.safe + n : Int).toNat = m := by have := P.out; omega
      have e4 : max ((S.safe : Int) + n) 0 = (m : Int) := by have := P.out; omega
      rw [e3, e4]
      refine ⟨rfl, FIN.out _ (some ad) (.inl rfl) (Blk.to ((((H.out.set_ 0 _).set_ 1 _).set_ 4 _).set_ 3 _).drew1 ?_) (((((Alt.refl w (fun k => k = g)).set_ rfl _).set_ rfl _).set_ rfl _).set_ rfl _).drew1⟩
      have e := hsafe.out
      simp [rc, e]
      simp [cr]
    · have P := Lib.hid p3
      clear h0 h1 p3
      go_enter Tryz.func16, Tryz.ntmps16
      go_wp2
      go_region
      go_wp2
      go_end0
      refine ⟨rfl, FIN.out _ (some ad) (.inl rfl) (Blk.to ((((H.out.set_ 0 _).set_ 1 _).set_ 4 _).set_ 3 _).drew1 ?_) (((((Alt.refl w (fun k => k = g)).set_ rfl _).set_ rfl _).set_ rfl _).set_ rfl _).drew1⟩
      have e := hsafe.out
      rw [P.out] at e ⊢
      simp [rc, e]
      simp [cr]

    · have P := Lib.hid p3
      clear h0 h1 p3
      go_enter Tryz.func16, Tryz.ntmps16
      go_wp2
      go_region
      go_wp2
      go_end0
      refine ⟨rfl, FIN.out _ (some ad) (.inl rfl) (Blk.to ((((H.out.set_ 0 _).set_ 1 _).set_ 4 _).set_ 3 _).drew1 ?_) (((((Alt.refl w (fun k => k = g)).set_ rfl _).set_ rfl _).set_ rfl _).set_ rfl _).drew1⟩
      have e := hsafe.out
      rw [P.out] at e ⊢
      simp [rc, e]
      simp [cr] <;> omega

end Go.Proofs.YthfmallebojjpaaGreatDoor.Dk
