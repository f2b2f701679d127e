/-
  A small fraction of a raw number: R and Q of the statements' hand.
-/
import Derived.Test.YtjohbgkdhppglaaDoorQk1
import Derived.Test.YtjohbgkdhppglaaDoorQk2
import Derived.Test.YtjohbgkdhppglaaDoorQk3
import Derived.Test.YtjohbgkdhppglaaDoorQk4
import Derived.Test.YtjohbgkdhppglaaDoorPk
import Derived.Test.YtjohbgkdhppglaaDoorB
namespace Go.Proofs.YtjohbgkdhppglaaDoor
open Go.RowKit
open CX (fcall X1 Hp En HR GOk VR Img0 Img okQ qof F2 LR)

theorem HR.setCell {E : En} {h : Hp} {w : World} (H : HR E h w) {b : Nat} (hf : ¬ Img0 E h b) (j : Nat) (v : Value) : HR E h (w.setCell ⟨b, j, none⟩ v) :=
  ⟨H.fresh, fun i o hi => by
    obtain ⟨e, he, ho⟩ := H.obj i o hi
    exact ⟨e, he, ho.mono (CX.En.le_refl E) (Below.heap_setCell w _ v e.blk fun hb => hf ⟨i, o, e, hi, he, hb⟩)⟩, H.inj⟩
def q3 (v : Value) : Prop := ∃ b A n c B m d, v = .agg ⟨[.bool b, .slice A n c, .slice B m d]⟩
theorem q3_inv {E : En} {v u : Value} (h : VR E v u) (hq : q3 v) : ∃ b A n c B m d, u = .agg #[.bool b, .slice A n c, .slice B m d] := by
  obtain ⟨b, A, n, c, B, m, d, rfl⟩ := hq
  obtain ⟨l', rfl, hl⟩ := h.agg_inv
  cases hl with
  | cons h1 hl =>
    cases hl with
    | cons h2 hl =>
      cases hl with
      | cons h3 hl =>
        cases hl
        obtain ⟨s1, c1, rfl, _⟩ := h2.sl_form
        obtain ⟨s2, c2, rfl, _⟩ := h3.sl_form
        have := VR.plain_inv rfl h1; subst this
        exact ⟨b, s1, n, c1, s2, m, c2, rfl⟩
def RMet (i : Int) (d : Nat) (w w' : World) (u : Value) : Prop :=
  ∃ v1 h1 h2 E, fcall X1 5000 9 [v1] h1 = some (qof i d, h2) ∧ HR E h1 w' ∧ GOk 4 E ∧ VR E v1 u ∧ Below w.heap.size w w' ∧ ∀ k, k < w.heap.size → ¬ Img0 E h1 k
theorem over_run (i : Int) (d : Nat) (w : World) (h : okQ d i = true) :
    Calls Tryd.prog 23 #[.int .i64 i, .int .i64 (d : Int)] w fun e w' => ∃ b A n c B m k, e = .returned (.agg #[.bool b, .slice A n c, .slice B m k]) ∧ RMet i d w w' (.agg #[.bool b, .slice A n c, .slice B m k]) := by
  obtain ⟨v1, hh1, hh2, h1, hq, h2⟩ := CX.okQ_parts h
  rw [CX.fcall_eq] at h1
  refine (CX.xcall_sound CX.X1_ok h1 (CX.HR.zero 4 w) (CX.GOk.zero 4) (F2.refl _ fun a ha => by
    simp at ha; rcases ha with rfl | rfl <;> exact .plain rfl)).mono ?_
  rintro e w' ⟨E', u, rfl, st, hu⟩
  obtain ⟨b, A, n, c, B, m, k, rfl⟩ := q3_inv hu (CX.q3B_sound hq)
  refine ⟨b, A, n, c, B, m, k, rfl, v1, hh1, hh2, E', h2, st.hr, (CX.GOk.zero 4).mono st.le, hu, st.below (Nat.le_refl _) ?_, fun k hk => st.keep0 k hk ?_⟩
  · rintro k _ ⟨i, o, e, h, _⟩; rw [CX.Hp.zero_ob] at h; cases h
  · rintro ⟨i, o, e, h, _⟩; rw [CX.Hp.zero_ob] at h; cases h
end Go.Proofs.YtjohbgkdhppglaaDoor
