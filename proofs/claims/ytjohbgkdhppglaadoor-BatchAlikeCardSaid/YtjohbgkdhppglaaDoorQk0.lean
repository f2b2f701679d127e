/-
  A small fraction of a raw number: the closed runs.
-/
import Derived.Test.YtjohbgkdhppglaaDoorE5
namespace Go.Proofs.YtjohbgkdhppglaaDoor.CX
open Go Go.RowKit
noncomputable def X1 : X := X.mk' Tryd.prog 9 8 4
theorem X1_ok : X1.Ok := X.mk'_ok _ _ _ _ (by kernel_rfl)
def qv (b : Bool) (n d : Nat) : Value := .agg ⟨[.bool b, .int .u64 (Int.ofNat n), .string ⟨#[]⟩, .int .u64 (Int.ofNat d), .string ⟨#[]⟩]⟩
/- The fraction i by d: its sign, its parts in lowest terms (the lower one 0 where it is 1). -/
noncomputable def qneg (i : Int) : Bool := Int.rec (motive := fun _ => Bool) (fun _ => false) (fun _ => true) i
noncomputable def qnum (i : Int) (d : Nat) : Nat := Nat.div i.natAbs (Nat.gcd i.natAbs d)
noncomputable def qden (i : Int) (d : Nat) : Nat := bb (Nat.beq (Nat.div d (Nat.gcd i.natAbs d)) 1) 0 (Nat.div d (Nat.gcd i.natAbs d))
noncomputable def qof (i : Int) (d : Nat) : Value := qv (qneg i) (qnum i d) (qden i d)
noncomputable def q3B (v : Value) : Bool := match v with
  | .agg ⟨[.bool _, .slice _ _ _, .slice _ _ _]⟩ => true
  | _ => false
theorem q3B_sound {v : Value} (h : q3B v = true) : ∃ b A n c B m d, v = .agg ⟨[.bool b, .slice A n c, .slice B m d]⟩ := by
  unfold q3B at h
  split at h
  · exact ⟨_, _, _, _, _, _, _, rfl⟩
  · cases h
noncomputable def orF {α : Type} (r : Option α) (k : α → Bool) : Bool := Option.rec (motive := fun _ => Bool) false k r
theorem orF_true {α : Type} {r : Option α} {k : α → Bool} (h : orF r k = true) : ∃ a, r = some a ∧ k a = true := by
  cases r with
  | none => cases h
  | some a => exact ⟨a, rfl, h⟩
noncomputable def okQ (d : Nat) (i : Int) : Bool :=
  orF (fcall X1 5000 23 [.int .i64 i, .int .i64 (Int.ofNat d)] (Hp.zero 4)) fun p => bb (q3B p.1) (orF (fcall X1 5000 9 [p.1] p.2) fun q => eqV q.1 (qof i d)) false
theorem okQ_parts {d : Nat} {i : Int} (h : okQ d i = true) : ∃ v1 h1 h2, fcall X1 5000 23 [.int .i64 i, .int .i64 (Int.ofNat d)] (Hp.zero 4) = some (v1, h1) ∧ q3B v1 = true ∧ fcall X1 5000 9 [v1] h1 = some (qof i d, h2) := by
  unfold okQ at h
  obtain ⟨⟨v1, h1⟩, e1, h⟩ := orF_true h
  obtain ⟨hq, h⟩ := bb_true h
  obtain ⟨⟨q, h2⟩, e2, h⟩ := orF_true h
  have := eqV_eq h
  exact ⟨v1, h1, h2, e1, hq, by rw [e2]; exact congrArg some (congrArg (·, h2) this)⟩
end Go.Proofs.YtjohbgkdhppglaaDoor.CX
