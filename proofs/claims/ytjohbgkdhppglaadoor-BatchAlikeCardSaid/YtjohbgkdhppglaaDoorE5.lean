/-
  A call whose arguments and result are plain values.
-/
import Derived.Test.YtjohbgkdhppglaaDoorE4
import Derived.KernelRfl
import Derived.Test.YtjohbgkdhppglaaDoorProg
namespace Go.Proofs.YtjohbgkdhppglaaDoor.CX
open Go Go.RowKit
noncomputable def plain2 : Value → Bool
  | .tuple ⟨l⟩ => allB plain l
  | v => plain v
theorem VR.plain2_eq {E : En} {v u : Value} (hp : plain2 v = true) (h : VR E v u) : u = v := by
  unfold plain2 at hp
  split at hp
  · obtain ⟨l', rfl, hl⟩ := h.tuple_inv
    rw [LR.plain_eq hp hl]
  · exact VR.plain_eq hp h
def En.zero (ng : Nat) : En := fun g => if g < ng then some ⟨g, 0, 0⟩ else none
def Hp.zero (ng : Nat) : Hp := { next := ng, bs := .leaf }
theorem Hp.zero_ob (ng i : Nat) : (Hp.zero ng).ob i = none := rfl
theorem HR.zero (ng : Nat) (w : World) : HR (En.zero ng) (Hp.zero ng) w :=
  ⟨fun i hi => if_neg (by have : ng ≤ i := hi; omega), fun i o h => (by rw [Hp.zero_ob] at h; cases h), fun i j o o' e e' h => (by rw [Hp.zero_ob] at h; cases h)⟩
theorem GOk.zero (ng : Nat) : GOk ng (En.zero ng) := fun g hg => ⟨0, if_pos hg⟩
theorem run_plain {x : X} (hx : x.Ok) {fuel k : Nat} {av : List Value} {v : Value} {h' : Hp} (hh : fcall x fuel k av (Hp.zero x.ng) = some (v, h')) (has : allB plain av = true) (hv : plain2 v = true) (w : World) :
    Calls x.P k ⟨av⟩ w fun e w' => e = .returned v ∧ Below w.heap.size w w' := by
  rw [fcall_eq] at hh
  refine (xcall_sound hx hh (HR.zero x.ng w) (GOk.zero x.ng) (F2.refl _ fun a ha => VR.of_plain ((allB_all _ _).1 has a ha))).mono ?_
  rintro e w' ⟨E', u, rfl, st, hu⟩
  rw [VR.plain2_eq hv hu]
  exact ⟨rfl, st.below (Nat.le_refl _) fun k _ => by rintro ⟨i, o, e, h, _⟩; rw [Hp.zero_ob] at h; cases h⟩
/- What is asked of a run, av one bit. -/
noncomputable def gives1 (x : X) (fuel k : Nat) (av : List Value) (v : Value) : Bool :=
  Option.rec (motive := fun _ => Bool) false (fun p => eqV p.1 v) (fcall x fuel k av (Hp.zero x.ng))
noncomputable def tup2 (u a b : Value) : Bool := match u with
  | .tuple ⟨[c, d]⟩ => bb (eqV c a) (eqV d b) false
  | _ => false
theorem tup2_eq {u a b : Value} (h : tup2 u a b = true) : u = .tuple ⟨[a, b]⟩ := by
  unfold tup2 at h
  split at h
  · obtain ⟨h1, h2⟩ := bb_true h
    rw [eqV_eq h1, eqV_eq h2]
  · cases h
noncomputable def gives2 (x : X) (fuel k : Nat) (av : List Value) (a b : Value) : Bool :=
  Option.rec (motive := fun _ => Bool) false (fun p => tup2 p.1 a b) (fcall x fuel k av (Hp.zero x.ng))
theorem gives1_run {x : X} (hx : x.Ok) {fuel k : Nat} {av : List Value} {v : Value} (hh : gives1 x fuel k av v = true) (has : allB plain av = true) (hv : plain2 v = true) (w : World) :
    Calls x.P k ⟨av⟩ w fun e w' => e = .returned v ∧ Below w.heap.size w w' := by
  unfold gives1 at hh
  cases hf : fcall x fuel k av (Hp.zero x.ng) with
  | none => rw [hf] at hh; cases hh
  | some p =>
    obtain ⟨u, h'⟩ := p
    rw [hf] at hh
    have := eqV_eq (a := u) (b := v) hh; subst this
    exact run_plain hx hf has hv w
theorem gives2_run {x : X} (hx : x.Ok) {fuel k : Nat} {av : List Value} {a b : Value} (hh : gives2 x fuel k av a b = true) (has : allB plain av = true) (hv : plain2 (.tuple ⟨[a, b]⟩) = true) (w : World) :
    Calls x.P k ⟨av⟩ w fun e w' => e = .returned (.tuple ⟨[a, b]⟩) ∧ Below w.heap.size w w' := by
  unfold gives2 at hh
  cases hf : fcall x fuel k av (Hp.zero x.ng) with
  | none => rw [hf] at hh; cases hh
  | some p =>
    obtain ⟨u, h'⟩ := p
    rw [hf] at hh
    have := tup2_eq (u := u) hh; subst this
    exact run_plain hx hf has hv w
end Go.Proofs.YtjohbgkdhppglaaDoor.CX
