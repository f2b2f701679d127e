/-
  The law by cases: what they are made of.
-/
import Derived.Test.YtdnohegcgpblpaaGreatDoorCm1
import Derived.Test.YtdnohegcgpblpaaGreatDoorCm2
import Derived.Test.YtdnohegcgpblpaaGreatDoorCm3
import Derived.Test.YtdnohegcgpblpaaGreatDoorCm4
import Derived.Test.YtdnohegcgpblpaaGreatDoorCm5
import Derived.Test.YtdnohegcgpblpaaGreatDoorPi
namespace Go.Proofs.YtdnohegcgpblpaaGreatDoor.Kw
open Go Go.RowKit CX
def sN (a0 : Int) : Nat → Value := fun i => match i with
  | 0 => .int .i64 a0
  | _ => .bool false
theorem sN_one (a0 : Int) (n : Nat) : (sN a0 n).oneCell' = true := by unfold sN; split <;> rfl
theorem pick_ok {s : Nat → Value} (i : Nat) (a m v : Int) (hs : s i = .int .i64 a) (h0 : 0 < m) (h1 : m ≤ 4294967296) (hv : a % m = v) : OrcOk Tryz.prog ⟨6, s⟩ (orcP 4 [sy i, .int .i64 m] (.int .i64 v)) := by
  refine orcP_ok rfl (u0 := .int .i64 v) (fun E _ => .plain rfl) (fun W => ?_)
  show Calls Tryz.prog 4 #[s i, .int .i64 m] W _
  rw [hs]
  refine (pick_any a m W h0 h1).mono ?_
  rintro e w' ⟨rfl, rfl⟩
  exact ⟨by rw [hv], Below.refl _ _⟩
noncomputable def orcs (m0 : Int) : Nat → List Value → Hp → Option (Value × Hp) := (orcOr (orcP 4 [sy 0, .int .i64 24] (.int .i64 m0)) (orcOr (orcR 6 k0) (orcOr (orcR 6 k4) (orcOr (orcR 6 k7) noOrc))))
theorem orcs_ok {a0 m0 : Int} (h0 : a0 % 24 = m0) : OrcOk Tryz.prog ⟨6, sN a0⟩ (orcs m0) := (orcOr_ok (pick_ok 0 a0 24 m0 (s := sN a0) rfl (by decide) (by decide) h0) (orcOr_ok (k0_ok (sN a0)) (orcOr_ok (k4_ok (sN a0)) (orcOr_ok (k7_ok (sN a0)) (noOrc_ok _ _)))))
noncomputable def runs (s : Nat → Value) (m0 : Int) : Bool := gives1 (xo s (orcs m0)) 100000 3 [sy 0] (.bool true)
end Go.Proofs.YtdnohegcgpblpaaGreatDoor.Kw
