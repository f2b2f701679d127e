/-
  The law by cases: what they are made of.
-/
import Derived.Test.YtaphobloggdfnaaGreatDoorTm1
import Derived.Test.YtaphobloggdfnaaGreatDoorPi
namespace Go.Proofs.YtaphobloggdfnaaGreatDoor.Kw
open Go Go.RowKit CX
def sN (a0 a1 : Int) : Nat → Value := fun i => match i with
  | 0 => .int .i64 a0
  | 1 => .int .i64 a1
  | _ => .bool false
theorem sN_one (a0 a1 : Int) (n : Nat) : (sN a0 a1 n).oneCell' = true := by unfold sN; split <;> rfl
theorem pick_ok {s : Nat → Value} (i : Nat) (a m v : Int) (hs : s i = .int .i64 a) (h0 : 0 < m) (h1 : m ≤ 4294967296) (hv : a % m = v) : OrcOk Tryz.prog ⟨8, s⟩ (orcP 5 [sy i, .int .i64 m] (.int .i64 v)) := by
  refine orcP_ok rfl (u0 := .int .i64 v) (fun E _ => .plain rfl) (fun W => ?_)
  show Calls Tryz.prog 5 #[s i, .int .i64 m] W _
  rw [hs]
  refine (pick_any a m W h0 h1).mono ?_
  rintro e w' ⟨rfl, rfl⟩
  exact ⟨by rw [hv], Below.refl _ _⟩
noncomputable def orcs (m0 m1 : Int) : Nat → List Value → Hp → Option (Value × Hp) := (orcOr (orcP 5 [sy 0, .int .i64 20] (.int .i64 m0)) (orcOr (orcP 5 [sy 1, .int .i64 2] (.int .i64 m1)) (orcOr (orcH k0) (orcOr (orcH k1) (orcOr (orcR 8 k2) (orcOr (orcR 8 k4) (orcOr (orcR 8 k5) (orcOr (orcH k6) (orcOr (orcR 8 k7) (orcOr (orcR 8 k8) (orcOr (orcR 8 k9) (orcOr (orcR 8 k10) (orcOr (orcR 8 k11) (orcOr (orcR 8 k12) (orcOr (orcR 8 k13) (orcOr (orcR 8 k14) (orcOr (orcR 8 k15) (orcOr (orcR 8 k16) (orcOr (orcR 8 k17) (orcOr (orcR 8 k18) (orcOr (orcR 8 k19) (orcOr (orcR 8 k20) (orcOr (orcR 8 k21) (orcOr (orcR 8 k22) (orcOr (orcR 8 k23) (orcOr (orcR 8 k24) (orcOr (orcR 8 k25) (orcOr (orcR 8 k26) (orcOr (orcH k27) (orcOr (orcH k28) noOrc))))))))))))))))))))))))))))))
theorem orcs_ok {a0 a1 m0 m1 : Int} (h0 : a0 % 20 = m0) (h1 : a1 % 2 = m1) : OrcOk Tryz.prog ⟨8, sN a0 a1⟩ (orcs m0 m1) := (orcOr_ok (pick_ok 0 a0 20 m0 (s := sN a0 a1) rfl (by decide) (by decide) h0) (orcOr_ok (pick_ok 1 a1 2 m1 (s := sN a0 a1) rfl (by decide) (by decide) h1) (orcOr_ok (k0_ok (sN a0 a1)) (orcOr_ok (k1_ok (sN a0 a1)) (orcOr_ok (k2_ok (sN a0 a1)) (orcOr_ok (k4_ok (sN a0 a1)) (orcOr_ok (k5_ok (sN a0 a1)) (orcOr_ok (k6_ok (sN a0 a1)) (orcOr_ok (k7_ok (sN a0 a1)) (orcOr_ok (k8_ok (sN a0 a1)) (orcOr_ok (k9_ok (sN a0 a1)) (orcOr_ok (k10_ok (sN a0 a1)) (orcOr_ok (k11_ok (sN a0 a1)) (orcOr_ok (k12_ok (sN a0 a1)) (orcOr_ok (k13_ok (sN a0 a1)) (orcOr_ok (k14_ok (sN a0 a1)) (orcOr_ok (k15_ok (sN a0 a1)) (orcOr_ok (k16_ok (sN a0 a1)) (orcOr_ok (k17_ok (sN a0 a1)) (orcOr_ok (k18_ok (sN a0 a1)) (orcOr_ok (k19_ok (sN a0 a1)) (orcOr_ok (k20_ok (sN a0 a1)) (orcOr_ok (k21_ok (sN a0 a1)) (orcOr_ok (k22_ok (sN a0 a1)) (orcOr_ok (k23_ok (sN a0 a1)) (orcOr_ok (k24_ok (sN a0 a1)) (orcOr_ok (k25_ok (sN a0 a1)) (orcOr_ok (k26_ok (sN a0 a1)) (orcOr_ok (k27_ok (sN a0 a1)) (orcOr_ok (k28_ok (sN a0 a1)) (noOrc_ok _ _)))))))))))))))))))))))))))))))
noncomputable def runs (s : Nat → Value) (m0 m1 : Int) : Bool := gives1 (xo s (orcs m0 m1)) 100000 3 [sy 0, sy 1] (.bool true)
end Go.Proofs.YtaphobloggdfnaaGreatDoor.Kw
