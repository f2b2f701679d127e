/-
  The law by cases: what they are made of.
-/
import Derived.Test.YtfajabaikainmaaGreatDoorFt1
import Derived.Test.YtfajabaikainmaaGreatDoorFt2
import Derived.Test.YtfajabaikainmaaGreatDoorFt3
import Derived.Test.YtfajabaikainmaaGreatDoorFt4
import Derived.Test.YtfajabaikainmaaGreatDoorFt5
import Derived.Test.YtfajabaikainmaaGreatDoorFt6
import Derived.Test.YtfajabaikainmaaGreatDoorFt7
import Derived.Test.YtfajabaikainmaaGreatDoorPi
import Derived.Test.YtfajabaikainmaaGreatDoorFl1
namespace Go.Proofs.YtfajabaikainmaaGreatDoor.Kt
open Go Go.RowKit CX
def sN (a0 : Int) : Nat → Value := fun i => match i with
  | 0 => .int .i64 a0
  | _ => .bool false
theorem sN_one (a0 : Int) (n : Nat) : (sN a0 n).oneCell' = true := by unfold sN; split <;> rfl
theorem pick_ok {s : Nat → Value} (i : Nat) (a m v : Int) (hs : s i = .int .i64 a) (h0 : 0 < m) (h1 : m ≤ 4294967296) (hv : a % m = v) : OrcOk Tryz.prog ⟨6, s⟩ (orcP 8 [sy i, .int .i64 m] (.int .i64 v)) := by
  refine orcP_ok rfl (u0 := .int .i64 v) (fun E _ => .plain rfl) (fun W => ?_)
  show Calls Tryz.prog 8 #[s i, .int .i64 m] W _
  rw [hs]
  refine (pick_any a m W h0 h1).mono ?_
  rintro e w' ⟨rfl, rfl⟩
  exact ⟨by rw [hv], Below.refl _ _⟩
noncomputable def orcs (s : Nat → Value) (m0 : Int) : Nat → List Value → Hp → Option (Value × Hp) := (orcOr (orcP 8 [sy 0, .int .i64 19] (.int .i64 m0)) (orcOr (Fl.orcFull (xo s noOrc) 17 52) (orcOr (orcH k0) (orcOr (orcR 6 k1) (orcOr (orcR 6 k2) (orcOr (orcR 6 k3) (orcOr (orcH k4) (orcOr (orcR 6 k5) (orcOr (orcH k6) (orcOr (orcR 6 k7) (orcOr (orcH k8) (orcOr (orcR 6 k9) (orcOr (orcH k10) (orcOr (orcR 6 k11) (orcOr (orcH k12) (orcOr (orcR 6 k13) (orcOr (orcH k14) (orcOr (orcR 6 k15) (orcOr (orcH k16) (orcOr (orcR 6 k17) (orcOr (orcH k18) (orcOr (orcR 6 k19) (orcOr (orcH k20) (orcOr (orcR 6 k21) (orcOr (orcH k22) (orcOr (orcR 6 k23) (orcOr (orcH k24) (orcOr (orcR 6 k25) (orcOr (orcH k26) (orcOr (orcR 6 k27) (orcOr (orcH k28) (orcOr (orcR 6 k29) (orcOr (orcH k30) (orcOr (orcR 6 k31) (orcOr (orcH k32) (orcOr (orcR 6 k33) (orcOr (orcH k34) (orcOr (orcR 6 k35) (orcOr (orcH k36) (orcOr (orcR 6 k37) (orcOr (orcH k38) (orcOr (orcR 6 k39) (orcOr (orcH k40) (orcOr (orcH k41) (orcOr (orcH k42) (orcOr (orcH k43) (orcOr (orcH k44) (orcOr (orcR 6 k45) (orcOr (orcH k46) (orcOr (orcH k47) (orcOr (orcH k57) (orcOr (orcH k58) (orcOr (orcH k59) (orcOr (orcH k60) (orcOr (orcH k61) (orcOr (orcH k62) (orcOr (orcH k63) (orcOr (orcH k64) (orcOr (orcH k65) (orcOr (orcH k66) (orcOr (orcH k67) (orcOr (orcH k68) (orcOr (orcH k69) (orcOr (orcH k70) (orcOr (orcH k71) (orcOr (orcH k72) (orcOr (orcH k73) (orcOr (orcH k74) (orcOr (orcH k75) noOrc)))))))))))))))))))))))))))))))))))))))))))))))))))))))))))))))))))))
theorem orcs_ok {s : Nat → Value} {a0 m0 : Int} (hs : s 0 = .int .i64 a0) (h0 : a0 % 19 = m0) : OrcOk Tryz.prog ⟨6, s⟩ (orcs s m0) := (orcOr_ok (pick_ok 0 a0 19 m0 hs (by decide) (by decide) h0) (orcOr_ok (Fl.orcFull_ok (xo_ok (noOrc_ok _ _)) rfl) (orcOr_ok (k0_ok s) (orcOr_ok (k1_ok s) (orcOr_ok (k2_ok s) (orcOr_ok (k3_ok s) (orcOr_ok (k4_ok s) (orcOr_ok (k5_ok s) (orcOr_ok (k6_ok s) (orcOr_ok (k7_ok s) (orcOr_ok (k8_ok s) (orcOr_ok (k9_ok s) (orcOr_ok (k10_ok s) (orcOr_ok (k11_ok s) (orcOr_ok (k12_ok s) (orcOr_ok (k13_ok s) (orcOr_ok (k14_ok s) (orcOr_ok (k15_ok s) (orcOr_ok (k16_ok s) (orcOr_ok (k17_ok s) (orcOr_ok (k18_ok s) (orcOr_ok (k19_ok s) (orcOr_ok (k20_ok s) (orcOr_ok (k21_ok s) (orcOr_ok (k22_ok s) (orcOr_ok (k23_ok s) (orcOr_ok (k24_ok s) (orcOr_ok (k25_ok s) (orcOr_ok (k26_ok s) (orcOr_ok (k27_ok s) (orcOr_ok (k28_ok s) (orcOr_ok (k29_ok s) (orcOr_ok (k30_ok s) (orcOr_ok (k31_ok s) (orcOr_ok (k32_ok s) (orcOr_ok (k33_ok s) (orcOr_ok (k34_ok s) (orcOr_ok (k35_ok s) (orcOr_ok (k36_ok s) (orcOr_ok (k37_ok s) (orcOr_ok (k38_ok s) (orcOr_ok (k39_ok s) (orcOr_ok (k40_ok s) (orcOr_ok (k41_ok s) (orcOr_ok (k42_ok s) (orcOr_ok (k43_ok s) (orcOr_ok (k44_ok s) (orcOr_ok (k45_ok s) (orcOr_ok (k46_ok s) (orcOr_ok (k47_ok s) (orcOr_ok (k57_ok s) (orcOr_ok (k58_ok s) (orcOr_ok (k59_ok s) (orcOr_ok (k60_ok s) (orcOr_ok (k61_ok s) (orcOr_ok (k62_ok s) (orcOr_ok (k63_ok s) (orcOr_ok (k64_ok s) (orcOr_ok (k65_ok s) (orcOr_ok (k66_ok s) (orcOr_ok (k67_ok s) (orcOr_ok (k68_ok s) (orcOr_ok (k69_ok s) (orcOr_ok (k70_ok s) (orcOr_ok (k71_ok s) (orcOr_ok (k72_ok s) (orcOr_ok (k73_ok s) (orcOr_ok (k74_ok s) (orcOr_ok (k75_ok s) (noOrc_ok _ _))))))))))))))))))))))))))))))))))))))))))))))))))))))))))))))))))))))
noncomputable def runs (s : Nat → Value) (m0 : Int) : Bool := gives1 (xo s (orcs s m0)) 100000 3 [sy 0, .bool true] (.bool true)
end Go.Proofs.YtfajabaikainmaaGreatDoor.Kt
