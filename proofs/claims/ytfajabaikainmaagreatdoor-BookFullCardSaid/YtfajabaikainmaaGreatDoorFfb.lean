/-
  The law by cases: what they are made of.
-/
import Derived.Test.YtfajabaikainmaaGreatDoorFf1
import Derived.Test.YtfajabaikainmaaGreatDoorFf2
import Derived.Test.YtfajabaikainmaaGreatDoorFf3
import Derived.Test.YtfajabaikainmaaGreatDoorFf4
import Derived.Test.YtfajabaikainmaaGreatDoorFf5
import Derived.Test.YtfajabaikainmaaGreatDoorFf6
import Derived.Test.YtfajabaikainmaaGreatDoorPi
import Derived.Test.YtfajabaikainmaaGreatDoorFl1
namespace Go.Proofs.YtfajabaikainmaaGreatDoor.Kf
open Go Go.RowKit CX
def sN (a0 : Int) : Nat → Value := fun i => match i with
  | 0 => .int .i64 a0
  | _ => .bool false
theorem sN_one (a0 : Int) (n : Nat) : (sN a0 n).oneCell' = true := by unfold sN; split <;> rfl
theorem pick_ok {s : Nat → Value} (i : Nat) (a m v : Int) (hs : s i = .int .i64 a) (h0 : 0 < m) (h1 : m ≤ 4294967296) (hv : a % m = v) : OrcOk Tryz.prog ⟨6, s⟩ (orcP 8 [sy i, .int .i64 m] (.int .i64 v)) := by
  refine orcP_ok rfl (u0 := .int .i64 v) (fun E _ => .plain rfl) (fun W => ?_)
  show Calls Tryz.prog 8 #[s i, .int .i64 m] W _
  rw [hs]
  refine (pick_any a m W h0 h1).mono ?_
  rintro e w' ⟨rfl, rfl⟩
  exact ⟨by rw [hv], Below.refl _ _⟩
noncomputable def orcs (s : Nat → Value) (m0 : Int) : Nat → List Value → Hp → Option (Value × Hp) := (orcOr (orcP 8 [sy 0, .int .i64 39] (.int .i64 m0)) (orcOr (Fl.orcFull (xo s noOrc) 17 52) (orcOr (orcH k0) (orcOr (orcR 6 k1) (orcOr (orcR 6 k2) (orcOr (orcR 6 k3) (orcOr (orcH k4) (orcOr (orcH k5) (orcOr (orcH k6) (orcOr (orcH k7) (orcOr (orcH k8) (orcOr (orcH k9) (orcOr (orcH k10) (orcOr (orcH k11) (orcOr (orcH k12) (orcOr (orcH k13) (orcOr (orcH k14) (orcOr (orcH k15) (orcOr (orcH k16) (orcOr (orcH k17) (orcOr (orcH k18) (orcOr (orcH k19) (orcOr (orcH k20) (orcOr (orcH k21) (orcOr (orcH k22) (orcOr (orcH k23) (orcOr (orcH k24) (orcOr (orcH k25) (orcOr (orcH k26) (orcOr (orcH k27) (orcOr (orcH k28) (orcOr (orcH k29) (orcOr (orcH k30) (orcOr (orcH k31) (orcOr (orcH k32) (orcOr (orcH k33) (orcOr (orcH k34) (orcOr (orcH k35) (orcOr (orcH k36) (orcOr (orcH k37) (orcOr (orcH k38) (orcOr (orcH k39) (orcOr (orcH k40) (orcOr (orcH k41) (orcOr (orcH k42) (orcOr (orcH k43) (orcOr (orcH k44) (orcOr (orcH k45) (orcOr (orcH k54) (orcOr (orcH k55) (orcOr (orcH k56) (orcOr (orcH k57) (orcOr (orcH k58) (orcOr (orcH k59) (orcOr (orcH k60) (orcOr (orcH k61) (orcOr (orcH k62) (orcOr (orcH k63) (orcOr (orcH k64) (orcOr (orcH k65) (orcOr (orcH k66) (orcOr (orcH k67) (orcOr (orcH k68) (orcOr (orcH k69) (orcOr (orcH k70) (orcOr (orcH k71) (orcOr (orcH k72) (orcOr (orcH k73) (orcOr (orcH k74) (orcOr (orcH k75) (orcOr (orcH k76) (orcOr (orcH k77) (orcOr (orcH k78) (orcOr (orcH k79) (orcOr (orcH k80) (orcOr (orcH k81) (orcOr (orcH k82) (orcOr (orcH k83) (orcOr (orcH k84) (orcOr (orcH k85) (orcOr (orcH k86) (orcOr (orcH k87) (orcOr (orcH k88) (orcOr (orcH k89) (orcOr (orcH k90) (orcOr (orcH k91) (orcOr (orcH k92) noOrc)))))))))))))))))))))))))))))))))))))))))))))))))))))))))))))))))))))))))))))))))))))))
theorem orcs_ok {s : Nat → Value} {a0 m0 : Int} (hs : s 0 = .int .i64 a0) (h0 : a0 % 39 = m0) : OrcOk Tryz.prog ⟨6, s⟩ (orcs s m0) := (orcOr_ok (pick_ok 0 a0 39 m0 hs (by decide) (by decide) h0) (orcOr_ok (Fl.orcFull_ok (xo_ok (noOrc_ok _ _)) rfl) (orcOr_ok (k0_ok s) (orcOr_ok (k1_ok s) (orcOr_ok (k2_ok s) (orcOr_ok (k3_ok s) (orcOr_ok (k4_ok s) (orcOr_ok (k5_ok s) (orcOr_ok (k6_ok s) (orcOr_ok (k7_ok s) (orcOr_ok (k8_ok s) (orcOr_ok (k9_ok s) (orcOr_ok (k10_ok s) (orcOr_ok (k11_ok s) (orcOr_ok (k12_ok s) (orcOr_ok (k13_ok s) (orcOr_ok (k14_ok s) (orcOr_ok (k15_ok s) (orcOr_ok (k16_ok s) (orcOr_ok (k17_ok s) (orcOr_ok (k18_ok s) (orcOr_ok (k19_ok s) (orcOr_ok (k20_ok s) (orcOr_ok (k21_ok s) (orcOr_ok (k22_ok s) (orcOr_ok (k23_ok s) (orcOr_ok (k24_ok s) (orcOr_ok (k25_ok s) (orcOr_ok (k26_ok s) (orcOr_ok (k27_ok s) (orcOr_ok (k28_ok s) (orcOr_ok (k29_ok s) (orcOr_ok (k30_ok s) (orcOr_ok (k31_ok s) (orcOr_ok (k32_ok s) (orcOr_ok (k33_ok s) (orcOr_ok (k34_ok s) (orcOr_ok (k35_ok s) (orcOr_ok (k36_ok s) (orcOr_ok (k37_ok s) (orcOr_ok (k38_ok s) (orcOr_ok (k39_ok s) (orcOr_ok (k40_ok s) (orcOr_ok (k41_ok s) (orcOr_ok (k42_ok s) (orcOr_ok (k43_ok s) (orcOr_ok (k44_ok s) (orcOr_ok (k45_ok s) (orcOr_ok (k54_ok s) (orcOr_ok (k55_ok s) (orcOr_ok (k56_ok s) (orcOr_ok (k57_ok s) (orcOr_ok (k58_ok s) (orcOr_ok (k59_ok s) (orcOr_ok (k60_ok s) (orcOr_ok (k61_ok s) (orcOr_ok (k62_ok s) (orcOr_ok (k63_ok s) (orcOr_ok (k64_ok s) (orcOr_ok (k65_ok s) (orcOr_ok (k66_ok s) (orcOr_ok (k67_ok s) (orcOr_ok (k68_ok s) (orcOr_ok (k69_ok s) (orcOr_ok (k70_ok s) (orcOr_ok (k71_ok s) (orcOr_ok (k72_ok s) (orcOr_ok (k73_ok s) (orcOr_ok (k74_ok s) (orcOr_ok (k75_ok s) (orcOr_ok (k76_ok s) (orcOr_ok (k77_ok s) (orcOr_ok (k78_ok s) (orcOr_ok (k79_ok s) (orcOr_ok (k80_ok s) (orcOr_ok (k81_ok s) (orcOr_ok (k82_ok s) (orcOr_ok (k83_ok s) (orcOr_ok (k84_ok s) (orcOr_ok (k85_ok s) (orcOr_ok (k86_ok s) (orcOr_ok (k87_ok s) (orcOr_ok (k88_ok s) (orcOr_ok (k89_ok s) (orcOr_ok (k90_ok s) (orcOr_ok (k91_ok s) (orcOr_ok (k92_ok s) (noOrc_ok _ _))))))))))))))))))))))))))))))))))))))))))))))))))))))))))))))))))))))))))))))))))))))))
noncomputable def runs (s : Nat → Value) (m0 : Int) : Bool := gives1 (xo s (orcs s m0)) 100000 3 [sy 0, .bool false] (.bool true)
end Go.Proofs.YtfajabaikainmaaGreatDoor.Kf
