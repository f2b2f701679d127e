/- The runs of known calls. -/
import Derived.Test.YtemgclnkgieldaaGreatDoorMp0
namespace Go.Proofs.YtemgclnkgieldaaGreatDoor.Mv
open Go Go.RowKit CX Md
theorem k0_run (s:Nat→Value):runH (xo s noOrc) 100000 k0=true:=by kernel_rfl
theorem k0_okR:okR 6 k0=true:=by kernel_rfl
theorem zx0 (s:Nat→Value):OrcOk Tryz.prog ⟨6,s⟩ (orcR 6 k0):=zbo (zbq (zaq _ _)) rfl k0_okR (k0_run s)
theorem k1_run (s:Nat→Value):runH (xo s noOrc) 100000 k1=true:=by kernel_rfl
theorem k1_okR:okR 6 k1=true:=by kernel_rfl
theorem zlu (s:Nat→Value):OrcOk Tryz.prog ⟨6,s⟩ (orcR 6 k1):=zbo (zbq (zaq _ _)) rfl k1_okR (k1_run s)
theorem k3_run (s:Nat→Value):runH (xo s (orcOr (orcR 6 k1) noOrc)) 100000 k3=true:=by kernel_rfl
theorem k3_okR:okR 6 k3=true:=by kernel_rfl
theorem zx1 (s:Nat→Value):OrcOk Tryz.prog ⟨6,s⟩ (orcR 6 k3):=zbo (zbq (zaf (zlu _) (zaq _ _))) rfl k3_okR (k3_run s)
theorem k5_run (s:Nat→Value):runH (xo s (orcOr (orcR 6 k1) noOrc)) 100000 k5=true:=by kernel_rfl
theorem k5_okR:okR 6 k5=true:=by kernel_rfl
theorem zx2 (s:Nat→Value):OrcOk Tryz.prog ⟨6,s⟩ (orcR 6 k5):=zbo (zbq (zaf (zlu _) (zaq _ _))) rfl k5_okR (k5_run s)
theorem k6_run (s:Nat→Value):runH (xo s noOrc) 100000 k6=true:=by kernel_rfl
theorem k6_okR:okR 6 k6=true:=by kernel_rfl
theorem zx3 (s:Nat→Value):OrcOk Tryz.prog ⟨6,s⟩ (orcR 6 k6):=zbo (zbq (zaq _ _)) rfl k6_okR (k6_run s)
theorem k7_run (s:Nat→Value):runH (xo s (orcOr (orcR 6 k6) (orcOr (orcR 6 k1) noOrc))) 100000 k7=true:=by kernel_rfl
theorem k7_okR:okR 6 k7=true:=by kernel_rfl
theorem k7_ok (s:Nat→Value):OrcOk Tryz.prog ⟨6,s⟩ (orcR 6 k7):=zbo (zbq (zaf (zx3 _) (zaf (zlu _) (zaq _ _)))) rfl k7_okR (k7_run s)
theorem k8_run (s:Nat→Value):runH (xo s noOrc) 100000 k8=true:=by kernel_rfl
theorem k8_okR:okR 6 k8=true:=by kernel_rfl
theorem k8_ok (s:Nat→Value):OrcOk Tryz.prog ⟨6,s⟩ (orcR 6 k8):=zbo (zbq (zaq _ _)) rfl k8_okR (k8_run s)
theorem zx4 (s:Nat→Value):runH (xo s noOrc) 100000 k11=true:=by kernel_rfl
theorem k11_ok (s:Nat→Value):OrcOk Tryz.prog ⟨6,s⟩ (orcH k11):=zb8 (zbq (zaq _ _)) (zx4 s)
theorem zx5 (s:Nat→Value):runH (xo s noOrc) 100000 k12=true:=by kernel_rfl
theorem k12_ok (s:Nat→Value):OrcOk Tryz.prog ⟨6,s⟩ (orcH k12):=zb8 (zbq (zaq _ _)) (zx5 s)
theorem zx6 (s:Nat→Value):runH (xo s noOrc) 100000 k13=true:=by kernel_rfl
theorem zx7:okR 6 k13=true:=by kernel_rfl
theorem k13_ok (s:Nat→Value):OrcOk Tryz.prog ⟨6,s⟩ (orcR 6 k13):=zbo (zbq (zaq _ _)) rfl zx7 (zx6 s)
theorem zx8 (s:Nat→Value):runH (xo s noOrc) 100000 k14=true:=by kernel_rfl
theorem zx9:okR 6 k14=true:=by kernel_rfl
theorem k14_ok (s:Nat→Value):OrcOk Tryz.prog ⟨6,s⟩ (orcR 6 k14):=zbo (zbq (zaq _ _)) rfl zx9 (zx8 s)
theorem zya (s:Nat→Value):runH (xo s noOrc) 100000 k15=true:=by kernel_rfl
theorem zyb:okR 6 k15=true:=by kernel_rfl
theorem k15_ok (s:Nat→Value):OrcOk Tryz.prog ⟨6,s⟩ (orcR 6 k15):=zbo (zbq (zaq _ _)) rfl zyb (zya s)
theorem zyc (s:Nat→Value):runH (xo s (orcOr (orcR 6 k8) (orcOr (orcR 6 k13) (orcOr (orcR 6 k14) (orcOr (orcR 6 k15) noOrc))))) 100000 k16=true:=by kernel_rfl
theorem k16_ok (s:Nat→Value):OrcOk Tryz.prog ⟨6,s⟩ (orcH k16):=zb8 (zbq (zaf (k8_ok _) (zaf (k13_ok _) (zaf (k14_ok _) (zaf (k15_ok _) (zaq _ _)))))) (zyc s)
theorem zyd (s:Nat→Value):runH (xo s (orcOr (orcP 4 [.float .f64 0,.int .i64 8] (.int .i64 1)) (orcOr (orcR 6 k0) (orcOr (orcR 6 k1) (orcOr (orcH k11) (orcOr (orcR 6 k3) (orcOr (orcH k12) (orcOr (orcR 6 k5) (orcOr (orcR 6 k7) (orcOr (orcH k16) noOrc)))))))))) 100000 k17=true:=by kernel_rfl
end Go.Proofs.YtemgclnkgieldaaGreatDoor.Mv
