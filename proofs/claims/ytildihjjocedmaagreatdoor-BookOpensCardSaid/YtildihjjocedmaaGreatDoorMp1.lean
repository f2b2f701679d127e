/- The runs of known calls. -/
import Derived.Test.YtildihjjocedmaaGreatDoorMp0
namespace Go.Proofs.YtildihjjocedmaaGreatDoor.Mv
open Go Go.RowKit CX Md
theorem k0_run (s:Nat→Value):runH (xo s noOrc) 100000 k0=true:=by kernel_rfl
theorem k0_okR:okR 6 k0=true:=by kernel_rfl
theorem zmi (s:Nat→Value):OrcOk Tryz.prog ⟨6,s⟩ (orcR 6 k0):=zb7 (za9 (zag _ _)) rfl k0_okR (k0_run s)
theorem k1_run (s:Nat→Value):runH (xo s noOrc) 100000 k1=true:=by kernel_rfl
theorem k1_okR:okR 6 k1=true:=by kernel_rfl
theorem zgb (s:Nat→Value):OrcOk Tryz.prog ⟨6,s⟩ (orcR 6 k1):=zb7 (za9 (zag _ _)) rfl k1_okR (k1_run s)
theorem k2_run (s:Nat→Value):runH (xo s noOrc) 100000 k2=true:=by kernel_rfl
theorem k2_ok (s:Nat→Value):OrcOk Tryz.prog ⟨6,s⟩ (orcH k2):=za2 (za9 (zag _ _)) (k2_run s)
theorem k3_run (s:Nat→Value):runH (xo s (orcOr (orcR 6 k1) noOrc)) 100000 k3=true:=by kernel_rfl
theorem k3_okR:okR 6 k3=true:=by kernel_rfl
theorem zn0 (s:Nat→Value):OrcOk Tryz.prog ⟨6,s⟩ (orcR 6 k3):=zb7 (za9 (zad (zgb _) (zag _ _))) rfl k3_okR (k3_run s)
theorem k4_run (s:Nat→Value):runH (xo s noOrc) 100000 k4=true:=by kernel_rfl
theorem k4_ok (s:Nat→Value):OrcOk Tryz.prog ⟨6,s⟩ (orcH k4):=za2 (za9 (zag _ _)) (k4_run s)
theorem k5_run (s:Nat→Value):runH (xo s (orcOr (orcR 6 k1) noOrc)) 100000 k5=true:=by kernel_rfl
theorem k5_okR:okR 6 k5=true:=by kernel_rfl
theorem zn1 (s:Nat→Value):OrcOk Tryz.prog ⟨6,s⟩ (orcR 6 k5):=zb7 (za9 (zad (zgb _) (zag _ _))) rfl k5_okR (k5_run s)
theorem k6_run (s:Nat→Value):runH (xo s noOrc) 100000 k6=true:=by kernel_rfl
theorem k6_okR:okR 6 k6=true:=by kernel_rfl
theorem zu4 (s:Nat→Value):OrcOk Tryz.prog ⟨6,s⟩ (orcR 6 k6):=zb7 (za9 (zag _ _)) rfl k6_okR (k6_run s)
theorem k7_run (s:Nat→Value):runH (xo s (orcOr (orcR 6 k6) (orcOr (orcR 6 k1) noOrc))) 100000 k7=true:=by kernel_rfl
theorem k7_okR:okR 6 k7=true:=by kernel_rfl
theorem zw7 (s:Nat→Value):OrcOk Tryz.prog ⟨6,s⟩ (orcR 6 k7):=zb7 (za9 (zad (zu4 _) (zad (zgb _) (zag _ _)))) rfl k7_okR (k7_run s)
theorem k8_run (s:Nat→Value):runH (xo s noOrc) 100000 k8=true:=by kernel_rfl
theorem k8_okR:okR 6 k8=true:=by kernel_rfl
theorem zu5 (s:Nat→Value):OrcOk Tryz.prog ⟨6,s⟩ (orcR 6 k8):=zb7 (za9 (zag _ _)) rfl k8_okR (k8_run s)
theorem k9_run (s:Nat→Value):runH (xo s (orcOr (orcR 6 k8) noOrc)) 100000 k9=true:=by kernel_rfl
theorem k9_ok (s:Nat→Value):OrcOk Tryz.prog ⟨6,s⟩ (orcH k9):=za2 (za9 (zad (zu5 _) (zag _ _))) (k9_run s)
theorem zw8 (s:Nat→Value):runH (xo s (orcOr (orcP 9 [.float .f64 0,.int .i64 8] (.int .i64 0)) (orcOr (orcR 6 k0) (orcOr (orcR 6 k1) (orcOr (orcH k2) (orcOr (orcR 6 k3) (orcOr (orcH k4) (orcOr (orcR 6 k5) (orcOr (orcR 6 k7) (orcOr (orcH k9) noOrc)))))))))) 100000 k10=true:=by kernel_rfl
theorem zw9 (s:Nat→Value):runH (xo s noOrc) 100000 k11=true:=by kernel_rfl
theorem k11_ok (s:Nat→Value):OrcOk Tryz.prog ⟨6,s⟩ (orcH k11):=za2 (za9 (zag _ _)) (zw9 s)
theorem zxa (s:Nat→Value):runH (xo s noOrc) 100000 k12=true:=by kernel_rfl
theorem k12_ok (s:Nat→Value):OrcOk Tryz.prog ⟨6,s⟩ (orcH k12):=za2 (za9 (zag _ _)) (zxa s)
theorem zxb (s:Nat→Value):runH (xo s noOrc) 100000 k13=true:=by kernel_rfl
theorem zxc:okR 6 k13=true:=by kernel_rfl
theorem zvn (s:Nat→Value):OrcOk Tryz.prog ⟨6,s⟩ (orcR 6 k13):=zb7 (za9 (zag _ _)) rfl zxc (zxb s)
theorem zxd (s:Nat→Value):runH (xo s noOrc) 100000 k14=true:=by kernel_rfl
theorem zxe:okR 6 k14=true:=by kernel_rfl
theorem zvo (s:Nat→Value):OrcOk Tryz.prog ⟨6,s⟩ (orcR 6 k14):=zb7 (za9 (zag _ _)) rfl zxe (zxd s)
theorem zxf (s:Nat→Value):runH (xo s noOrc) 100000 k15=true:=by kernel_rfl
theorem zxg:okR 6 k15=true:=by kernel_rfl
theorem zvp (s:Nat→Value):OrcOk Tryz.prog ⟨6,s⟩ (orcR 6 k15):=zb7 (za9 (zag _ _)) rfl zxg (zxf s)
theorem zxh (s:Nat→Value):runH (xo s (orcOr (orcR 6 k8) (orcOr (orcR 6 k13) (orcOr (orcR 6 k14) (orcOr (orcR 6 k15) noOrc))))) 100000 k16=true:=by kernel_rfl
theorem k16_ok (s:Nat→Value):OrcOk Tryz.prog ⟨6,s⟩ (orcH k16):=za2 (za9 (zad (zu5 _) (zad (zvn _) (zad (zvo _) (zad (zvp _) (zag _ _)))))) (zxh s)
theorem zxi (s:Nat→Value):runH (xo s (orcOr (orcP 9 [.float .f64 0,.int .i64 8] (.int .i64 1)) (orcOr (orcR 6 k0) (orcOr (orcR 6 k1) (orcOr (orcH k11) (orcOr (orcR 6 k3) (orcOr (orcH k12) (orcOr (orcR 6 k5) (orcOr (orcR 6 k7) (orcOr (orcH k16) noOrc)))))))))) 100000 k17=true:=by kernel_rfl
theorem zxj (s:Nat→Value):runH (xo s noOrc) 100000 k18=true:=by kernel_rfl
theorem k18_ok (s:Nat→Value):OrcOk Tryz.prog ⟨6,s⟩ (orcH k18):=za2 (za9 (zag _ _)) (zxj s)
theorem zxk (s:Nat→Value):runH (xo s noOrc) 100000 k19=true:=by kernel_rfl
theorem k19_ok (s:Nat→Value):OrcOk Tryz.prog ⟨6,s⟩ (orcH k19):=za2 (za9 (zag _ _)) (zxk s)
end Go.Proofs.YtildihjjocedmaaGreatDoor.Mv
