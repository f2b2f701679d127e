/- The runs of known calls. -/
import Derived.Test.YtildihjjocedmaaGreatDoorMp1
namespace Go.Proofs.YtildihjjocedmaaGreatDoor.Mv
open Go Go.RowKit CX Md
theorem zxl (s:Nat→Value):runH (xo s noOrc) 100000 k20=true:=by kernel_rfl
theorem k20_ok (s:Nat→Value):OrcOk Tryz.prog ⟨6,s⟩ (orcH k20):=za2 (za9 (zag _ _)) (zxl s)
theorem zxm (s:Nat→Value):runH (xo s noOrc) 100000 k21=true:=by kernel_rfl
theorem zxn:okR 6 k21=true:=by kernel_rfl
theorem k21_ok (s:Nat→Value):OrcOk Tryz.prog ⟨6,s⟩ (orcR 6 k21):=zb7 (za9 (zag _ _)) rfl zxn (zxm s)
theorem zxo (s:Nat→Value):runH (xo s noOrc) 100000 k22=true:=by kernel_rfl
theorem zxp:okR 6 k22=true:=by kernel_rfl
theorem k22_ok (s:Nat→Value):OrcOk Tryz.prog ⟨6,s⟩ (orcR 6 k22):=zb7 (za9 (zag _ _)) rfl zxp (zxo s)
theorem zxq (s:Nat→Value):runH (xo s noOrc) 100000 k23=true:=by kernel_rfl
theorem k23_ok (s:Nat→Value):OrcOk Tryz.prog ⟨6,s⟩ (orcH k23):=za2 (za9 (zag _ _)) (zxq s)
theorem zxr (s:Nat→Value):runH (xo s (orcOr (orcR 6 k8) (orcOr (orcR 6 k13) (orcOr (orcR 6 k14) (orcOr (orcH k20) (orcOr (orcR 6 k21) (orcOr (orcR 6 k22) (orcOr (orcR 6 k15) (orcOr (orcH k23) noOrc))))))))) 100000 k24=true:=by kernel_rfl
theorem k24_ok (s:Nat→Value):OrcOk Tryz.prog ⟨6,s⟩ (orcH k24):=za2 (za9 (zad (zu5 _) (zad (zvn _) (zad (zvo _) (zad (k20_ok _) (zad (k21_ok _) (zad (k22_ok _) (zad (zvp _) (zad (k23_ok _) (zag _ _)))))))))) (zxr s)
theorem zxs (s:Nat→Value):runH (xo s (orcOr (orcP 9 [.float .f64 0,.int .i64 8] (.int .i64 2)) (orcOr (orcR 6 k0) (orcOr (orcR 6 k1) (orcOr (orcH k18) (orcOr (orcR 6 k3) (orcOr (orcH k19) (orcOr (orcR 6 k5) (orcOr (orcR 6 k7) (orcOr (orcH k24) noOrc)))))))))) 100000 k25=true:=by kernel_rfl
theorem zxt (s:Nat→Value):runH (xo s noOrc) 100000 k26=true:=by kernel_rfl
theorem k26_ok (s:Nat→Value):OrcOk Tryz.prog ⟨6,s⟩ (orcH k26):=za2 (za9 (zag _ _)) (zxt s)
theorem zxu (s:Nat→Value):runH (xo s noOrc) 100000 k27=true:=by kernel_rfl
theorem k27_ok (s:Nat→Value):OrcOk Tryz.prog ⟨6,s⟩ (orcH k27):=za2 (za9 (zag _ _)) (zxu s)
theorem zxv (s:Nat→Value):runH (xo s (orcOr (orcR 6 k6) (orcOr (orcR 6 k1) noOrc))) 100000 k28=true:=by kernel_rfl
theorem zxw:okR 6 k28=true:=by kernel_rfl
theorem zvq (s:Nat→Value):OrcOk Tryz.prog ⟨6,s⟩ (orcR 6 k28):=zb7 (za9 (zad (zu4 _) (zad (zgb _) (zag _ _)))) rfl zxw (zxv s)
theorem zxx (s:Nat→Value):runH (xo s noOrc) 100000 k29=true:=by kernel_rfl
theorem zxy:okR 6 k29=true:=by kernel_rfl
theorem zvr (s:Nat→Value):OrcOk Tryz.prog ⟨6,s⟩ (orcR 6 k29):=zb7 (za9 (zag _ _)) rfl zxy (zxx s)
theorem zxz (s:Nat→Value):runH (xo s (orcOr (orcP 9 [.float .f64 0,.int .i64 8] (.int .i64 3)) (orcOr (orcR 6 k0) (orcOr (orcR 6 k1) (orcOr (orcH k26) (orcOr (orcR 6 k3) (orcOr (orcH k27) (orcOr (orcR 6 k5) (orcOr (orcR 6 k28) (orcOr (orcR 6 k29) noOrc)))))))))) 100000 k30=true:=by kernel_rfl
theorem zx0 (s:Nat→Value):runH (xo s noOrc) 100000 k31=true:=by kernel_rfl
theorem k31_ok (s:Nat→Value):OrcOk Tryz.prog ⟨6,s⟩ (orcH k31):=za2 (za9 (zag _ _)) (zx0 s)
theorem zx1 (s:Nat→Value):runH (xo s noOrc) 100000 k32=true:=by kernel_rfl
theorem k32_ok (s:Nat→Value):OrcOk Tryz.prog ⟨6,s⟩ (orcH k32):=za2 (za9 (zag _ _)) (zx1 s)
theorem zx2 (s:Nat→Value):runH (xo s (orcOr (orcP 9 [.float .f64 0,.int .i64 8] (.int .i64 4)) (orcOr (orcR 6 k0) (orcOr (orcR 6 k1) (orcOr (orcH k31) (orcOr (orcR 6 k3) (orcOr (orcH k32) (orcOr (orcR 6 k5) (orcOr (orcR 6 k28) (orcOr (orcR 6 k29) noOrc)))))))))) 100000 k33=true:=by kernel_rfl
theorem zx3 (s:Nat→Value):runH (xo s noOrc) 100000 k34=true:=by kernel_rfl
theorem k34_ok (s:Nat→Value):OrcOk Tryz.prog ⟨6,s⟩ (orcH k34):=za2 (za9 (zag _ _)) (zx3 s)
theorem zx4 (s:Nat→Value):runH (xo s noOrc) 100000 k35=true:=by kernel_rfl
theorem k35_ok (s:Nat→Value):OrcOk Tryz.prog ⟨6,s⟩ (orcH k35):=za2 (za9 (zag _ _)) (zx4 s)
theorem zx5 (s:Nat→Value):runH (xo s (orcOr (orcR 6 k6) (orcOr (orcR 6 k1) noOrc))) 100000 k36=true:=by kernel_rfl
theorem k36_ok (s:Nat→Value):OrcOk Tryz.prog ⟨6,s⟩ (orcH k36):=za2 (za9 (zad (zu4 _) (zad (zgb _) (zag _ _)))) (zx5 s)
theorem zx6 (s:Nat→Value):runH (xo s noOrc) 100000 k37=true:=by kernel_rfl
theorem k37_ok (s:Nat→Value):OrcOk Tryz.prog ⟨6,s⟩ (orcH k37):=za2 (za9 (zag _ _)) (zx6 s)
theorem zx7 (s:Nat→Value):runH (xo s noOrc) 100000 k38=true:=by kernel_rfl
theorem k38_ok (s:Nat→Value):OrcOk Tryz.prog ⟨6,s⟩ (orcH k38):=za2 (za9 (zag _ _)) (zx7 s)
theorem zx8 (s:Nat→Value):runH (xo s noOrc) 100000 k39=true:=by kernel_rfl
theorem k39_ok (s:Nat→Value):OrcOk Tryz.prog ⟨6,s⟩ (orcH k39):=za2 (za9 (zag _ _)) (zx8 s)
end Go.Proofs.YtildihjjocedmaaGreatDoor.Mv
