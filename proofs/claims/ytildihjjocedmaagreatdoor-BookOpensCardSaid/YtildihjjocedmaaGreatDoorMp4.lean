/- The runs of known calls. -/
import Derived.Test.YtildihjjocedmaaGreatDoorMp2
import Derived.Test.YtildihjjocedmaaGreatDoorMp3
namespace Go.Proofs.YtildihjjocedmaaGreatDoor.Mv
open Go Go.RowKit CX Md
theorem zyb (s:Nat→Value):runH (xo s (orcOr (orcH k38) (orcOr (orcH k39) (orcOr (orcH k40) (orcOr (orcH k41) noOrc))))) 100000 k42=true:=by kernel_rfl
theorem k42_ok (s:Nat→Value):OrcOk Tryz.prog ⟨6,s⟩ (orcH k42):=za2 (za9 (zad (k38_ok _) (zad (k39_ok _) (zad (k40_ok _) (zad (k41_ok _) (zag _ _)))))) (zyb s)
theorem zyc (s:Nat→Value):runH (xo s (orcOr (orcP 9 [.float .f64 0,.int .i64 8] (.int .i64 5)) (orcOr (orcR 6 k0) (orcOr (orcR 6 k1) (orcOr (orcH k34) (orcOr (orcR 6 k3) (orcOr (orcH k35) (orcOr (orcR 6 k5) (orcOr (orcH k36) (orcOr (orcH k37) (orcOr (orcH k42) (orcOr (orcR 6 k8) noOrc)))))))))))) 100000 k43=true:=by kernel_rfl
theorem zyd (s:Nat→Value):runH (xo s noOrc) 100000 k44=true:=by kernel_rfl
theorem k44_ok (s:Nat→Value):OrcOk Tryz.prog ⟨6,s⟩ (orcH k44):=za2 (za9 (zag _ _)) (zyd s)
theorem zye (s:Nat→Value):runH (xo s noOrc) 100000 k45=true:=by kernel_rfl
theorem k45_ok (s:Nat→Value):OrcOk Tryz.prog ⟨6,s⟩ (orcH k45):=za2 (za9 (zag _ _)) (zye s)
theorem zyf (s:Nat→Value):runH (xo s (orcOr (orcR 6 k6) (orcOr (orcR 6 k1) noOrc))) 100000 k46=true:=by kernel_rfl
theorem k46_ok (s:Nat→Value):OrcOk Tryz.prog ⟨6,s⟩ (orcH k46):=za2 (za9 (zad (zu4 _) (zad (zgb _) (zag _ _)))) (zyf s)
theorem zyg (s:Nat→Value):runH (xo s noOrc) 100000 k47=true:=by kernel_rfl
theorem k47_ok (s:Nat→Value):OrcOk Tryz.prog ⟨6,s⟩ (orcH k47):=za2 (za9 (zag _ _)) (zyg s)
theorem zyh (s:Nat→Value):runH (xo s (orcOr (orcH k47) noOrc)) 100000 k48=true:=by kernel_rfl
theorem k48_ok (s:Nat→Value):OrcOk Tryz.prog ⟨6,s⟩ (orcH k48):=za2 (za9 (zad (k47_ok _) (zag _ _))) (zyh s)
theorem zyi (s:Nat→Value):runH (xo s (orcOr (orcP 9 [.float .f64 0,.int .i64 8] (.int .i64 6)) (orcOr (orcR 6 k0) (orcOr (orcR 6 k1) (orcOr (orcH k44) (orcOr (orcR 6 k3) (orcOr (orcH k45) (orcOr (orcR 6 k5) (orcOr (orcH k46) (orcOr (orcH k48) noOrc)))))))))) 100000 k49=true:=by kernel_rfl
theorem zyj (s:Nat→Value):runH (xo s (orcOr (orcP 9 [.float .f64 0,.int .i64 8] (.int .i64 7)) (orcOr (orcR 6 k0) noOrc))) 100000 k50=true:=by kernel_rfl
end Go.Proofs.YtildihjjocedmaaGreatDoor.Mv
