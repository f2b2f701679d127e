/- The runs of known calls. -/
import Derived.Test.YtemgclnkgieldaaGreatDoorMp2
import Derived.Test.YtemgclnkgieldaaGreatDoorMp3
namespace Go.Proofs.YtemgclnkgieldaaGreatDoor.Mv
open Go Go.RowKit CX Md
theorem zyt (s:Nat→Value):runH (xo s (orcOr (orcH k38) (orcOr (orcH k39) (orcOr (orcH k40) (orcOr (orcH k41) noOrc))))) 100000 k42=true:=by kernel_rfl
theorem k42_ok (s:Nat→Value):OrcOk Tryz.prog ⟨6,s⟩ (orcH k42):=zb8 (zbq (zaf (k38_ok _) (zaf (k39_ok _) (zaf (k40_ok _) (zaf (k41_ok _) (zaq _ _)))))) (zyt s)
theorem zyu (s:Nat→Value):runH (xo s (orcOr (orcP 4 [.float .f64 0,.int .i64 8] (.int .i64 5)) (orcOr (orcR 6 k0) (orcOr (orcR 6 k1) (orcOr (orcH k34) (orcOr (orcR 6 k3) (orcOr (orcH k35) (orcOr (orcR 6 k5) (orcOr (orcH k36) (orcOr (orcH k37) (orcOr (orcH k42) (orcOr (orcR 6 k8) noOrc)))))))))))) 100000 k43=true:=by kernel_rfl
end Go.Proofs.YtemgclnkgieldaaGreatDoor.Mv
