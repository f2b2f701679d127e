/- The runs of known calls. -/
import Derived.Test.YtemgclnkgieldaaGreatDoorMp1
namespace Go.Proofs.YtemgclnkgieldaaGreatDoor.Mv
open Go Go.RowKit CX Md
theorem zye (s:Nat→Value):runH (xo s noOrc) 100000 k26=true:=by kernel_rfl
theorem k26_ok (s:Nat→Value):OrcOk Tryz.prog ⟨6,s⟩ (orcH k26):=zb8 (zbq (zaq _ _)) (zye s)
theorem zyf (s:Nat→Value):runH (xo s noOrc) 100000 k27=true:=by kernel_rfl
theorem k27_ok (s:Nat→Value):OrcOk Tryz.prog ⟨6,s⟩ (orcH k27):=zb8 (zbq (zaq _ _)) (zyf s)
theorem zyg (s:Nat→Value):runH (xo s (orcOr (orcR 6 k6) (orcOr (orcR 6 k1) noOrc))) 100000 k28=true:=by kernel_rfl
theorem zyh:okR 6 k28=true:=by kernel_rfl
theorem k28_ok (s:Nat→Value):OrcOk Tryz.prog ⟨6,s⟩ (orcR 6 k28):=zbo (zbq (zaf (zx3 _) (zaf (zlu _) (zaq _ _)))) rfl zyh (zyg s)
theorem zyi (s:Nat→Value):runH (xo s noOrc) 100000 k29=true:=by kernel_rfl
theorem zyj:okR 6 k29=true:=by kernel_rfl
theorem k29_ok (s:Nat→Value):OrcOk Tryz.prog ⟨6,s⟩ (orcR 6 k29):=zbo (zbq (zaq _ _)) rfl zyj (zyi s)
theorem zyk (s:Nat→Value):runH (xo s (orcOr (orcP 4 [.float .f64 0,.int .i64 8] (.int .i64 3)) (orcOr (orcR 6 k0) (orcOr (orcR 6 k1) (orcOr (orcH k26) (orcOr (orcR 6 k3) (orcOr (orcH k27) (orcOr (orcR 6 k5) (orcOr (orcR 6 k28) (orcOr (orcR 6 k29) noOrc)))))))))) 100000 k30=true:=by kernel_rfl
theorem zyl (s:Nat→Value):runH (xo s noOrc) 100000 k34=true:=by kernel_rfl
theorem k34_ok (s:Nat→Value):OrcOk Tryz.prog ⟨6,s⟩ (orcH k34):=zb8 (zbq (zaq _ _)) (zyl s)
theorem zym (s:Nat→Value):runH (xo s noOrc) 100000 k35=true:=by kernel_rfl
theorem k35_ok (s:Nat→Value):OrcOk Tryz.prog ⟨6,s⟩ (orcH k35):=zb8 (zbq (zaq _ _)) (zym s)
theorem zyn (s:Nat→Value):runH (xo s (orcOr (orcR 6 k6) (orcOr (orcR 6 k1) noOrc))) 100000 k36=true:=by kernel_rfl
theorem k36_ok (s:Nat→Value):OrcOk Tryz.prog ⟨6,s⟩ (orcH k36):=zb8 (zbq (zaf (zx3 _) (zaf (zlu _) (zaq _ _)))) (zyn s)
theorem zyo (s:Nat→Value):runH (xo s noOrc) 100000 k37=true:=by kernel_rfl
theorem k37_ok (s:Nat→Value):OrcOk Tryz.prog ⟨6,s⟩ (orcH k37):=zb8 (zbq (zaq _ _)) (zyo s)
theorem zyp (s:Nat→Value):runH (xo s noOrc) 100000 k38=true:=by kernel_rfl
theorem k38_ok (s:Nat→Value):OrcOk Tryz.prog ⟨6,s⟩ (orcH k38):=zb8 (zbq (zaq _ _)) (zyp s)
theorem zyq (s:Nat→Value):runH (xo s noOrc) 100000 k39=true:=by kernel_rfl
theorem k39_ok (s:Nat→Value):OrcOk Tryz.prog ⟨6,s⟩ (orcH k39):=zb8 (zbq (zaq _ _)) (zyq s)
end Go.Proofs.YtemgclnkgieldaaGreatDoor.Mv
