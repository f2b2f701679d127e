/- The runs of known calls. -/
import Derived.Test.YtildihjjocedmaaGreatDoorMp0
namespace Go.Proofs.YtildihjjocedmaaGreatDoor.Mv
open Go Go.RowKit CX Md
theorem zx9 (s:Nat→Value):runH (xo s noOrc) 100000 k40=true:=by kernel_rfl
theorem k40_ok (s:Nat→Value):OrcOk Tryz.prog ⟨6,s⟩ (orcH k40):=za2 (za9 (zag _ _)) (zx9 s)
theorem zya (s:Nat→Value):runH (xo s noOrc) 100000 k41=true:=by kernel_rfl
theorem k41_ok (s:Nat→Value):OrcOk Tryz.prog ⟨6,s⟩ (orcH k41):=za2 (za9 (zag _ _)) (zya s)
end Go.Proofs.YtildihjjocedmaaGreatDoor.Mv
