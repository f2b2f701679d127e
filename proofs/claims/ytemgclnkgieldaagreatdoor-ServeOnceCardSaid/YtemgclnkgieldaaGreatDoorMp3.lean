/- The runs of known calls. -/
import Derived.Test.YtemgclnkgieldaaGreatDoorMp0
namespace Go.Proofs.YtemgclnkgieldaaGreatDoor.Mv
open Go Go.RowKit CX Md
theorem zyr (s:Nat→Value):runH (xo s noOrc) 100000 k40=true:=by kernel_rfl
theorem k40_ok (s:Nat→Value):OrcOk Tryz.prog ⟨6,s⟩ (orcH k40):=zb8 (zbq (zaq _ _)) (zyr s)
theorem zys (s:Nat→Value):runH (xo s noOrc) 100000 k41=true:=by kernel_rfl
theorem k41_ok (s:Nat→Value):OrcOk Tryz.prog ⟨6,s⟩ (orcH k41):=zb8 (zbq (zaq _ _)) (zys s)
end Go.Proofs.YtemgclnkgieldaaGreatDoor.Mv
