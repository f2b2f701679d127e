/- The runs of known calls. -/
import Derived.Test.YtmejdkniafjncaaGreatDoorMp0
namespace Go.Proofs.YtmejdkniafjncaaGreatDoor.Mv
open Go Go.RowKit CX Md
theorem zyu (s:Nat→Value):runH (xo s noOrc) 100000 k40=true:=by kernel_rfl
theorem k40_ok (s:Nat→Value):OrcOk Tryz.prog ⟨6,s⟩ (orcH k40):=za1 (za9 (zah _ _)) (zyu s)
theorem zyv (s:Nat→Value):runH (xo s noOrc) 100000 k41=true:=by kernel_rfl
theorem k41_ok (s:Nat→Value):OrcOk Tryz.prog ⟨6,s⟩ (orcH k41):=za1 (za9 (zah _ _)) (zyv s)
end Go.Proofs.YtmejdkniafjncaaGreatDoor.Mv
