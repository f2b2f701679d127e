/- The runs of known calls. -/
import Derived.Test.YtecaggbepjoaiaaGreatDoorMp0
namespace Go.Proofs.YtecaggbepjoaiaaGreatDoor.Mv
open Go Go.RowKit CX Md
theorem zzd (s:Nat→Value):runH (xo s noOrc) 100000 k40=true:=by kernel_rfl
theorem k40_ok (s:Nat→Value):OrcOk Tryz.prog ⟨6,s⟩ (orcH k40):=zat (zay (zaf _ _)) (zzd s)
theorem zze (s:Nat→Value):runH (xo s noOrc) 100000 k41=true:=by kernel_rfl
theorem k41_ok (s:Nat→Value):OrcOk Tryz.prog ⟨6,s⟩ (orcH k41):=zat (zay (zaf _ _)) (zze s)
end Go.Proofs.YtecaggbepjoaiaaGreatDoor.Mv
