/- The runs of known calls. -/
import Derived.Test.YtecaggbepjoaiaaGreatDoorKb0
namespace Go.Proofs.YtecaggbepjoaiaaGreatDoor.Kw
open Go Go.RowKit CX
theorem zu3 (s:Nat→Value):runH (xo s noOrc) 100000 k9=true:=by kernel_rfl
theorem zyq (s:Nat→Value):OrcOk Tryz.prog ⟨6,s⟩ (orcH k9):=zat (zay (zaf _ _)) (zu3 s)
theorem zoo (s:Nat→Value):runH (xo s noOrc) 100000 k10=true:=by kernel_rfl
theorem zzo:okR 6 k10=true:=by kernel_rfl
theorem k10_ok (s:Nat→Value):OrcOk Tryz.prog ⟨6,s⟩ (orcR 6 k10):=zba (zay (zaf _ _)) rfl zzo (zoo s)
theorem zop (s:Nat→Value):runH (xo s noOrc) 100000 k11=true:=by kernel_rfl
theorem zzp:okR 6 k11=true:=by kernel_rfl
theorem zu4 (s:Nat→Value):OrcOk Tryz.prog ⟨6,s⟩ (orcR 6 k11):=zba (zay (zaf _ _)) rfl zzp (zop s)
end Go.Proofs.YtecaggbepjoaiaaGreatDoor.Kw
