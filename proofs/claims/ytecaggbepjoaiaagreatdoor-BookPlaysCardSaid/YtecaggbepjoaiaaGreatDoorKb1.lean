/- The runs of known calls. -/
import Derived.Test.YtecaggbepjoaiaaGreatDoorKb0
namespace Go.Proofs.YtecaggbepjoaiaaGreatDoor.Kw
open Go Go.RowKit CX
theorem zun (s:Nat→Value):runH (xo s noOrc) 100000 k0=true:=by kernel_rfl
theorem zuo:okR 6 k0=true:=by kernel_rfl
theorem zir (s:Nat→Value):OrcOk Tryz.prog ⟨6,s⟩ (orcR 6 k0):=zba (zay (zaf _ _)) rfl zuo (zun s)
theorem zup (s:Nat→Value):runH (xo s noOrc) 100000 k1=true:=by kernel_rfl
theorem zuq:okR 6 k1=true:=by kernel_rfl
theorem zdh (s:Nat→Value):OrcOk Tryz.prog ⟨6,s⟩ (orcR 6 k1):=zba (zay (zaf _ _)) rfl zuq (zup s)
theorem zur (s:Nat→Value):runH (xo s noOrc) 100000 k2=true:=by kernel_rfl
theorem zyo (s:Nat→Value):OrcOk Tryz.prog ⟨6,s⟩ (orcH k2):=zat (zay (zaf _ _)) (zur s)
theorem zus (s:Nat→Value):runH (xo s (orcOr (orcR 6 k1) noOrc)) 100000 k3=true:=by kernel_rfl
theorem zut:okR 6 k3=true:=by kernel_rfl
theorem ziy (s:Nat→Value):OrcOk Tryz.prog ⟨6,s⟩ (orcR 6 k3):=zba (zay (zac (zdh s) (zaf _ _))) rfl zut (zus s)
theorem zuu (s:Nat→Value):runH (xo s noOrc) 100000 k4=true:=by kernel_rfl
theorem zyp (s:Nat→Value):OrcOk Tryz.prog ⟨6,s⟩ (orcH k4):=zat (zay (zaf _ _)) (zuu s)
theorem zuv (s:Nat→Value):runH (xo s (orcOr (orcR 6 k1) noOrc)) 100000 k5=true:=by kernel_rfl
theorem zuw:okR 6 k5=true:=by kernel_rfl
theorem ziz (s:Nat→Value):OrcOk Tryz.prog ⟨6,s⟩ (orcR 6 k5):=zba (zay (zac (zdh s) (zaf _ _))) rfl zuw (zuv s)
theorem zux (s:Nat→Value):runH (xo s noOrc) 100000 k6=true:=by kernel_rfl
theorem zuy:okR 6 k6=true:=by kernel_rfl
theorem zla (s:Nat→Value):OrcOk Tryz.prog ⟨6,s⟩ (orcR 6 k6):=zba (zay (zaf _ _)) rfl zuy (zux s)
theorem zuz (s:Nat→Value):runH (xo s (orcOr (orcR 6 k6) (orcOr (orcR 6 k1) noOrc))) 100000 k7=true:=by kernel_rfl
theorem zu0 (s:Nat→Value):OrcOk Tryz.prog ⟨6,s⟩ (orcH k7):=zat (zay (zac (zla s) (zac (zdh s) (zaf _ _)))) (zuz s)
theorem zu1 (s:Nat→Value):runH (xo s noOrc) 100000 k8=true:=by kernel_rfl
theorem zu2:okR 6 k8=true:=by kernel_rfl
theorem zri (s:Nat→Value):OrcOk Tryz.prog ⟨6,s⟩ (orcR 6 k8):=zba (zay (zaf _ _)) rfl zu2 (zu1 s)
end Go.Proofs.YtecaggbepjoaiaaGreatDoor.Kw
