/- The runs of known calls. -/
import Derived.Test.YtecaggbepjoaiaaGreatDoorMp0
namespace Go.Proofs.YtecaggbepjoaiaaGreatDoor.Mv
open Go Go.RowKit CX Md
theorem zun (s:Nat→Value):runH (xo s noOrc) 100000 k0=true:=by kernel_rfl
theorem zuo:okR 6 k0=true:=by kernel_rfl
theorem zir (s:Nat→Value):OrcOk Tryz.prog ⟨6,s⟩ (orcR 6 k0):=zba (zay (zaf _ _)) rfl zuo (zun s)
theorem zup (s:Nat→Value):runH (xo s noOrc) 100000 k1=true:=by kernel_rfl
theorem zuq:okR 6 k1=true:=by kernel_rfl
theorem zdh (s:Nat→Value):OrcOk Tryz.prog ⟨6,s⟩ (orcR 6 k1):=zba (zay (zaf _ _)) rfl zuq (zup s)
theorem zur (s:Nat→Value):runH (xo s noOrc) 100000 k2=true:=by kernel_rfl
theorem zyo (s:Nat→Value):OrcOk Tryz.prog ⟨6,s⟩ (orcH k2):=zat (zay (zaf _ _)) (zur s)
theorem zus (s:Nat→Value):runH (xo s (orcOr (orcR 6 k1) noOrc)) 100000 k3=true:=by kernel_rfl
theorem zut:okR 6 k3=true:=by kernel_rfl
theorem ziy (s:Nat→Value):OrcOk Tryz.prog ⟨6,s⟩ (orcR 6 k3):=zba (zay (zac (zdh _) (zaf _ _))) rfl zut (zus s)
theorem zuu (s:Nat→Value):runH (xo s noOrc) 100000 k4=true:=by kernel_rfl
theorem zyp (s:Nat→Value):OrcOk Tryz.prog ⟨6,s⟩ (orcH k4):=zat (zay (zaf _ _)) (zuu s)
theorem zuv (s:Nat→Value):runH (xo s (orcOr (orcR 6 k1) noOrc)) 100000 k5=true:=by kernel_rfl
theorem zuw:okR 6 k5=true:=by kernel_rfl
theorem ziz (s:Nat→Value):OrcOk Tryz.prog ⟨6,s⟩ (orcR 6 k5):=zba (zay (zac (zdh _) (zaf _ _))) rfl zuw (zuv s)
theorem zux (s:Nat→Value):runH (xo s noOrc) 100000 k6=true:=by kernel_rfl
theorem zuy:okR 6 k6=true:=by kernel_rfl
theorem zla (s:Nat→Value):OrcOk Tryz.prog ⟨6,s⟩ (orcR 6 k6):=zba (zay (zaf _ _)) rfl zuy (zux s)
theorem zuz (s:Nat→Value):runH (xo s (orcOr (orcR 6 k6) (orcOr (orcR 6 k1) noOrc))) 100000 k7=true:=by kernel_rfl
theorem k7_okR:okR 6 k7=true:=by kernel_rfl
theorem zu0 (s:Nat→Value):OrcOk Tryz.prog ⟨6,s⟩ (orcR 6 k7):=zba (zay (zac (zla _) (zac (zdh _) (zaf _ _)))) rfl k7_okR (zuz s)
theorem zu1 (s:Nat→Value):runH (xo s noOrc) 100000 k8=true:=by kernel_rfl
theorem zu2:okR 6 k8=true:=by kernel_rfl
theorem zri (s:Nat→Value):OrcOk Tryz.prog ⟨6,s⟩ (orcR 6 k8):=zba (zay (zaf _ _)) rfl zu2 (zu1 s)
theorem zu3 (s:Nat→Value):runH (xo s (orcOr (orcR 6 k8) noOrc)) 100000 k9=true:=by kernel_rfl
theorem zyq (s:Nat→Value):OrcOk Tryz.prog ⟨6,s⟩ (orcH k9):=zat (zay (zac (zri _) (zaf _ _))) (zu3 s)
theorem zoo (s:Nat→Value):runH (xo s (orcOr (orcP 12 [.float .f64 0,.int .i64 8] (.int .i64 0)) (orcOr (orcR 6 k0) (orcOr (orcR 6 k1) (orcOr (orcH k2) (orcOr (orcR 6 k3) (orcOr (orcH k4) (orcOr (orcR 6 k5) (orcOr (orcR 6 k7) (orcOr (orcH k9) noOrc)))))))))) 100000 k10=true:=by kernel_rfl
theorem zop (s:Nat→Value):runH (xo s noOrc) 100000 k11=true:=by kernel_rfl
theorem zu4 (s:Nat→Value):OrcOk Tryz.prog ⟨6,s⟩ (orcH k11):=zat (zay (zaf _ _)) (zop s)
theorem zoq (s:Nat→Value):runH (xo s noOrc) 100000 k12=true:=by kernel_rfl
theorem zu5 (s:Nat→Value):OrcOk Tryz.prog ⟨6,s⟩ (orcH k12):=zat (zay (zaf _ _)) (zoq s)
theorem zor (s:Nat→Value):runH (xo s noOrc) 100000 k13=true:=by kernel_rfl
theorem zyr:okR 6 k13=true:=by kernel_rfl
theorem zqd (s:Nat→Value):OrcOk Tryz.prog ⟨6,s⟩ (orcR 6 k13):=zba (zay (zaf _ _)) rfl zyr (zor s)
theorem zos (s:Nat→Value):runH (xo s noOrc) 100000 k14=true:=by kernel_rfl
theorem zot:okR 6 k14=true:=by kernel_rfl
theorem zm7 (s:Nat→Value):OrcOk Tryz.prog ⟨6,s⟩ (orcR 6 k14):=zba (zay (zaf _ _)) rfl zot (zos s)
theorem zou (s:Nat→Value):runH (xo s noOrc) 100000 k15=true:=by kernel_rfl
theorem zys:okR 6 k15=true:=by kernel_rfl
theorem zqe (s:Nat→Value):OrcOk Tryz.prog ⟨6,s⟩ (orcR 6 k15):=zba (zay (zaf _ _)) rfl zys (zou s)
theorem zov (s:Nat→Value):runH (xo s (orcOr (orcR 6 k8) (orcOr (orcR 6 k13) (orcOr (orcR 6 k14) (orcOr (orcR 6 k15) noOrc))))) 100000 k16=true:=by kernel_rfl
theorem zu6 (s:Nat→Value):OrcOk Tryz.prog ⟨6,s⟩ (orcH k16):=zat (zay (zac (zri _) (zac (zqd _) (zac (zm7 _) (zac (zqe _) (zaf _ _)))))) (zov s)
theorem zow (s:Nat→Value):runH (xo s (orcOr (orcP 12 [.float .f64 0,.int .i64 8] (.int .i64 1)) (orcOr (orcR 6 k0) (orcOr (orcR 6 k1) (orcOr (orcH k11) (orcOr (orcR 6 k3) (orcOr (orcH k12) (orcOr (orcR 6 k5) (orcOr (orcR 6 k7) (orcOr (orcH k16) noOrc)))))))))) 100000 k17=true:=by kernel_rfl
theorem zox (s:Nat→Value):runH (xo s noOrc) 100000 k18=true:=by kernel_rfl
theorem zu7 (s:Nat→Value):OrcOk Tryz.prog ⟨6,s⟩ (orcH k18):=zat (zay (zaf _ _)) (zox s)
theorem zoy (s:Nat→Value):runH (xo s noOrc) 100000 k19=true:=by kernel_rfl
theorem zu8 (s:Nat→Value):OrcOk Tryz.prog ⟨6,s⟩ (orcH k19):=zat (zay (zaf _ _)) (zoy s)
end Go.Proofs.YtecaggbepjoaiaaGreatDoor.Mv
