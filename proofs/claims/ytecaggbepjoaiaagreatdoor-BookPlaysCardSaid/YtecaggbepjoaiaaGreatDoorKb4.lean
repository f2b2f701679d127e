/- The runs of known calls. -/
import Derived.Test.YtecaggbepjoaiaaGreatDoorKb3
namespace Go.Proofs.YtecaggbepjoaiaaGreatDoor.Kw
open Go Go.RowKit CX
theorem zor (s:Nat→Value):runH (xo s (orcOr (orcR 6 k0) (orcOr (orcR 6 k1) (orcOr (orcH k2) (orcOr (orcR 6 k3) (orcOr (orcH k4) (orcOr (orcR 6 k5) (orcOr (orcH k7) (orcOr (orcH k12) noOrc))))))))) 100000 k13=true:=by kernel_rfl
theorem zqd (s:Nat→Value):OrcOk Tryz.prog ⟨6,s⟩ (orcH k13):=zat (zay (zac (zir s) (zac (zdh s) (zac (zyo s) (zac (ziy s) (zac (zyp s) (zac (ziz s) (zac (zu0 s) (zac (zu5 s) (zaf _ _)))))))))) (zor s)
theorem zos (s:Nat→Value):runH (xo s (orcOr (orcR 6 k6) noOrc)) 100000 k14=true:=by kernel_rfl
theorem zot:okR 6 k14=true:=by kernel_rfl
theorem zm7 (s:Nat→Value):OrcOk Tryz.prog ⟨6,s⟩ (orcR 6 k14):=zba (zay (zac (zla s) (zaf _ _))) rfl zot (zos s)
theorem zou (s:Nat→Value):runH (xo s (orcOr (orcR 6 k14) noOrc)) 100000 k15=true:=by kernel_rfl
theorem zqe (s:Nat→Value):OrcOk Tryz.prog ⟨6,s⟩ (orcH k15):=zat (zay (zac (zm7 s) (zaf _ _))) (zou s)
theorem zov (s:Nat→Value):runH (xo s noOrc) 100000 k16=true:=by kernel_rfl
theorem zu6 (s:Nat→Value):OrcOk Tryz.prog ⟨6,s⟩ (orcH k16):=zat (zay (zaf _ _)) (zov s)
theorem zow (s:Nat→Value):runH (xo s noOrc) 100000 k17=true:=by kernel_rfl
theorem k17_ok (s:Nat→Value):OrcOk Tryz.prog ⟨6,s⟩ (orcH k17):=zat (zay (zaf _ _)) (zow s)
theorem zox (s:Nat→Value):runH (xo s (orcOr (orcR 6 k6) (orcOr (orcR 6 k1) noOrc))) 100000 k18=true:=by kernel_rfl
theorem zu7 (s:Nat→Value):OrcOk Tryz.prog ⟨6,s⟩ (orcH k18):=zat (zay (zac (zla s) (zac (zdh s) (zaf _ _)))) (zox s)
theorem zoy (s:Nat→Value):runH (xo s noOrc) 100000 k19=true:=by kernel_rfl
theorem zu8 (s:Nat→Value):OrcOk Tryz.prog ⟨6,s⟩ (orcH k19):=zat (zay (zaf _ _)) (zoy s)
theorem zoz (s:Nat→Value):runH (xo s (orcOr (orcR 6 k0) (orcOr (orcR 6 k1) (orcOr (orcH k16) (orcOr (orcR 6 k3) (orcOr (orcH k17) (orcOr (orcR 6 k5) (orcOr (orcH k18) (orcOr (orcH k19) noOrc))))))))) 100000 k20=true:=by kernel_rfl
theorem zu9 (s:Nat→Value):OrcOk Tryz.prog ⟨6,s⟩ (orcH k20):=zat (zay (zac (zir s) (zac (zdh s) (zac (zu6 s) (zac (ziy s) (zac (k17_ok s) (zac (ziz s) (zac (zu7 s) (zac (zu8 s) (zaf _ _)))))))))) (zoz s)
theorem zo0 (s:Nat→Value):runH (xo s (orcOr (orcR 6 k6) noOrc)) 100000 k21=true:=by kernel_rfl
theorem zo1:okR 6 k21=true:=by kernel_rfl
theorem zqf (s:Nat→Value):OrcOk Tryz.prog ⟨6,s⟩ (orcR 6 k21):=zba (zay (zac (zla s) (zaf _ _))) rfl zo1 (zo0 s)
theorem zo2 (s:Nat→Value):runH (xo s (orcOr (orcR 6 k21) noOrc)) 100000 k22=true:=by kernel_rfl
theorem zva (s:Nat→Value):OrcOk Tryz.prog ⟨6,s⟩ (orcH k22):=zat (zay (zac (zqf s) (zaf _ _))) (zo2 s)
end Go.Proofs.YtecaggbepjoaiaaGreatDoor.Kw
