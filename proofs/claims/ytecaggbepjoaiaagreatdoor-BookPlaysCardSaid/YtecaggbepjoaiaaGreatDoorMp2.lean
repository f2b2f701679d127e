/- The runs of known calls. -/
import Derived.Test.YtecaggbepjoaiaaGreatDoorMp1
namespace Go.Proofs.YtecaggbepjoaiaaGreatDoor.Mv
open Go Go.RowKit CX Md
theorem zoz (s:Nat→Value):runH (xo s noOrc) 100000 k20=true:=by kernel_rfl
theorem zu9 (s:Nat→Value):OrcOk Tryz.prog ⟨6,s⟩ (orcH k20):=zat (zay (zaf _ _)) (zoz s)
theorem zo0 (s:Nat→Value):runH (xo s noOrc) 100000 k21=true:=by kernel_rfl
theorem zo1:okR 6 k21=true:=by kernel_rfl
theorem zqf (s:Nat→Value):OrcOk Tryz.prog ⟨6,s⟩ (orcR 6 k21):=zba (zay (zaf _ _)) rfl zo1 (zo0 s)
theorem zo2 (s:Nat→Value):runH (xo s noOrc) 100000 k22=true:=by kernel_rfl
theorem zyt:okR 6 k22=true:=by kernel_rfl
theorem zva (s:Nat→Value):OrcOk Tryz.prog ⟨6,s⟩ (orcR 6 k22):=zba (zay (zaf _ _)) rfl zyt (zo2 s)
theorem zyu (s:Nat→Value):runH (xo s noOrc) 100000 k23=true:=by kernel_rfl
theorem k23_ok (s:Nat→Value):OrcOk Tryz.prog ⟨6,s⟩ (orcH k23):=zat (zay (zaf _ _)) (zyu s)
theorem zyv (s:Nat→Value):runH (xo s (orcOr (orcR 6 k8) (orcOr (orcR 6 k13) (orcOr (orcR 6 k14) (orcOr (orcH k20) (orcOr (orcR 6 k21) (orcOr (orcR 6 k22) (orcOr (orcR 6 k15) (orcOr (orcH k23) noOrc))))))))) 100000 k24=true:=by kernel_rfl
theorem k24_ok (s:Nat→Value):OrcOk Tryz.prog ⟨6,s⟩ (orcH k24):=zat (zay (zac (zri _) (zac (zqd _) (zac (zm7 _) (zac (zu9 _) (zac (zqf _) (zac (zva _) (zac (zqe _) (zac (k23_ok _) (zaf _ _)))))))))) (zyv s)
theorem zyw (s:Nat→Value):runH (xo s (orcOr (orcP 12 [.float .f64 0,.int .i64 8] (.int .i64 2)) (orcOr (orcR 6 k0) (orcOr (orcR 6 k1) (orcOr (orcH k18) (orcOr (orcR 6 k3) (orcOr (orcH k19) (orcOr (orcR 6 k5) (orcOr (orcR 6 k7) (orcOr (orcH k24) noOrc)))))))))) 100000 k25=true:=by kernel_rfl
theorem zyx (s:Nat→Value):runH (xo s noOrc) 100000 k26=true:=by kernel_rfl
theorem k26_ok (s:Nat→Value):OrcOk Tryz.prog ⟨6,s⟩ (orcH k26):=zat (zay (zaf _ _)) (zyx s)
theorem zyy (s:Nat→Value):runH (xo s noOrc) 100000 k27=true:=by kernel_rfl
theorem k27_ok (s:Nat→Value):OrcOk Tryz.prog ⟨6,s⟩ (orcH k27):=zat (zay (zaf _ _)) (zyy s)
theorem zyz (s:Nat→Value):runH (xo s (orcOr (orcR 6 k6) (orcOr (orcR 6 k1) noOrc))) 100000 k28=true:=by kernel_rfl
theorem zy0:okR 6 k28=true:=by kernel_rfl
theorem zw6 (s:Nat→Value):OrcOk Tryz.prog ⟨6,s⟩ (orcR 6 k28):=zba (zay (zac (zla _) (zac (zdh _) (zaf _ _)))) rfl zy0 (zyz s)
theorem zy1 (s:Nat→Value):runH (xo s noOrc) 100000 k29=true:=by kernel_rfl
theorem zy2:okR 6 k29=true:=by kernel_rfl
theorem zw7 (s:Nat→Value):OrcOk Tryz.prog ⟨6,s⟩ (orcR 6 k29):=zba (zay (zaf _ _)) rfl zy2 (zy1 s)
theorem zy3 (s:Nat→Value):runH (xo s (orcOr (orcP 12 [.float .f64 0,.int .i64 8] (.int .i64 3)) (orcOr (orcR 6 k0) (orcOr (orcR 6 k1) (orcOr (orcH k26) (orcOr (orcR 6 k3) (orcOr (orcH k27) (orcOr (orcR 6 k5) (orcOr (orcR 6 k28) (orcOr (orcR 6 k29) noOrc)))))))))) 100000 k30=true:=by kernel_rfl
theorem zy4 (s:Nat→Value):runH (xo s noOrc) 100000 k31=true:=by kernel_rfl
theorem k31_ok (s:Nat→Value):OrcOk Tryz.prog ⟨6,s⟩ (orcH k31):=zat (zay (zaf _ _)) (zy4 s)
theorem zy5 (s:Nat→Value):runH (xo s noOrc) 100000 k32=true:=by kernel_rfl
theorem k32_ok (s:Nat→Value):OrcOk Tryz.prog ⟨6,s⟩ (orcH k32):=zat (zay (zaf _ _)) (zy5 s)
theorem zy6 (s:Nat→Value):runH (xo s (orcOr (orcP 12 [.float .f64 0,.int .i64 8] (.int .i64 4)) (orcOr (orcR 6 k0) (orcOr (orcR 6 k1) (orcOr (orcH k31) (orcOr (orcR 6 k3) (orcOr (orcH k32) (orcOr (orcR 6 k5) (orcOr (orcR 6 k28) (orcOr (orcR 6 k29) noOrc)))))))))) 100000 k33=true:=by kernel_rfl
theorem zy7 (s:Nat→Value):runH (xo s noOrc) 100000 k34=true:=by kernel_rfl
theorem k34_ok (s:Nat→Value):OrcOk Tryz.prog ⟨6,s⟩ (orcH k34):=zat (zay (zaf _ _)) (zy7 s)
theorem zy8 (s:Nat→Value):runH (xo s noOrc) 100000 k35=true:=by kernel_rfl
theorem k35_ok (s:Nat→Value):OrcOk Tryz.prog ⟨6,s⟩ (orcH k35):=zat (zay (zaf _ _)) (zy8 s)
theorem zy9 (s:Nat→Value):runH (xo s (orcOr (orcR 6 k6) (orcOr (orcR 6 k1) noOrc))) 100000 k36=true:=by kernel_rfl
theorem k36_ok (s:Nat→Value):OrcOk Tryz.prog ⟨6,s⟩ (orcH k36):=zat (zay (zac (zla _) (zac (zdh _) (zaf _ _)))) (zy9 s)
theorem zza (s:Nat→Value):runH (xo s noOrc) 100000 k37=true:=by kernel_rfl
theorem k37_ok (s:Nat→Value):OrcOk Tryz.prog ⟨6,s⟩ (orcH k37):=zat (zay (zaf _ _)) (zza s)
theorem zzb (s:Nat→Value):runH (xo s noOrc) 100000 k38=true:=by kernel_rfl
theorem k38_ok (s:Nat→Value):OrcOk Tryz.prog ⟨6,s⟩ (orcH k38):=zat (zay (zaf _ _)) (zzb s)
theorem zzc (s:Nat→Value):runH (xo s noOrc) 100000 k39=true:=by kernel_rfl
theorem k39_ok (s:Nat→Value):OrcOk Tryz.prog ⟨6,s⟩ (orcH k39):=zat (zay (zaf _ _)) (zzc s)
end Go.Proofs.YtecaggbepjoaiaaGreatDoor.Mv
