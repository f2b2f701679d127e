/- The runs of known calls. -/
import Derived.Test.YtecaggbepjoaiaaGreatDoorMp2
import Derived.Test.YtecaggbepjoaiaaGreatDoorMp3
namespace Go.Proofs.YtecaggbepjoaiaaGreatDoor.Mv
open Go Go.RowKit CX Md
theorem zzf (s:Nat→Value):runH (xo s (orcOr (orcH k38) (orcOr (orcH k39) (orcOr (orcH k40) (orcOr (orcH k41) noOrc))))) 100000 k42=true:=by kernel_rfl
theorem k42_ok (s:Nat→Value):OrcOk Tryz.prog ⟨6,s⟩ (orcH k42):=zat (zay (zac (k38_ok _) (zac (k39_ok _) (zac (k40_ok _) (zac (k41_ok _) (zaf _ _)))))) (zzf s)
theorem zzg (s:Nat→Value):runH (xo s (orcOr (orcP 12 [.float .f64 0,.int .i64 8] (.int .i64 5)) (orcOr (orcR 6 k0) (orcOr (orcR 6 k1) (orcOr (orcH k34) (orcOr (orcR 6 k3) (orcOr (orcH k35) (orcOr (orcR 6 k5) (orcOr (orcH k36) (orcOr (orcH k37) (orcOr (orcH k42) (orcOr (orcR 6 k8) noOrc)))))))))))) 100000 k43=true:=by kernel_rfl
theorem zzh (s:Nat→Value):runH (xo s noOrc) 100000 k44=true:=by kernel_rfl
theorem k44_ok (s:Nat→Value):OrcOk Tryz.prog ⟨6,s⟩ (orcH k44):=zat (zay (zaf _ _)) (zzh s)
theorem zzi (s:Nat→Value):runH (xo s noOrc) 100000 k45=true:=by kernel_rfl
theorem k45_ok (s:Nat→Value):OrcOk Tryz.prog ⟨6,s⟩ (orcH k45):=zat (zay (zaf _ _)) (zzi s)
theorem zzj (s:Nat→Value):runH (xo s (orcOr (orcR 6 k6) (orcOr (orcR 6 k1) noOrc))) 100000 k46=true:=by kernel_rfl
theorem k46_ok (s:Nat→Value):OrcOk Tryz.prog ⟨6,s⟩ (orcH k46):=zat (zay (zac (zla _) (zac (zdh _) (zaf _ _)))) (zzj s)
theorem zzk (s:Nat→Value):runH (xo s noOrc) 100000 k47=true:=by kernel_rfl
theorem k47_ok (s:Nat→Value):OrcOk Tryz.prog ⟨6,s⟩ (orcH k47):=zat (zay (zaf _ _)) (zzk s)
theorem zzl (s:Nat→Value):runH (xo s (orcOr (orcH k47) noOrc)) 100000 k48=true:=by kernel_rfl
theorem k48_ok (s:Nat→Value):OrcOk Tryz.prog ⟨6,s⟩ (orcH k48):=zat (zay (zac (k47_ok _) (zaf _ _))) (zzl s)
theorem zzm (s:Nat→Value):runH (xo s (orcOr (orcP 12 [.float .f64 0,.int .i64 8] (.int .i64 6)) (orcOr (orcR 6 k0) (orcOr (orcR 6 k1) (orcOr (orcH k44) (orcOr (orcR 6 k3) (orcOr (orcH k45) (orcOr (orcR 6 k5) (orcOr (orcH k46) (orcOr (orcH k48) noOrc)))))))))) 100000 k49=true:=by kernel_rfl
theorem zzn (s:Nat→Value):runH (xo s (orcOr (orcP 12 [.float .f64 0,.int .i64 8] (.int .i64 7)) (orcOr (orcR 6 k0) noOrc))) 100000 k50=true:=by kernel_rfl
end Go.Proofs.YtecaggbepjoaiaaGreatDoor.Mv
