/- The runs of known calls. -/
import Derived.Test.YtmejdkniafjncaaGreatDoorMp2
import Derived.Test.YtmejdkniafjncaaGreatDoorMp3
namespace Go.Proofs.YtmejdkniafjncaaGreatDoor.Mv
open Go Go.RowKit CX Md
theorem zyw (s:Nat→Value):runH (xo s (orcOr (orcH k38) (orcOr (orcH k39) (orcOr (orcH k40) (orcOr (orcH k41) noOrc))))) 100000 k42=true:=by kernel_rfl
theorem k42_ok (s:Nat→Value):OrcOk Tryz.prog ⟨6,s⟩ (orcH k42):=za1 (za9 (zad (k38_ok _) (zad (k39_ok _) (zad (k40_ok _) (zad (k41_ok _) (zah _ _)))))) (zyw s)
theorem zyx (s:Nat→Value):runH (xo s (orcOr (orcP 6 [.float .f64 0,.int .i64 8] (.int .i64 5)) (orcOr (orcR 6 k0) (orcOr (orcR 6 k1) (orcOr (orcH k34) (orcOr (orcR 6 k3) (orcOr (orcH k35) (orcOr (orcR 6 k5) (orcOr (orcH k36) (orcOr (orcH k37) (orcOr (orcH k42) (orcOr (orcR 6 k8) noOrc)))))))))))) 100000 k43=true:=by kernel_rfl
theorem zyy (s:Nat→Value):runH (xo s noOrc) 100000 k44=true:=by kernel_rfl
theorem k44_ok (s:Nat→Value):OrcOk Tryz.prog ⟨6,s⟩ (orcH k44):=za1 (za9 (zah _ _)) (zyy s)
theorem zyz (s:Nat→Value):runH (xo s noOrc) 100000 k45=true:=by kernel_rfl
theorem k45_ok (s:Nat→Value):OrcOk Tryz.prog ⟨6,s⟩ (orcH k45):=za1 (za9 (zah _ _)) (zyz s)
theorem zy0 (s:Nat→Value):runH (xo s (orcOr (orcR 6 k6) (orcOr (orcR 6 k1) noOrc))) 100000 k46=true:=by kernel_rfl
theorem k46_ok (s:Nat→Value):OrcOk Tryz.prog ⟨6,s⟩ (orcH k46):=za1 (za9 (zad (zvj _) (zad (zgb _) (zah _ _)))) (zy0 s)
theorem zy1 (s:Nat→Value):runH (xo s noOrc) 100000 k47=true:=by kernel_rfl
theorem k47_ok (s:Nat→Value):OrcOk Tryz.prog ⟨6,s⟩ (orcH k47):=za1 (za9 (zah _ _)) (zy1 s)
theorem zy2 (s:Nat→Value):runH (xo s (orcOr (orcH k47) noOrc)) 100000 k48=true:=by kernel_rfl
theorem k48_ok (s:Nat→Value):OrcOk Tryz.prog ⟨6,s⟩ (orcH k48):=za1 (za9 (zad (k47_ok _) (zah _ _))) (zy2 s)
theorem zy3 (s:Nat→Value):runH (xo s (orcOr (orcP 6 [.float .f64 0,.int .i64 8] (.int .i64 6)) (orcOr (orcR 6 k0) (orcOr (orcR 6 k1) (orcOr (orcH k44) (orcOr (orcR 6 k3) (orcOr (orcH k45) (orcOr (orcR 6 k5) (orcOr (orcH k46) (orcOr (orcH k48) noOrc)))))))))) 100000 k49=true:=by kernel_rfl
theorem zy4 (s:Nat→Value):runH (xo s (orcOr (orcP 6 [.float .f64 0,.int .i64 8] (.int .i64 7)) (orcOr (orcR 6 k0) noOrc))) 100000 k50=true:=by kernel_rfl
end Go.Proofs.YtmejdkniafjncaaGreatDoor.Mv
