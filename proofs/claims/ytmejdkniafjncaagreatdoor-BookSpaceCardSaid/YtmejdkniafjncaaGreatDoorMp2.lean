/- The runs of known calls. -/
import Derived.Test.YtmejdkniafjncaaGreatDoorMp1
namespace Go.Proofs.YtmejdkniafjncaaGreatDoor.Mv
open Go Go.RowKit CX Md
theorem zx6 (s:Nat→Value):runH (xo s noOrc) 100000 k20=true:=by kernel_rfl
theorem k20_ok (s:Nat→Value):OrcOk Tryz.prog ⟨6,s⟩ (orcH k20):=za1 (za9 (zah _ _)) (zx6 s)
theorem zx7 (s:Nat→Value):runH (xo s noOrc) 100000 k21=true:=by kernel_rfl
theorem zx8:okR 6 k21=true:=by kernel_rfl
theorem k21_ok (s:Nat→Value):OrcOk Tryz.prog ⟨6,s⟩ (orcR 6 k21):=zca (za9 (zah _ _)) rfl zx8 (zx7 s)
theorem zx9 (s:Nat→Value):runH (xo s noOrc) 100000 k22=true:=by kernel_rfl
theorem zya:okR 6 k22=true:=by kernel_rfl
theorem k22_ok (s:Nat→Value):OrcOk Tryz.prog ⟨6,s⟩ (orcR 6 k22):=zca (za9 (zah _ _)) rfl zya (zx9 s)
theorem zyb (s:Nat→Value):runH (xo s noOrc) 100000 k23=true:=by kernel_rfl
theorem k23_ok (s:Nat→Value):OrcOk Tryz.prog ⟨6,s⟩ (orcH k23):=za1 (za9 (zah _ _)) (zyb s)
theorem zyc (s:Nat→Value):runH (xo s (orcOr (orcR 6 k8) (orcOr (orcR 6 k13) (orcOr (orcR 6 k14) (orcOr (orcH k20) (orcOr (orcR 6 k21) (orcOr (orcR 6 k22) (orcOr (orcR 6 k15) (orcOr (orcH k23) noOrc))))))))) 100000 k24=true:=by kernel_rfl
theorem k24_ok (s:Nat→Value):OrcOk Tryz.prog ⟨6,s⟩ (orcH k24):=za1 (za9 (zad (zvk _) (zad (zv4 _) (zad (zv5 _) (zad (k20_ok _) (zad (k21_ok _) (zad (k22_ok _) (zad (zv6 _) (zad (k23_ok _) (zah _ _)))))))))) (zyc s)
theorem zyd (s:Nat→Value):runH (xo s (orcOr (orcP 6 [.float .f64 0,.int .i64 8] (.int .i64 2)) (orcOr (orcR 6 k0) (orcOr (orcR 6 k1) (orcOr (orcH k18) (orcOr (orcR 6 k3) (orcOr (orcH k19) (orcOr (orcR 6 k5) (orcOr (orcR 6 k7) (orcOr (orcH k24) noOrc)))))))))) 100000 k25=true:=by kernel_rfl
theorem zye (s:Nat→Value):runH (xo s noOrc) 100000 k26=true:=by kernel_rfl
theorem k26_ok (s:Nat→Value):OrcOk Tryz.prog ⟨6,s⟩ (orcH k26):=za1 (za9 (zah _ _)) (zye s)
theorem zyf (s:Nat→Value):runH (xo s noOrc) 100000 k27=true:=by kernel_rfl
theorem k27_ok (s:Nat→Value):OrcOk Tryz.prog ⟨6,s⟩ (orcH k27):=za1 (za9 (zah _ _)) (zyf s)
theorem zyg (s:Nat→Value):runH (xo s (orcOr (orcR 6 k6) (orcOr (orcR 6 k1) noOrc))) 100000 k28=true:=by kernel_rfl
theorem zyh:okR 6 k28=true:=by kernel_rfl
theorem zv7 (s:Nat→Value):OrcOk Tryz.prog ⟨6,s⟩ (orcR 6 k28):=zca (za9 (zad (zvj _) (zad (zgb _) (zah _ _)))) rfl zyh (zyg s)
theorem zyi (s:Nat→Value):runH (xo s noOrc) 100000 k29=true:=by kernel_rfl
theorem zyj:okR 6 k29=true:=by kernel_rfl
theorem zv8 (s:Nat→Value):OrcOk Tryz.prog ⟨6,s⟩ (orcR 6 k29):=zca (za9 (zah _ _)) rfl zyj (zyi s)
theorem zyk (s:Nat→Value):runH (xo s (orcOr (orcP 6 [.float .f64 0,.int .i64 8] (.int .i64 3)) (orcOr (orcR 6 k0) (orcOr (orcR 6 k1) (orcOr (orcH k26) (orcOr (orcR 6 k3) (orcOr (orcH k27) (orcOr (orcR 6 k5) (orcOr (orcR 6 k28) (orcOr (orcR 6 k29) noOrc)))))))))) 100000 k30=true:=by kernel_rfl
theorem zyl (s:Nat→Value):runH (xo s noOrc) 100000 k31=true:=by kernel_rfl
theorem k31_ok (s:Nat→Value):OrcOk Tryz.prog ⟨6,s⟩ (orcH k31):=za1 (za9 (zah _ _)) (zyl s)
theorem zym (s:Nat→Value):runH (xo s noOrc) 100000 k32=true:=by kernel_rfl
theorem k32_ok (s:Nat→Value):OrcOk Tryz.prog ⟨6,s⟩ (orcH k32):=za1 (za9 (zah _ _)) (zym s)
theorem zyn (s:Nat→Value):runH (xo s (orcOr (orcP 6 [.float .f64 0,.int .i64 8] (.int .i64 4)) (orcOr (orcR 6 k0) (orcOr (orcR 6 k1) (orcOr (orcH k31) (orcOr (orcR 6 k3) (orcOr (orcH k32) (orcOr (orcR 6 k5) (orcOr (orcR 6 k28) (orcOr (orcR 6 k29) noOrc)))))))))) 100000 k33=true:=by kernel_rfl
theorem zyo (s:Nat→Value):runH (xo s noOrc) 100000 k34=true:=by kernel_rfl
theorem k34_ok (s:Nat→Value):OrcOk Tryz.prog ⟨6,s⟩ (orcH k34):=za1 (za9 (zah _ _)) (zyo s)
theorem zyp (s:Nat→Value):runH (xo s noOrc) 100000 k35=true:=by kernel_rfl
theorem k35_ok (s:Nat→Value):OrcOk Tryz.prog ⟨6,s⟩ (orcH k35):=za1 (za9 (zah _ _)) (zyp s)
theorem zyq (s:Nat→Value):runH (xo s (orcOr (orcR 6 k6) (orcOr (orcR 6 k1) noOrc))) 100000 k36=true:=by kernel_rfl
theorem k36_ok (s:Nat→Value):OrcOk Tryz.prog ⟨6,s⟩ (orcH k36):=za1 (za9 (zad (zvj _) (zad (zgb _) (zah _ _)))) (zyq s)
theorem zyr (s:Nat→Value):runH (xo s noOrc) 100000 k37=true:=by kernel_rfl
theorem k37_ok (s:Nat→Value):OrcOk Tryz.prog ⟨6,s⟩ (orcH k37):=za1 (za9 (zah _ _)) (zyr s)
theorem zys (s:Nat→Value):runH (xo s noOrc) 100000 k38=true:=by kernel_rfl
theorem k38_ok (s:Nat→Value):OrcOk Tryz.prog ⟨6,s⟩ (orcH k38):=za1 (za9 (zah _ _)) (zys s)
theorem zyt (s:Nat→Value):runH (xo s noOrc) 100000 k39=true:=by kernel_rfl
theorem k39_ok (s:Nat→Value):OrcOk Tryz.prog ⟨6,s⟩ (orcH k39):=za1 (za9 (zah _ _)) (zyt s)
end Go.Proofs.YtmejdkniafjncaaGreatDoor.Mv
