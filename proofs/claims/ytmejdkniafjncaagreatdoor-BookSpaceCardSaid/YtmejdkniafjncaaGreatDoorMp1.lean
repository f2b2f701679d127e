/- The runs of known calls. -/
import Derived.Test.YtmejdkniafjncaaGreatDoorMp0
namespace Go.Proofs.YtmejdkniafjncaaGreatDoor.Mv
open Go Go.RowKit CX Md
theorem k0_run (s:Nat→Value):runH (xo s noOrc) 100000 k0=true:=by kernel_rfl
theorem k0_okR:okR 6 k0=true:=by kernel_rfl
theorem zmq (s:Nat→Value):OrcOk Tryz.prog ⟨6,s⟩ (orcR 6 k0):=zca (za9 (zah _ _)) rfl k0_okR (k0_run s)
theorem k1_run (s:Nat→Value):runH (xo s noOrc) 100000 k1=true:=by kernel_rfl
theorem k1_okR:okR 6 k1=true:=by kernel_rfl
theorem zgb (s:Nat→Value):OrcOk Tryz.prog ⟨6,s⟩ (orcR 6 k1):=zca (za9 (zah _ _)) rfl k1_okR (k1_run s)
theorem k2_run (s:Nat→Value):runH (xo s noOrc) 100000 k2=true:=by kernel_rfl
theorem k2_ok (s:Nat→Value):OrcOk Tryz.prog ⟨6,s⟩ (orcH k2):=za1 (za9 (zah _ _)) (k2_run s)
theorem k3_run (s:Nat→Value):runH (xo s (orcOr (orcR 6 k1) noOrc)) 100000 k3=true:=by kernel_rfl
theorem k3_okR:okR 6 k3=true:=by kernel_rfl
theorem zn8 (s:Nat→Value):OrcOk Tryz.prog ⟨6,s⟩ (orcR 6 k3):=zca (za9 (zad (zgb _) (zah _ _))) rfl k3_okR (k3_run s)
theorem k4_run (s:Nat→Value):runH (xo s noOrc) 100000 k4=true:=by kernel_rfl
theorem k4_ok (s:Nat→Value):OrcOk Tryz.prog ⟨6,s⟩ (orcH k4):=za1 (za9 (zah _ _)) (k4_run s)
theorem k5_run (s:Nat→Value):runH (xo s (orcOr (orcR 6 k1) noOrc)) 100000 k5=true:=by kernel_rfl
theorem k5_okR:okR 6 k5=true:=by kernel_rfl
theorem zn9 (s:Nat→Value):OrcOk Tryz.prog ⟨6,s⟩ (orcR 6 k5):=zca (za9 (zad (zgb _) (zah _ _))) rfl k5_okR (k5_run s)
theorem k6_run (s:Nat→Value):runH (xo s noOrc) 100000 k6=true:=by kernel_rfl
theorem k6_okR:okR 6 k6=true:=by kernel_rfl
theorem zvj (s:Nat→Value):OrcOk Tryz.prog ⟨6,s⟩ (orcR 6 k6):=zca (za9 (zah _ _)) rfl k6_okR (k6_run s)
theorem k7_run (s:Nat→Value):runH (xo s (orcOr (orcR 6 k6) (orcOr (orcR 6 k1) noOrc))) 100000 k7=true:=by kernel_rfl
theorem k7_okR:okR 6 k7=true:=by kernel_rfl
theorem zxs (s:Nat→Value):OrcOk Tryz.prog ⟨6,s⟩ (orcR 6 k7):=zca (za9 (zad (zvj _) (zad (zgb _) (zah _ _)))) rfl k7_okR (k7_run s)
theorem k8_run (s:Nat→Value):runH (xo s noOrc) 100000 k8=true:=by kernel_rfl
theorem k8_okR:okR 6 k8=true:=by kernel_rfl
theorem zvk (s:Nat→Value):OrcOk Tryz.prog ⟨6,s⟩ (orcR 6 k8):=zca (za9 (zah _ _)) rfl k8_okR (k8_run s)
theorem k9_run (s:Nat→Value):runH (xo s (orcOr (orcR 6 k8) noOrc)) 100000 k9=true:=by kernel_rfl
theorem k9_ok (s:Nat→Value):OrcOk Tryz.prog ⟨6,s⟩ (orcH k9):=za1 (za9 (zad (zvk _) (zah _ _))) (k9_run s)
theorem zxt (s:Nat→Value):runH (xo s (orcOr (orcP 6 [.float .f64 0,.int .i64 8] (.int .i64 0)) (orcOr (orcR 6 k0) (orcOr (orcR 6 k1) (orcOr (orcH k2) (orcOr (orcR 6 k3) (orcOr (orcH k4) (orcOr (orcR 6 k5) (orcOr (orcR 6 k7) (orcOr (orcH k9) noOrc)))))))))) 100000 k10=true:=by kernel_rfl
theorem zxu (s:Nat→Value):runH (xo s noOrc) 100000 k11=true:=by kernel_rfl
theorem k11_ok (s:Nat→Value):OrcOk Tryz.prog ⟨6,s⟩ (orcH k11):=za1 (za9 (zah _ _)) (zxu s)
theorem zxv (s:Nat→Value):runH (xo s noOrc) 100000 k12=true:=by kernel_rfl
theorem k12_ok (s:Nat→Value):OrcOk Tryz.prog ⟨6,s⟩ (orcH k12):=za1 (za9 (zah _ _)) (zxv s)
theorem zxw (s:Nat→Value):runH (xo s noOrc) 100000 k13=true:=by kernel_rfl
theorem zxx:okR 6 k13=true:=by kernel_rfl
theorem zv4 (s:Nat→Value):OrcOk Tryz.prog ⟨6,s⟩ (orcR 6 k13):=zca (za9 (zah _ _)) rfl zxx (zxw s)
theorem zxy (s:Nat→Value):runH (xo s noOrc) 100000 k14=true:=by kernel_rfl
theorem zxz:okR 6 k14=true:=by kernel_rfl
theorem zv5 (s:Nat→Value):OrcOk Tryz.prog ⟨6,s⟩ (orcR 6 k14):=zca (za9 (zah _ _)) rfl zxz (zxy s)
theorem zx0 (s:Nat→Value):runH (xo s noOrc) 100000 k15=true:=by kernel_rfl
theorem zx1:okR 6 k15=true:=by kernel_rfl
theorem zv6 (s:Nat→Value):OrcOk Tryz.prog ⟨6,s⟩ (orcR 6 k15):=zca (za9 (zah _ _)) rfl zx1 (zx0 s)
theorem zx2 (s:Nat→Value):runH (xo s (orcOr (orcR 6 k8) (orcOr (orcR 6 k13) (orcOr (orcR 6 k14) (orcOr (orcR 6 k15) noOrc))))) 100000 k16=true:=by kernel_rfl
theorem k16_ok (s:Nat→Value):OrcOk Tryz.prog ⟨6,s⟩ (orcH k16):=za1 (za9 (zad (zvk _) (zad (zv4 _) (zad (zv5 _) (zad (zv6 _) (zah _ _)))))) (zx2 s)
theorem zx3 (s:Nat→Value):runH (xo s (orcOr (orcP 6 [.float .f64 0,.int .i64 8] (.int .i64 1)) (orcOr (orcR 6 k0) (orcOr (orcR 6 k1) (orcOr (orcH k11) (orcOr (orcR 6 k3) (orcOr (orcH k12) (orcOr (orcR 6 k5) (orcOr (orcR 6 k7) (orcOr (orcH k16) noOrc)))))))))) 100000 k17=true:=by kernel_rfl
theorem zx4 (s:Nat→Value):runH (xo s noOrc) 100000 k18=true:=by kernel_rfl
theorem k18_ok (s:Nat→Value):OrcOk Tryz.prog ⟨6,s⟩ (orcH k18):=za1 (za9 (zah _ _)) (zx4 s)
theorem zx5 (s:Nat→Value):runH (xo s noOrc) 100000 k19=true:=by kernel_rfl
theorem k19_ok (s:Nat→Value):OrcOk Tryz.prog ⟨6,s⟩ (orcH k19):=za1 (za9 (zah _ _)) (zx5 s)
end Go.Proofs.YtmejdkniafjncaaGreatDoor.Mv
