/-
  The law's run.
-/
import Derived.Test.YtfkfaecdgmdeeaaGreatDoorSk1
import Derived.Test.YtfkfaecdgmdeeaaGreatDoorSk2
import Derived.Test.YtfkfaecdgmdeeaaGreatDoorSk3
import Derived.Test.YtfkfaecdgmdeeaaGreatDoorSk4
namespace Go.Proofs.YtfkfaecdgmdeeaaGreatDoor.Kw
open Go Go.RowKit CX
theorem law_ok : (xo (orcOr (orcH k0) (orcOr (orcH k1) (orcOr (orcH k2) (orcOr (orcH k3) (orcOr (orcH k4) (orcOr (orcH k6) (orcOr (orcH k7) (orcOr (orcH k8) noOrc))))))))).Ok := xo_ok (orcOr_ok k0_ok (orcOr_ok k1_ok (orcOr_ok k2_ok (orcOr_ok k3_ok (orcOr_ok k4_ok (orcOr_ok k6_ok (orcOr_ok k7_ok (orcOr_ok k8_ok (noOrc_ok _ _)))))))))
theorem law_run : gives1 (xo (orcOr (orcH k0) (orcOr (orcH k1) (orcOr (orcH k2) (orcOr (orcH k3) (orcOr (orcH k4) (orcOr (orcH k6) (orcOr (orcH k7) (orcOr (orcH k8) noOrc))))))))) 100000 3 [] (.bool true) = true := by kernel_rfl
end Go.Proofs.YtfkfaecdgmdeeaaGreatDoor.Kw
namespace Go.Proofs.YtfkfaecdgmdeeaaGreatDoor.saveKnown
open Go Go.RowKit
theorem walk (w : World) : Calls Tryz.prog 3 #[] w fun e w' => e = .returned (.bool true) ∧ Below w.heap.size w w' :=
  CX.gives1_run Kw.law_ok CX.noSym_one Kw.law_run rfl rfl w
end Go.Proofs.YtfkfaecdgmdeeaaGreatDoor.saveKnown
