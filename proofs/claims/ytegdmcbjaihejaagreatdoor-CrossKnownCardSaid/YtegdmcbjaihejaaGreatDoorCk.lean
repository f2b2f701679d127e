/-
  The law's run.
-/
import Derived.Test.YtegdmcbjaihejaaGreatDoorCk1
import Derived.Test.YtegdmcbjaihejaaGreatDoorCk2
import Derived.Test.YtegdmcbjaihejaaGreatDoorCk3
import Derived.Test.YtegdmcbjaihejaaGreatDoorCk4
import Derived.Test.YtegdmcbjaihejaaGreatDoorCk5
import Derived.Test.YtegdmcbjaihejaaGreatDoorCk6
namespace Go.Proofs.YtegdmcbjaihejaaGreatDoor.Kw
open Go Go.RowKit CX
noncomputable def X1 : X := X.mk' Tryz.prog 10 10 6 noSym noFacts (orcOr (orcH k0) (orcOr (orcH k1) (orcOr (orcH k2) (orcOr (orcH k3) (orcOr (orcH k4) (orcOr (orcH k5) noOrc))))))
theorem X1_ok : X1.Ok := X.mk'_ok _ _ _ _ _ _ _ (noFacts_ok _) (orcOr_ok (orcH_ok X0_ok k0_run) (orcOr_ok (orcH_ok X0_ok k1_run) (orcOr_ok (orcH_ok X0_ok k2_run) (orcOr_ok (orcH_ok X0_ok k3_run) (orcOr_ok (orcH_ok X0_ok k4_run) (orcOr_ok (orcH_ok X0_ok k5_run) (noOrc_ok _ _))))))) (by kernel_rfl)
theorem law_run : gives1 X1 100000 3 [] (.bool true) = true := by kernel_rfl
end Go.Proofs.YtegdmcbjaihejaaGreatDoor.Kw
namespace Go.Proofs.YtegdmcbjaihejaaGreatDoor.crossKnown
open Go Go.RowKit
theorem walk (w : World) : Calls Tryz.prog 3 #[] w fun e w' => e = .returned (.bool true) ∧ Below w.heap.size w w' :=
  CX.gives1_run Kw.X1_ok CX.noSym_one Kw.law_run rfl rfl w
end Go.Proofs.YtegdmcbjaihejaaGreatDoor.crossKnown
