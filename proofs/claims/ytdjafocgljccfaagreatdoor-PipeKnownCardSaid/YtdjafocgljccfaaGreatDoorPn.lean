/-
  The law's run.
-/
import Derived.Test.YtdjafocgljccfaaGreatDoorPn1
import Derived.Test.YtdjafocgljccfaaGreatDoorPn2
import Derived.Test.YtdjafocgljccfaaGreatDoorPn3
import Derived.Test.YtdjafocgljccfaaGreatDoorPn4
import Derived.Test.YtdjafocgljccfaaGreatDoorPn5
import Derived.Test.YtdjafocgljccfaaGreatDoorPn6
import Derived.Test.YtdjafocgljccfaaGreatDoorPn7
import Derived.Test.YtdjafocgljccfaaGreatDoorPn8
import Derived.Test.YtdjafocgljccfaaGreatDoorPn9
import Derived.Test.YtdjafocgljccfaaGreatDoorPn10
import Derived.Test.YtdjafocgljccfaaGreatDoorPn11
import Derived.Test.YtdjafocgljccfaaGreatDoorPn12
import Derived.Test.YtdjafocgljccfaaGreatDoorPn13
import Derived.Test.YtdjafocgljccfaaGreatDoorPn14
import Derived.Test.YtdjafocgljccfaaGreatDoorPn15
import Derived.Test.YtdjafocgljccfaaGreatDoorPn16
import Derived.Test.YtdjafocgljccfaaGreatDoorPn17
import Derived.Test.YtdjafocgljccfaaGreatDoorPn18
import Derived.Test.YtdjafocgljccfaaGreatDoorPn19
import Derived.Test.YtdjafocgljccfaaGreatDoorPn20
import Derived.Test.YtdjafocgljccfaaGreatDoorPn21
import Derived.Test.YtdjafocgljccfaaGreatDoorPn22
namespace Go.Proofs.YtdjafocgljccfaaGreatDoor.Kw
open Go Go.RowKit CX
theorem law_ok : (xo (orcOr (orcH k0) (orcOr (orcH k1) (orcOr (orcH k3) (orcOr (orcH k4) (orcOr (orcH k6) (orcOr (orcH k7) (orcOr (orcH k8) (orcOr (orcH k9) (orcOr (orcH k10) (orcOr (orcH k11) (orcOr (orcH k12) (orcOr (orcH k13) (orcOr (orcH k18) (orcOr (orcH k19) (orcOr (orcH k20) (orcOr (orcH k21) (orcOr (orcH k22) (orcOr (orcH k23) (orcOr (orcH k25) (orcOr (orcH k26) (orcOr (orcH k68) (orcOr (orcH k69) (orcOr (orcH k71) (orcOr (orcH k72) (orcOr (orcH k73) (orcOr (orcH k74) noOrc))))))))))))))))))))))))))).Ok := xo_ok (orcOr_ok k0_ok (orcOr_ok k1_ok (orcOr_ok k3_ok (orcOr_ok k4_ok (orcOr_ok k6_ok (orcOr_ok k7_ok (orcOr_ok k8_ok (orcOr_ok k9_ok (orcOr_ok k10_ok (orcOr_ok k11_ok (orcOr_ok k12_ok (orcOr_ok k13_ok (orcOr_ok k18_ok (orcOr_ok k19_ok (orcOr_ok k20_ok (orcOr_ok k21_ok (orcOr_ok k22_ok (orcOr_ok k23_ok (orcOr_ok k25_ok (orcOr_ok k26_ok (orcOr_ok k68_ok (orcOr_ok k69_ok (orcOr_ok k71_ok (orcOr_ok k72_ok (orcOr_ok k73_ok (orcOr_ok k74_ok (noOrc_ok _ _)))))))))))))))))))))))))))
theorem law_run : gives1 (xo (orcOr (orcH k0) (orcOr (orcH k1) (orcOr (orcH k3) (orcOr (orcH k4) (orcOr (orcH k6) (orcOr (orcH k7) (orcOr (orcH k8) (orcOr (orcH k9) (orcOr (orcH k10) (orcOr (orcH k11) (orcOr (orcH k12) (orcOr (orcH k13) (orcOr (orcH k18) (orcOr (orcH k19) (orcOr (orcH k20) (orcOr (orcH k21) (orcOr (orcH k22) (orcOr (orcH k23) (orcOr (orcH k25) (orcOr (orcH k26) (orcOr (orcH k68) (orcOr (orcH k69) (orcOr (orcH k71) (orcOr (orcH k72) (orcOr (orcH k73) (orcOr (orcH k74) noOrc))))))))))))))))))))))))))) 100000 3 [] (.bool true) = true := by kernel_rfl
end Go.Proofs.YtdjafocgljccfaaGreatDoor.Kw
namespace Go.Proofs.YtdjafocgljccfaaGreatDoor.pipeKnown
open Go Go.RowKit
theorem walk (w : World) : Calls Tryz.prog 3 #[] w fun e w' => e = .returned (.bool true) ∧ Below w.heap.size w w' :=
  CX.gives1_run Kw.law_ok CX.noSym_one Kw.law_run rfl rfl w
end Go.Proofs.YtdjafocgljccfaaGreatDoor.pipeKnown
