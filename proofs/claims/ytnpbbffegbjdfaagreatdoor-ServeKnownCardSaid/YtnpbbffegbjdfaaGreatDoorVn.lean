/-
  The law's run.
-/
import Derived.Test.YtnpbbffegbjdfaaGreatDoorVn1
import Derived.Test.YtnpbbffegbjdfaaGreatDoorVn2
import Derived.Test.YtnpbbffegbjdfaaGreatDoorVn3
import Derived.Test.YtnpbbffegbjdfaaGreatDoorVn4
import Derived.Test.YtnpbbffegbjdfaaGreatDoorVn5
import Derived.Test.YtnpbbffegbjdfaaGreatDoorVn6
namespace Go.Proofs.YtnpbbffegbjdfaaGreatDoor.Kw
open Go Go.RowKit CX
theorem law_ok : (xo noSym (orcOr (orcH k0) (orcOr (orcH k1) (orcOr (orcH k2) (orcOr (orcH k5) (orcOr (orcR 6 k6) (orcOr (orcR 6 k7) (orcOr (orcH k8) (orcOr (orcH k10) (orcOr (orcH k11) (orcOr (orcR 6 k12) (orcOr (orcR 6 k13) (orcOr (orcH k14) (orcOr (orcH k15) (orcOr (orcH k16) (orcOr (orcH k17) (orcOr (orcH k18) (orcOr (orcH k19) noOrc)))))))))))))))))).Ok := xo_ok (orcOr_ok (k0_ok noSym) (orcOr_ok (k1_ok noSym) (orcOr_ok (k2_ok noSym) (orcOr_ok (k5_ok noSym) (orcOr_ok (k6_ok noSym) (orcOr_ok (k7_ok noSym) (orcOr_ok (k8_ok noSym) (orcOr_ok (k10_ok noSym) (orcOr_ok (k11_ok noSym) (orcOr_ok (k12_ok noSym) (orcOr_ok (k13_ok noSym) (orcOr_ok (k14_ok noSym) (orcOr_ok (k15_ok noSym) (orcOr_ok (k16_ok noSym) (orcOr_ok (k17_ok noSym) (orcOr_ok (k18_ok noSym) (orcOr_ok (k19_ok noSym) (noOrc_ok _ _))))))))))))))))))
theorem law_run : gives1 (xo noSym (orcOr (orcH k0) (orcOr (orcH k1) (orcOr (orcH k2) (orcOr (orcH k5) (orcOr (orcR 6 k6) (orcOr (orcR 6 k7) (orcOr (orcH k8) (orcOr (orcH k10) (orcOr (orcH k11) (orcOr (orcR 6 k12) (orcOr (orcR 6 k13) (orcOr (orcH k14) (orcOr (orcH k15) (orcOr (orcH k16) (orcOr (orcH k17) (orcOr (orcH k18) (orcOr (orcH k19) noOrc)))))))))))))))))) 100000 3 [] (.bool true) = true := by kernel_rfl
end Go.Proofs.YtnpbbffegbjdfaaGreatDoor.Kw
namespace Go.Proofs.YtnpbbffegbjdfaaGreatDoor.serveKnown
open Go Go.RowKit
theorem walk (w : World) : Calls Tryz.prog 3 #[] w fun e w' => e = .returned (.bool true) ∧ Below w.heap.size w w' :=
  CX.gives1_run Kw.law_ok CX.noSym_one Kw.law_run rfl rfl w
end Go.Proofs.YtnpbbffegbjdfaaGreatDoor.serveKnown
