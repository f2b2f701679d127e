/-
  The law's run.
-/
import Derived.Test.YtnbopkflhjakdaaGreatDoorKb1
import Derived.Test.YtnbopkflhjakdaaGreatDoorKb2
import Derived.Test.YtnbopkflhjakdaaGreatDoorKb3
namespace Go.Proofs.YtnbopkflhjakdaaGreatDoor.Kw
open Go Go.RowKit CX
theorem law_ok : (xo noSym (orcOr (orcH k2) (orcOr (orcR 6 k3) (orcOr (orcH k4) (orcOr (orcH k5) (orcOr (orcH k6) (orcOr (orcR 6 k7) (orcOr (orcH k8) (orcOr (orcH k9) noOrc))))))))).Ok := xo_ok (orcOr_ok (k2_ok noSym) (orcOr_ok (k3_ok noSym) (orcOr_ok (k4_ok noSym) (orcOr_ok (k5_ok noSym) (orcOr_ok (k6_ok noSym) (orcOr_ok (k7_ok noSym) (orcOr_ok (k8_ok noSym) (orcOr_ok (k9_ok noSym) (noOrc_ok _ _)))))))))
theorem law_run : gives1 (xo noSym (orcOr (orcH k2) (orcOr (orcR 6 k3) (orcOr (orcH k4) (orcOr (orcH k5) (orcOr (orcH k6) (orcOr (orcR 6 k7) (orcOr (orcH k8) (orcOr (orcH k9) noOrc))))))))) 100000 14 [] (.bool true) = true := by kernel_rfl
end Go.Proofs.YtnbopkflhjakdaaGreatDoor.Kw
namespace Go.Proofs.YtnbopkflhjakdaaGreatDoor.knownB
open Go Go.RowKit
theorem walk (w : World) : Calls Tryz.prog 14 #[] w fun e w' => e = .returned (.bool true) ∧ Below w.heap.size w w' :=
  CX.gives1_run Kw.law_ok CX.noSym_one Kw.law_run rfl rfl w
end Go.Proofs.YtnbopkflhjakdaaGreatDoor.knownB
