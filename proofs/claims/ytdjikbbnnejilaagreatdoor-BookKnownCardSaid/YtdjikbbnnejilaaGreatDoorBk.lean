/-
  The law's run.
-/
import Derived.Test.YtdjikbbnnejilaaGreatDoorBk1
import Derived.Test.YtdjikbbnnejilaaGreatDoorBk2
import Derived.Test.YtdjikbbnnejilaaGreatDoorBk3
import Derived.Test.YtdjikbbnnejilaaGreatDoorBk4
import Derived.Test.YtdjikbbnnejilaaGreatDoorBk5
import Derived.Test.YtdjikbbnnejilaaGreatDoorBk6
import Derived.Test.YtdjikbbnnejilaaGreatDoorBk7
import Derived.Test.YtdjikbbnnejilaaGreatDoorBk8
import Derived.Test.YtdjikbbnnejilaaGreatDoorBk9
namespace Go.Proofs.YtdjikbbnnejilaaGreatDoor.Kw
open Go Go.RowKit CX
theorem law_ok : (xo noSym (orcOr (orcH k0) (orcOr (orcH k1) (orcOr (orcR 6 k4) (orcOr (orcR 6 k5) (orcOr (orcR 6 k7) (orcOr (orcR 6 k8) (orcOr (orcR 6 k15) (orcOr (orcH k16) (orcOr (orcH k17) (orcOr (orcH k18) (orcOr (orcR 6 k20) (orcOr (orcH k21) (orcOr (orcH k22) (orcOr (orcH k23) noOrc))))))))))))))).Ok := xo_ok (orcOr_ok (k0_ok noSym) (orcOr_ok (k1_ok noSym) (orcOr_ok (k4_ok noSym) (orcOr_ok (k5_ok noSym) (orcOr_ok (k7_ok noSym) (orcOr_ok (k8_ok noSym) (orcOr_ok (k15_ok noSym) (orcOr_ok (k16_ok noSym) (orcOr_ok (k17_ok noSym) (orcOr_ok (k18_ok noSym) (orcOr_ok (k20_ok noSym) (orcOr_ok (k21_ok noSym) (orcOr_ok (k22_ok noSym) (orcOr_ok (k23_ok noSym) (noOrc_ok _ _)))))))))))))))
theorem law_run : gives1 (xo noSym (orcOr (orcH k0) (orcOr (orcH k1) (orcOr (orcR 6 k4) (orcOr (orcR 6 k5) (orcOr (orcR 6 k7) (orcOr (orcR 6 k8) (orcOr (orcR 6 k15) (orcOr (orcH k16) (orcOr (orcH k17) (orcOr (orcH k18) (orcOr (orcR 6 k20) (orcOr (orcH k21) (orcOr (orcH k22) (orcOr (orcH k23) noOrc))))))))))))))) 100000 3 [] (.bool true) = true := by kernel_rfl
end Go.Proofs.YtdjikbbnnejilaaGreatDoor.Kw
namespace Go.Proofs.YtdjikbbnnejilaaGreatDoor.bookKnown
open Go Go.RowKit
theorem walk (w : World) : Calls Tryz.prog 3 #[] w fun e w' => e = .returned (.bool true) ∧ Below w.heap.size w w' :=
  CX.gives1_run Kw.law_ok CX.noSym_one Kw.law_run rfl rfl w
end Go.Proofs.YtdjikbbnnejilaaGreatDoor.bookKnown
