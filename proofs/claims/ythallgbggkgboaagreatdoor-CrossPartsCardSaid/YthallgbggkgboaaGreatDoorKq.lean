/-
  The law's run.
-/
import Derived.Test.YthallgbggkgboaaGreatDoorKq1
import Derived.Test.YthallgbggkgboaaGreatDoorKq2
namespace Go.Proofs.YthallgbggkgboaaGreatDoor.Kw
open Go Go.RowKit CX
theorem law_ok : (xo noSym (orcOr (orcH k0) (orcOr (orcH k1) (orcOr (orcH k4) (orcOr (orcR 6 k5) (orcOr (orcR 6 k6) (orcOr (orcH k11) (orcOr (orcH k16) (orcOr (orcH k18) (orcOr (orcH k20) (orcOr (orcH k21) noOrc))))))))))).Ok := xo_ok (orcOr_ok (k0_ok noSym) (orcOr_ok (k1_ok noSym) (orcOr_ok (k4_ok noSym) (orcOr_ok (k5_ok noSym) (orcOr_ok (k6_ok noSym) (orcOr_ok (k11_ok noSym) (orcOr_ok (k16_ok noSym) (orcOr_ok (k18_ok noSym) (orcOr_ok (k20_ok noSym) (orcOr_ok (k21_ok noSym) (noOrc_ok _ _)))))))))))
theorem law_run : gives1 (xo noSym (orcOr (orcH k0) (orcOr (orcH k1) (orcOr (orcH k4) (orcOr (orcR 6 k5) (orcOr (orcR 6 k6) (orcOr (orcH k11) (orcOr (orcH k16) (orcOr (orcH k18) (orcOr (orcH k20) (orcOr (orcH k21) noOrc))))))))))) 100000 9 [] (.bool true) = true := by kernel_rfl
end Go.Proofs.YthallgbggkgboaaGreatDoor.Kw
namespace Go.Proofs.YthallgbggkgboaaGreatDoor.knownV
open Go Go.RowKit
theorem walk (w : World) : Calls Tryz.prog 9 #[] w fun e w' => e = .returned (.bool true) ∧ Below w.heap.size w w' :=
  CX.gives1_run Kw.law_ok CX.noSym_one Kw.law_run rfl rfl w
end Go.Proofs.YthallgbggkgboaaGreatDoor.knownV
