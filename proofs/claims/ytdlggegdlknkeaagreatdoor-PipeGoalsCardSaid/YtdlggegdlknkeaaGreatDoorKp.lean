/-
  The law's run.
-/
import Derived.Test.YtdlggegdlknkeaaGreatDoorKp1
import Derived.Test.YtdlggegdlknkeaaGreatDoorKp2
namespace Go.Proofs.YtdlggegdlknkeaaGreatDoor.Kw
open Go Go.RowKit CX
theorem law_ok : (xo noSym (orcOr (orcH k0) (orcOr (orcH k1) (orcOr (orcH k2) (orcOr (orcR 6 k3) (orcOr (orcH k4) noOrc)))))).Ok := xo_ok (orcOr_ok (k0_ok noSym) (orcOr_ok (k1_ok noSym) (orcOr_ok (k2_ok noSym) (orcOr_ok (k3_ok noSym) (orcOr_ok (k4_ok noSym) (noOrc_ok _ _))))))
theorem law_run : gives1 (xo noSym (orcOr (orcH k0) (orcOr (orcH k1) (orcOr (orcH k2) (orcOr (orcR 6 k3) (orcOr (orcH k4) noOrc)))))) 100000 9 [] (.bool true) = true := by kernel_rfl
end Go.Proofs.YtdlggegdlknkeaaGreatDoor.Kw
namespace Go.Proofs.YtdlggegdlknkeaaGreatDoor.knownT
open Go Go.RowKit
theorem walk (w : World) : Calls Tryz.prog 9 #[] w fun e w' => e = .returned (.bool true) ∧ Below w.heap.size w w' :=
  CX.gives1_run Kw.law_ok CX.noSym_one Kw.law_run rfl rfl w
end Go.Proofs.YtdlggegdlknkeaaGreatDoor.knownT
