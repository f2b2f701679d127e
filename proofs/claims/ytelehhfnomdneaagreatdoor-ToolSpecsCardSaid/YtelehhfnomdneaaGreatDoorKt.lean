/-
  The law's run.
-/
import Derived.Test.YtelehhfnomdneaaGreatDoorKt1
namespace Go.Proofs.YtelehhfnomdneaaGreatDoor.Kw
open Go Go.RowKit CX
theorem law_ok : (xo noSym (orcOr (orcH k0) noOrc)).Ok := xo_ok (orcOr_ok (k0_ok noSym) (noOrc_ok _ _))
theorem law_run : gives1 (xo noSym (orcOr (orcH k0) noOrc)) 100000 8 [] (.bool true) = true := by kernel_rfl
end Go.Proofs.YtelehhfnomdneaaGreatDoor.Kw
namespace Go.Proofs.YtelehhfnomdneaaGreatDoor.knownT
open Go Go.RowKit
theorem walk (w : World) : Calls Tryz.prog 8 #[] w fun e w' => e = .returned (.bool true) ∧ Below w.heap.size w w' :=
  CX.gives1_run Kw.law_ok CX.noSym_one Kw.law_run rfl rfl w
end Go.Proofs.YtelehhfnomdneaaGreatDoor.knownT
