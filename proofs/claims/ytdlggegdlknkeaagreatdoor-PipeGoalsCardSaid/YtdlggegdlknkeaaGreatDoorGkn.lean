/-
  known() of chapter 33: a run.
-/
import Derived.Test.YtdlggegdlknkeaaGreatDoorGpi
import Derived.Test.YtdlggegdlknkeaaGreatDoorKp
namespace Go.Proofs.YtdlggegdlknkeaaGreatDoor.Gp
open Go Go.RowKit

def KnW (_ : World) : Prop := True
theorem knW (w : World) : KnW w := trivial
theorem KnW.below {w w' : World} (h : KnW w) (_ : Below w.heap.size w w') : KnW w' := h
theorem known_any (w : World) (_ : KnW w) : Calls Tryz.prog 9 #[] w fun e w' => e = .returned (.bool true) ∧ Below w.heap.size w w' := knownT.walk w
end Go.Proofs.YtdlggegdlknkeaaGreatDoor.Gp
