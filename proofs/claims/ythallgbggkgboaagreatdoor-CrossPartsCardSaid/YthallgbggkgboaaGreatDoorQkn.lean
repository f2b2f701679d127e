/-
  known() of chapter 36: a run.
-/
import Derived.Test.YthallgbggkgboaaGreatDoorQxi
import Derived.Test.YthallgbggkgboaaGreatDoorKq
namespace Go.Proofs.YthallgbggkgboaaGreatDoor.Gp
open Go Go.RowKit

theorem known36_any (w : World) : Calls Tryz.prog 9 #[] w fun e w' => e = .returned (.bool true) ∧ Below w.heap.size w w' := knownV.walk w
end Go.Proofs.YthallgbggkgboaaGreatDoor.Gp
