/-
  Closed facts of the program alone.
-/
import Derived.Test.YtnbopkflhjakdaaGreatDoorCl0
import Derived.JoinedOf
namespace Go.Proofs.YtnbopkflhjakdaaGreatDoor.Cl
open Go
set_option maxRecDepth 100000
theorem mapsRowedP : mapsRowed Tryz.prog = true := by as_aux_lemma => kernel_rfl
theorem stopsBP : (Tryz.prog.stops == []) = true := by as_aux_lemma => kernel_rfl
theorem stopKnobsBP : (Tryz.prog.stopKnobs == []) = true := by as_aux_lemma => kernel_rfl
theorem stopsHeardP : Tryz.prog.stopsHeard = true := by as_aux_lemma => kernel_rfl
theorem mayEnterP : Tryz.prog.mayEnter = true := by as_aux_lemma => kernel_rfl
end Go.Proofs.YtnbopkflhjakdaaGreatDoor.Cl
