/- Closed facts of the program alone. -/
import Derived.Test.YtecaggbepjoaiaaGreatDoorCl0
namespace Go.Proofs.YtecaggbepjoaiaaGreatDoor.Cl
open Go
set_option maxRecDepth 100000
theorem zrk:mapsRowed Tryz.prog=true:=by as_aux_lemma=>kernel_rfl
theorem zzt:(Tryz.prog.stops == [])=true:=by as_aux_lemma=>kernel_rfl
theorem zo5:(Tryz.prog.stopKnobs == [])=true:=by as_aux_lemma=>kernel_rfl
theorem zo6:Tryz.prog.stopsHeard=true:=by as_aux_lemma=>kernel_rfl
theorem zvc:Tryz.prog.mayEnter=true:=by as_aux_lemma=>kernel_rfl
end Go.Proofs.YtecaggbepjoaiaaGreatDoor.Cl
