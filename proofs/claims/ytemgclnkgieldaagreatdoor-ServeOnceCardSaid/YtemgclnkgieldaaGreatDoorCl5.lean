/- Closed facts of the program alone. -/
import Derived.Test.YtemgclnkgieldaaGreatDoorCl0
namespace Go.Proofs.YtemgclnkgieldaaGreatDoor.Cl
open Go
set_option maxRecDepth 100000
theorem zrl:mapsRowed Tryz.prog=true:=by as_aux_lemma=>kernel_rfl
theorem zz8:(Tryz.prog.stops == [])=true:=by as_aux_lemma=>kernel_rfl
theorem zoh:(Tryz.prog.stopKnobs == [])=true:=by as_aux_lemma=>kernel_rfl
theorem zoi:Tryz.prog.stopsHeard=true:=by as_aux_lemma=>kernel_rfl
theorem zu9:Tryz.prog.mayEnter=true:=by as_aux_lemma=>kernel_rfl
end Go.Proofs.YtemgclnkgieldaaGreatDoor.Cl
