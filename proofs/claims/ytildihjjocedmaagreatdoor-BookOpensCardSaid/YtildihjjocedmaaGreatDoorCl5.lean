/- Closed facts of the program alone. -/
import Derived.Test.YtildihjjocedmaaGreatDoorCl0
namespace Go.Proofs.YtildihjjocedmaaGreatDoor.Cl
open Go
set_option maxRecDepth 100000
theorem zqg:mapsRowed Tryz.prog=true:=by as_aux_lemma=>kernel_rfl
theorem zyn:(Tryz.prog.stops == [])=true:=by as_aux_lemma=>kernel_rfl
theorem zn4:(Tryz.prog.stopKnobs == [])=true:=by as_aux_lemma=>kernel_rfl
theorem zn5:Tryz.prog.stopsHeard=true:=by as_aux_lemma=>kernel_rfl
theorem zto:Tryz.prog.mayEnter=true:=by as_aux_lemma=>kernel_rfl
end Go.Proofs.YtildihjjocedmaaGreatDoor.Cl
