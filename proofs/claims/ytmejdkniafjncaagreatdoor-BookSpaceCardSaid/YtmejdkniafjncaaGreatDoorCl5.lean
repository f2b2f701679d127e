/- Closed facts of the program alone. -/
import Derived.Test.YtmejdkniafjncaaGreatDoorCl0
namespace Go.Proofs.YtmejdkniafjncaaGreatDoor.Cl
open Go
set_option maxRecDepth 100000
theorem zqt:mapsRowed Tryz.prog=true:=by as_aux_lemma=>kernel_rfl
theorem zy8:(Tryz.prog.stops == [])=true:=by as_aux_lemma=>kernel_rfl
theorem zoc:(Tryz.prog.stopKnobs == [])=true:=by as_aux_lemma=>kernel_rfl
theorem zod:Tryz.prog.stopsHeard=true:=by as_aux_lemma=>kernel_rfl
theorem zt4:Tryz.prog.mayEnter=true:=by as_aux_lemma=>kernel_rfl
end Go.Proofs.YtmejdkniafjncaaGreatDoor.Cl
