/- Checks of fractions: runs. -/
import Derived.Test.YtemgclnkgieldaaGreatDoorMwa
namespace Go.Proofs.YtemgclnkgieldaaGreatDoor.Mv
open Go Go.RowKit CX Md
set_option maxHeartbeats 100000000
theorem ok3_9:f9.all ok3=true:=sp 2 (by as_aux_lemma=>kernel_rfl) (sp 2 (by as_aux_lemma=>kernel_rfl) (sp 2 (by as_aux_lemma=>kernel_rfl) (sp 2 (by as_aux_lemma=>kernel_rfl) (by as_aux_lemma=>kernel_rfl))))
theorem ok3_10:f10.all ok3=true:=sp 2 (by as_aux_lemma=>kernel_rfl) (sp 2 (by as_aux_lemma=>kernel_rfl) (sp 2 (by as_aux_lemma=>kernel_rfl) (sp 2 (by as_aux_lemma=>kernel_rfl) (by as_aux_lemma=>kernel_rfl))))
end Go.Proofs.YtemgclnkgieldaaGreatDoor.Mv
