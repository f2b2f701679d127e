/- Checks of fractions: runs. -/
import Derived.Test.YtemgclnkgieldaaGreatDoorMwa
namespace Go.Proofs.YtemgclnkgieldaaGreatDoor.Mv
open Go Go.RowKit CX Md
set_option maxHeartbeats 100000000
theorem ok3_3:f3.all ok3=true:=sp 2 (by as_aux_lemma=>kernel_rfl) (sp 2 (by as_aux_lemma=>kernel_rfl) (sp 2 (by as_aux_lemma=>kernel_rfl) (sp 2 (by as_aux_lemma=>kernel_rfl) (by as_aux_lemma=>kernel_rfl))))
theorem ok3_4:f4.all ok3=true:=sp 2 (by as_aux_lemma=>kernel_rfl) (sp 2 (by as_aux_lemma=>kernel_rfl) (sp 2 (by as_aux_lemma=>kernel_rfl) (sp 2 (by as_aux_lemma=>kernel_rfl) (by as_aux_lemma=>kernel_rfl))))
theorem ok3_5:f5.all ok3=true:=sp 2 (by as_aux_lemma=>kernel_rfl) (sp 2 (by as_aux_lemma=>kernel_rfl) (sp 2 (by as_aux_lemma=>kernel_rfl) (sp 2 (by as_aux_lemma=>kernel_rfl) (by as_aux_lemma=>kernel_rfl))))
end Go.Proofs.YtemgclnkgieldaaGreatDoor.Mv
