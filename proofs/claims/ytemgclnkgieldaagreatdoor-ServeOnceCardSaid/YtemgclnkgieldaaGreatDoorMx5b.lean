/- Checks of fractions: runs. -/
import Derived.Test.YtemgclnkgieldaaGreatDoorMwa
namespace Go.Proofs.YtemgclnkgieldaaGreatDoor.Mv
open Go Go.RowKit CX Md
set_option maxHeartbeats 100000000
theorem ok5_6:f6.all ok5=true:=sp 3 (by as_aux_lemma=>kernel_rfl) (sp 3 (by as_aux_lemma=>kernel_rfl) (sp 3 (by as_aux_lemma=>kernel_rfl) (by as_aux_lemma=>kernel_rfl)))
theorem ok5_7:f7.all ok5=true:=sp 3 (by as_aux_lemma=>kernel_rfl) (sp 3 (by as_aux_lemma=>kernel_rfl) (sp 3 (by as_aux_lemma=>kernel_rfl) (by as_aux_lemma=>kernel_rfl)))
theorem ok5_8:f8.all ok5=true:=sp 3 (by as_aux_lemma=>kernel_rfl) (sp 3 (by as_aux_lemma=>kernel_rfl) (sp 3 (by as_aux_lemma=>kernel_rfl) (by as_aux_lemma=>kernel_rfl)))
theorem ok5_9:f9.all ok5=true:=sp 3 (by as_aux_lemma=>kernel_rfl) (sp 3 (by as_aux_lemma=>kernel_rfl) (sp 3 (by as_aux_lemma=>kernel_rfl) (by as_aux_lemma=>kernel_rfl)))
theorem ok5_10:f10.all ok5=true:=sp 3 (by as_aux_lemma=>kernel_rfl) (sp 3 (by as_aux_lemma=>kernel_rfl) (by as_aux_lemma=>kernel_rfl))
end Go.Proofs.YtemgclnkgieldaaGreatDoor.Mv
