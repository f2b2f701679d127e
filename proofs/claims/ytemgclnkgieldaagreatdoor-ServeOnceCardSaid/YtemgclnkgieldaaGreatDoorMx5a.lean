/- Checks of fractions: runs. -/
import Derived.Test.YtemgclnkgieldaaGreatDoorMwa
namespace Go.Proofs.YtemgclnkgieldaaGreatDoor.Mv
open Go Go.RowKit CX Md
set_option maxHeartbeats 100000000
theorem ok5_0:f0.all ok5=true:=sp 3 (by as_aux_lemma=>kernel_rfl) (sp 3 (by as_aux_lemma=>kernel_rfl) (sp 3 (by as_aux_lemma=>kernel_rfl) (by as_aux_lemma=>kernel_rfl)))
theorem ok5_1:f1.all ok5=true:=sp 3 (by as_aux_lemma=>kernel_rfl) (sp 3 (by as_aux_lemma=>kernel_rfl) (sp 3 (by as_aux_lemma=>kernel_rfl) (by as_aux_lemma=>kernel_rfl)))
theorem ok5_2:f2.all ok5=true:=sp 3 (by as_aux_lemma=>kernel_rfl) (sp 3 (by as_aux_lemma=>kernel_rfl) (sp 3 (by as_aux_lemma=>kernel_rfl) (by as_aux_lemma=>kernel_rfl)))
theorem ok5_3:f3.all ok5=true:=sp 3 (by as_aux_lemma=>kernel_rfl) (sp 3 (by as_aux_lemma=>kernel_rfl) (sp 3 (by as_aux_lemma=>kernel_rfl) (by as_aux_lemma=>kernel_rfl)))
theorem ok5_4:f4.all ok5=true:=sp 3 (by as_aux_lemma=>kernel_rfl) (sp 3 (by as_aux_lemma=>kernel_rfl) (sp 3 (by as_aux_lemma=>kernel_rfl) (by as_aux_lemma=>kernel_rfl)))
theorem ok5_5:f5.all ok5=true:=sp 3 (by as_aux_lemma=>kernel_rfl) (sp 3 (by as_aux_lemma=>kernel_rfl) (sp 3 (by as_aux_lemma=>kernel_rfl) (by as_aux_lemma=>kernel_rfl)))
end Go.Proofs.YtemgclnkgieldaaGreatDoor.Mv
