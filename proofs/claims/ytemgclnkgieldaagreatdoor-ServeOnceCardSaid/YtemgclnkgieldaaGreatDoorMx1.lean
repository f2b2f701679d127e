/- Checks of fractions: runs. -/
import Derived.Test.YtemgclnkgieldaaGreatDoorMwa
namespace Go.Proofs.YtemgclnkgieldaaGreatDoor.Mv
open Go Go.RowKit CX Md
set_option maxHeartbeats 100000000
theorem ok1_0:f0.all ok1=true:=sp 4 (by as_aux_lemma=>kernel_rfl) (sp 4 (by as_aux_lemma=>kernel_rfl) (by as_aux_lemma=>kernel_rfl))
theorem ok1_1:f1.all ok1=true:=sp 4 (by as_aux_lemma=>kernel_rfl) (sp 4 (by as_aux_lemma=>kernel_rfl) (by as_aux_lemma=>kernel_rfl))
theorem ok1_2:f2.all ok1=true:=sp 4 (by as_aux_lemma=>kernel_rfl) (sp 4 (by as_aux_lemma=>kernel_rfl) (by as_aux_lemma=>kernel_rfl))
theorem ok1_3:f3.all ok1=true:=sp 4 (by as_aux_lemma=>kernel_rfl) (sp 4 (by as_aux_lemma=>kernel_rfl) (by as_aux_lemma=>kernel_rfl))
theorem ok1_4:f4.all ok1=true:=sp 4 (by as_aux_lemma=>kernel_rfl) (sp 4 (by as_aux_lemma=>kernel_rfl) (by as_aux_lemma=>kernel_rfl))
theorem ok1_5:f5.all ok1=true:=sp 4 (by as_aux_lemma=>kernel_rfl) (sp 4 (by as_aux_lemma=>kernel_rfl) (by as_aux_lemma=>kernel_rfl))
theorem ok1_6:f6.all ok1=true:=sp 4 (by as_aux_lemma=>kernel_rfl) (sp 4 (by as_aux_lemma=>kernel_rfl) (by as_aux_lemma=>kernel_rfl))
theorem ok1_7:f7.all ok1=true:=sp 4 (by as_aux_lemma=>kernel_rfl) (sp 4 (by as_aux_lemma=>kernel_rfl) (by as_aux_lemma=>kernel_rfl))
theorem ok1_8:f8.all ok1=true:=sp 4 (by as_aux_lemma=>kernel_rfl) (sp 4 (by as_aux_lemma=>kernel_rfl) (by as_aux_lemma=>kernel_rfl))
theorem ok1_9:f9.all ok1=true:=sp 4 (by as_aux_lemma=>kernel_rfl) (sp 4 (by as_aux_lemma=>kernel_rfl) (by as_aux_lemma=>kernel_rfl))
theorem ok1_10:f10.all ok1=true:=sp 4 (by as_aux_lemma=>kernel_rfl) (sp 4 (by as_aux_lemma=>kernel_rfl) (by as_aux_lemma=>kernel_rfl))
end Go.Proofs.YtemgclnkgieldaaGreatDoor.Mv
