/- The ties of this seat. -/
import Derived.Test.YtemgclnkgieldaaGreatDoorRows
import Derived.Test.YtemgclnkgieldaaGreatDoorTy0
namespace Go.Proofs.YtemgclnkgieldaaGreatDoor
open Go
set_option maxRecDepth 100000
theorem pin_laid_unicode_utf8_first:Tryz.pinned.checked.prog.pinnedFits "unicode/utf8.first" = true:=Ty0.pin_laid_unicode_utf8_first
theorem noOwnUnsafe:Tryz.pinned.checked.prog.headLifts.contains "ownunsafe" = false:=Ty0.noOwnUnsafe
theorem fits1:Tryz.pinned.checked.prog.listedFits [("math/bits.deBruijn64tab",Rows.laid_math_bits_deBruijn64tab),("unicode/utf8.acceptRanges",Rows.laid_unicode_utf8_acceptRanges),("unicode/utf8.first",Rows.laid_unicode_utf8_first)]=true:=Ty0.fits1
theorem tie:Tryz.prog.laidByTextLater [("math/bits.deBruijn64tab",Rows.laid_math_bits_deBruijn64tab),("unicode/utf8.acceptRanges",Rows.laid_unicode_utf8_acceptRanges)] [.data,.data] true:=Ty0.tie
theorem zgk:Rows.serveOnceRow.laidByTextAt .later Tryz.pinned [.data,.data,.pinned] true :=
 OpenClaim.laidByTextAt_pinned rfl rfl tie rfl rfl rfl rfl (fun y hy _e=>by
  simp only[Rows.serveOnceRow,List.zip_cons_cons,List.zip_nil_right,List.mem_cons,List.mem_nil_iff,or_false] at hy
  rcases hy with rfl|rfl|rfl
  ·cases _e
  ·cases _e
  ·exact ⟨pin_laid_unicode_utf8_first,by as_aux_lemma=>kernel_rfl⟩) fits1
end Go.Proofs.YtemgclnkgieldaaGreatDoor
