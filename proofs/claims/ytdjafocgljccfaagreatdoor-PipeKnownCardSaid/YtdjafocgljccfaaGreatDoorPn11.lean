/-
  The runs of known calls.
-/
import Derived.Test.YtdjafocgljccfaaGreatDoorPn0
namespace Go.Proofs.YtdjafocgljccfaaGreatDoor.Kw
open Go Go.RowKit CX
theorem k19_run : runH (xo noOrc) 100000 k19 = true := by kernel_rfl
theorem k19_ok : OrcOk Tryz.prog ⟨8, noSym⟩ (orcH k19) := orcH_ok (xo_ok (noOrc_ok _ _)) k19_run
theorem k20_run : runH (xo noOrc) 100000 k20 = true := by kernel_rfl
theorem k20_ok : OrcOk Tryz.prog ⟨8, noSym⟩ (orcH k20) := orcH_ok (xo_ok (noOrc_ok _ _)) k20_run
end Go.Proofs.YtdjafocgljccfaaGreatDoor.Kw
