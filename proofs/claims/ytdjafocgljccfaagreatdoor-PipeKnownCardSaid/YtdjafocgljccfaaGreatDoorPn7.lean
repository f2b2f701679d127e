/-
  The runs of known calls.
-/
import Derived.Test.YtdjafocgljccfaaGreatDoorPn0
namespace Go.Proofs.YtdjafocgljccfaaGreatDoor.Kw
open Go Go.RowKit CX
theorem k9_run : runH (xo noOrc) 100000 k9 = true := by kernel_rfl
theorem k9_ok : OrcOk Tryz.prog ⟨8, noSym⟩ (orcH k9) := orcH_ok (xo_ok (noOrc_ok _ _)) k9_run
theorem k10_run : runH (xo noOrc) 100000 k10 = true := by kernel_rfl
theorem k10_ok : OrcOk Tryz.prog ⟨8, noSym⟩ (orcH k10) := orcH_ok (xo_ok (noOrc_ok _ _)) k10_run
theorem k11_run : runH (xo noOrc) 100000 k11 = true := by kernel_rfl
theorem k11_ok : OrcOk Tryz.prog ⟨8, noSym⟩ (orcH k11) := orcH_ok (xo_ok (noOrc_ok _ _)) k11_run
theorem k12_run : runH (xo noOrc) 100000 k12 = true := by kernel_rfl
theorem k12_ok : OrcOk Tryz.prog ⟨8, noSym⟩ (orcH k12) := orcH_ok (xo_ok (noOrc_ok _ _)) k12_run
theorem k13_run : runH (xo noOrc) 100000 k13 = true := by kernel_rfl
theorem k13_ok : OrcOk Tryz.prog ⟨8, noSym⟩ (orcH k13) := orcH_ok (xo_ok (noOrc_ok _ _)) k13_run
theorem k14_run : runH (xo noOrc) 100000 k14 = true := by kernel_rfl
theorem k14_ok : OrcOk Tryz.prog ⟨8, noSym⟩ (orcH k14) := orcH_ok (xo_ok (noOrc_ok _ _)) k14_run
theorem k15_run : runH (xo noOrc) 100000 k15 = true := by kernel_rfl
theorem k15_ok : OrcOk Tryz.prog ⟨8, noSym⟩ (orcH k15) := orcH_ok (xo_ok (noOrc_ok _ _)) k15_run
end Go.Proofs.YtdjafocgljccfaaGreatDoor.Kw
