/-
  The runs of known calls.
-/
import Derived.Test.YtdjafocgljccfaaGreatDoorPn0
namespace Go.Proofs.YtdjafocgljccfaaGreatDoor.Kw
open Go Go.RowKit CX
theorem k32_run : runH (xo noOrc) 100000 k32 = true := by kernel_rfl
theorem k32_ok : OrcOk Tryz.prog ⟨8, noSym⟩ (orcH k32) := orcH_ok (xo_ok (noOrc_ok _ _)) k32_run
theorem k33_run : runH (xo noOrc) 100000 k33 = true := by kernel_rfl
theorem k33_ok : OrcOk Tryz.prog ⟨8, noSym⟩ (orcH k33) := orcH_ok (xo_ok (noOrc_ok _ _)) k33_run
theorem k34_run : runH (xo noOrc) 100000 k34 = true := by kernel_rfl
theorem k34_ok : OrcOk Tryz.prog ⟨8, noSym⟩ (orcH k34) := orcH_ok (xo_ok (noOrc_ok _ _)) k34_run
theorem k35_run : runH (xo noOrc) 100000 k35 = true := by kernel_rfl
theorem k35_ok : OrcOk Tryz.prog ⟨8, noSym⟩ (orcH k35) := orcH_ok (xo_ok (noOrc_ok _ _)) k35_run
theorem k36_run : runH (xo noOrc) 100000 k36 = true := by kernel_rfl
theorem k36_ok : OrcOk Tryz.prog ⟨8, noSym⟩ (orcH k36) := orcH_ok (xo_ok (noOrc_ok _ _)) k36_run
theorem k37_run : runH (xo noOrc) 100000 k37 = true := by kernel_rfl
theorem k37_ok : OrcOk Tryz.prog ⟨8, noSym⟩ (orcH k37) := orcH_ok (xo_ok (noOrc_ok _ _)) k37_run
theorem k38_run : runH (xo noOrc) 100000 k38 = true := by kernel_rfl
theorem k38_ok : OrcOk Tryz.prog ⟨8, noSym⟩ (orcH k38) := orcH_ok (xo_ok (noOrc_ok _ _)) k38_run
theorem k39_run : runH (xo noOrc) 100000 k39 = true := by kernel_rfl
theorem k39_ok : OrcOk Tryz.prog ⟨8, noSym⟩ (orcH k39) := orcH_ok (xo_ok (noOrc_ok _ _)) k39_run
theorem k40_run : runH (xo noOrc) 100000 k40 = true := by kernel_rfl
theorem k40_ok : OrcOk Tryz.prog ⟨8, noSym⟩ (orcH k40) := orcH_ok (xo_ok (noOrc_ok _ _)) k40_run
theorem k41_run : runH (xo noOrc) 100000 k41 = true := by kernel_rfl
theorem k41_ok : OrcOk Tryz.prog ⟨8, noSym⟩ (orcH k41) := orcH_ok (xo_ok (noOrc_ok _ _)) k41_run
theorem k42_run : runH (xo noOrc) 100000 k42 = true := by kernel_rfl
theorem k42_ok : OrcOk Tryz.prog ⟨8, noSym⟩ (orcH k42) := orcH_ok (xo_ok (noOrc_ok _ _)) k42_run
theorem k43_run : runH (xo noOrc) 100000 k43 = true := by kernel_rfl
theorem k43_ok : OrcOk Tryz.prog ⟨8, noSym⟩ (orcH k43) := orcH_ok (xo_ok (noOrc_ok _ _)) k43_run
theorem k44_run : runH (xo noOrc) 100000 k44 = true := by kernel_rfl
theorem k44_ok : OrcOk Tryz.prog ⟨8, noSym⟩ (orcH k44) := orcH_ok (xo_ok (noOrc_ok _ _)) k44_run
theorem k45_run : runH (xo noOrc) 100000 k45 = true := by kernel_rfl
theorem k45_ok : OrcOk Tryz.prog ⟨8, noSym⟩ (orcH k45) := orcH_ok (xo_ok (noOrc_ok _ _)) k45_run
theorem k46_run : runH (xo noOrc) 100000 k46 = true := by kernel_rfl
theorem k46_ok : OrcOk Tryz.prog ⟨8, noSym⟩ (orcH k46) := orcH_ok (xo_ok (noOrc_ok _ _)) k46_run
theorem k47_run : runH (xo noOrc) 100000 k47 = true := by kernel_rfl
theorem k47_ok : OrcOk Tryz.prog ⟨8, noSym⟩ (orcH k47) := orcH_ok (xo_ok (noOrc_ok _ _)) k47_run
end Go.Proofs.YtdjafocgljccfaaGreatDoor.Kw
