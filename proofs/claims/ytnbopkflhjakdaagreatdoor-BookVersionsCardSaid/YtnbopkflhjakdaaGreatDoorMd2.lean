/-
  The runs of known calls.
-/
import Derived.Test.YtnbopkflhjakdaaGreatDoorMd0
namespace Go.Proofs.YtnbopkflhjakdaaGreatDoor.Mv
open Go Go.RowKit CX
theorem k13_run : runH (xo noOrc) 100000 k13 = true := by kernel_rfl
theorem k13_okR : okR 6 k13 = true := by kernel_rfl
theorem k13_ok : OrcOk Tryz.prog ⟨6, noSym⟩ (orcR 6 k13) := orcR_ok (xo_ok (noOrc_ok _ _)) rfl k13_okR k13_run
theorem k14_run : runH (xo noOrc) 100000 k14 = true := by kernel_rfl
theorem k14_okR : okR 6 k14 = true := by kernel_rfl
theorem k14_ok : OrcOk Tryz.prog ⟨6, noSym⟩ (orcR 6 k14) := orcR_ok (xo_ok (noOrc_ok _ _)) rfl k14_okR k14_run
theorem k15_run : runH (xo noOrc) 100000 k15 = true := by kernel_rfl
theorem k15_okR : okR 6 k15 = true := by kernel_rfl
theorem k15_ok : OrcOk Tryz.prog ⟨6, noSym⟩ (orcR 6 k15) := orcR_ok (xo_ok (noOrc_ok _ _)) rfl k15_okR k15_run
end Go.Proofs.YtnbopkflhjakdaaGreatDoor.Mv
