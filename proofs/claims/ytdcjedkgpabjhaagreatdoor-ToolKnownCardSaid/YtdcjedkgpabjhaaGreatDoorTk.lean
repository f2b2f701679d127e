/-
  The law's run.
-/
import Derived.Test.YtdcjedkgpabjhaaGreatDoorTk1
import Derived.Test.YtdcjedkgpabjhaaGreatDoorTk2
import Derived.Test.YtdcjedkgpabjhaaGreatDoorTk3
import Derived.Test.YtdcjedkgpabjhaaGreatDoorTk4
import Derived.Test.YtdcjedkgpabjhaaGreatDoorTk5
import Derived.Test.YtdcjedkgpabjhaaGreatDoorTk6
import Derived.Test.YtdcjedkgpabjhaaGreatDoorTk7
import Derived.Test.YtdcjedkgpabjhaaGreatDoorTk8
import Derived.Test.YtdcjedkgpabjhaaGreatDoorTk9
import Derived.Test.YtdcjedkgpabjhaaGreatDoorTk10
import Derived.Test.YtdcjedkgpabjhaaGreatDoorTb
namespace Go.Proofs.YtdcjedkgpabjhaaGreatDoor.Kw
open Go Go.RowKit CX
theorem law_ok : (xo noSym (orcOr (orcH k0) (orcOr (orcH k2) (orcOr (orcH k4) (orcOr (orcH k5) (orcOr (orcH k6) (orcOr (orcH k8) (orcOr (orcH k10) (orcOr (orcH k11) (orcOr (orcH k12) (orcOr (orcH k13) (orcOr (orcH k14) (orcOr (orcH k15) (orcOr (orcH k16) (orcOr (orcR 8 k18) (orcOr (orcR 8 k19) (orcOr (orcH k21) (orcOr (orcH k22) (orcOr (orcH k25) (orcOr (orcH k27) (orcOr (orcH k29) (orcOr (orcH k31) (orcOr (orcH k32) (orcOr (orcH k34) (orcOr (orcR 8 k35) (orcOr (orcR 8 k36) (orcOr (orcR 8 k37) (orcOr (orcH k39) (orcOr (orcH k42) (orcOr (orcH k43) (orcOr (orcH k44) (orcOr (orcH k45) (orcOr (orcH k46) (orcOr (orcH k48) (orcOr (orcH k51) (orcOr (orcH k52) (orcOr (orcH k54) (orcOr (orcH k56) (orcOr (orcH k59) (orcOr (orcH k60) (orcOr (orcH k61) (orcOr (orcH k63) (orcOr (orcH k65) (orcOr (orcH k66) (orcOr (orcH k67) (orcOr (orcH k68) (orcOr (orcH k69) (orcOr (orcH k70) (orcOr (orcH k71) (orcOr (orcH k72) (orcOr (orcH k73) noOrc))))))))))))))))))))))))))))))))))))))))))))))))))).Ok := xo_ok (orcOr_ok (k0_ok noSym) (orcOr_ok (k2_ok noSym) (orcOr_ok (k4_ok noSym) (orcOr_ok (k5_ok noSym) (orcOr_ok (k6_ok noSym) (orcOr_ok (k8_ok noSym) (orcOr_ok (k10_ok noSym) (orcOr_ok (k11_ok noSym) (orcOr_ok (k12_ok noSym) (orcOr_ok (k13_ok noSym) (orcOr_ok (k14_ok noSym) (orcOr_ok (k15_ok noSym) (orcOr_ok (k16_ok noSym) (orcOr_ok (k18_ok noSym) (orcOr_ok (k19_ok noSym) (orcOr_ok (k21_ok noSym) (orcOr_ok (k22_ok noSym) (orcOr_ok (k25_ok noSym) (orcOr_ok (k27_ok noSym) (orcOr_ok (k29_ok noSym) (orcOr_ok (k31_ok noSym) (orcOr_ok (k32_ok noSym) (orcOr_ok (k34_ok noSym) (orcOr_ok (k35_ok noSym) (orcOr_ok (k36_ok noSym) (orcOr_ok (k37_ok noSym) (orcOr_ok (k39_ok noSym) (orcOr_ok (k42_ok noSym) (orcOr_ok (k43_ok noSym) (orcOr_ok (k44_ok noSym) (orcOr_ok (k45_ok noSym) (orcOr_ok (k46_ok noSym) (orcOr_ok (k48_ok noSym) (orcOr_ok (k51_ok noSym) (orcOr_ok (k52_ok noSym) (orcOr_ok (k54_ok noSym) (orcOr_ok (k56_ok noSym) (orcOr_ok (k59_ok noSym) (orcOr_ok (k60_ok noSym) (orcOr_ok (k61_ok noSym) (orcOr_ok (k63_ok noSym) (orcOr_ok (k65_ok noSym) (orcOr_ok (k66_ok noSym) (orcOr_ok (k67_ok noSym) (orcOr_ok (k68_ok noSym) (orcOr_ok (k69_ok noSym) (orcOr_ok (k70_ok noSym) (orcOr_ok (k71_ok noSym) (orcOr_ok (k72_ok noSym) (orcOr_ok (k73_ok noSym) (noOrc_ok _ _)))))))))))))))))))))))))))))))))))))))))))))))))))
theorem law_run : gives1T (xo noSym (orcOr (orcH k0) (orcOr (orcH k2) (orcOr (orcH k4) (orcOr (orcH k5) (orcOr (orcH k6) (orcOr (orcH k8) (orcOr (orcH k10) (orcOr (orcH k11) (orcOr (orcH k12) (orcOr (orcH k13) (orcOr (orcH k14) (orcOr (orcH k15) (orcOr (orcH k16) (orcOr (orcR 8 k18) (orcOr (orcR 8 k19) (orcOr (orcH k21) (orcOr (orcH k22) (orcOr (orcH k25) (orcOr (orcH k27) (orcOr (orcH k29) (orcOr (orcH k31) (orcOr (orcH k32) (orcOr (orcH k34) (orcOr (orcR 8 k35) (orcOr (orcR 8 k36) (orcOr (orcR 8 k37) (orcOr (orcH k39) (orcOr (orcH k42) (orcOr (orcH k43) (orcOr (orcH k44) (orcOr (orcH k45) (orcOr (orcH k46) (orcOr (orcH k48) (orcOr (orcH k51) (orcOr (orcH k52) (orcOr (orcH k54) (orcOr (orcH k56) (orcOr (orcH k59) (orcOr (orcH k60) (orcOr (orcH k61) (orcOr (orcH k63) (orcOr (orcH k65) (orcOr (orcH k66) (orcOr (orcH k67) (orcOr (orcH k68) (orcOr (orcH k69) (orcOr (orcH k70) (orcOr (orcH k71) (orcOr (orcH k72) (orcOr (orcH k73) noOrc))))))))))))))))))))))))))))))))))))))))))))))))))) 100000 3 1 749 pow10 (.bool true) = true := by kernel_rfl
end Go.Proofs.YtdcjedkgpabjhaaGreatDoor.Kw
namespace Go.Proofs.YtdcjedkgpabjhaaGreatDoor.toolKnown
open Go Go.RowKit
theorem walk (w : World) (hw : w.heap[1]? = some (.cells ⟨CX.pow10⟩ 749)) : Calls Tryz.prog 3 #[] w fun e w' => e = .returned (.bool true) ∧ Below w.heap.size w w' :=
  CX.gives1T_run Kw.law_ok CX.noSym_one Kw.law_run (by decide) rfl rfl w hw
end Go.Proofs.YtdcjedkgpabjhaaGreatDoor.toolKnown
