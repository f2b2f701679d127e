/- The runs of known calls: models checked, laid, read. -/
import Derived.Test.YtemgclnkgieldaaGreatDoorMq0
namespace Go.Proofs.YtemgclnkgieldaaGreatDoor.Mv
open Go Go.RowKit CX Md
theorem zw3:runH (xo noSym noOrc) 100000 c1=true:=by kernel_rfl
theorem l1_run:runH (xo noSym noOrc) 100000 l1=true:=by kernel_rfl
theorem r1_run:runH (xo noSym noOrc) 100000 r1=true:=by kernel_rfl
theorem q1_run:runH (xo noSym noOrc) 100000 q1=true:=by kernel_rfl
theorem zw4:runH (xo noSym noOrc) 100000 c3=true:=by kernel_rfl
theorem l3_run:runH (xo noSym noOrc) 100000 l3=true:=by kernel_rfl
theorem r3_run:runH (xo noSym noOrc) 100000 r3=true:=by kernel_rfl
theorem q3_run:runH (xo noSym noOrc) 100000 q3=true:=by kernel_rfl
theorem zw5:runH (xo noSym noOrc) 100000 c5=true:=by kernel_rfl
theorem l5_run:runH (xo noSym noOrc) 100000 l5=true:=by kernel_rfl
theorem r5_run:runH (xo noSym noOrc) 100000 r5=true:=by kernel_rfl
theorem q5_run:runH (xo noSym noOrc) 100000 q5=true:=by kernel_rfl
end Go.Proofs.YtemgclnkgieldaaGreatDoor.Mv
