/- The runs of known calls: models checked, laid, read, compared. -/
import Derived.Test.YtmejdkniafjncaaGreatDoorMq0
namespace Go.Proofs.YtmejdkniafjncaaGreatDoor.Mv
open Go Go.RowKit CX Md
theorem t3_run:runH (xo noSym noOrc) 100000 t3=true:=by kernel_rfl
theorem c4_run:runH (xo noSym noOrc) 100000 c4=true:=by kernel_rfl
theorem h4_run:runH (xo noSym noOrc) 100000 h4=true:=by kernel_rfl
theorem l4_run:runH (xo noSym noOrc) 100000 l4=true:=by kernel_rfl
theorem r4_run:runH (xo noSym noOrc) 100000 r4=true:=by kernel_rfl
theorem q4_run:runH (xo noSym noOrc) 100000 q4=true:=by kernel_rfl
theorem s4_run:runH (xo noSym noOrc) 100000 s4=true:=by kernel_rfl
theorem t4_run:runH (xo noSym noOrc) 100000 t4=true:=by kernel_rfl
theorem c5_run:runH (xo noSym noOrc) 100000 c5=true:=by kernel_rfl
theorem h5_run:runH (xo noSym noOrc) 100000 h5=true:=by kernel_rfl
theorem l5_run:runH (xo noSym noOrc) 100000 l5=true:=by kernel_rfl
theorem r5_run:runH (xo noSym noOrc) 100000 r5=true:=by kernel_rfl
theorem q5_run:runH (xo noSym noOrc) 100000 q5=true:=by kernel_rfl
end Go.Proofs.YtmejdkniafjncaaGreatDoor.Mv
