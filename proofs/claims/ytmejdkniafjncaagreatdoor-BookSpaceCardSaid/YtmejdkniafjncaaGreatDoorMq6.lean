/- The runs of known calls: models checked, laid, read, compared. -/
import Derived.Test.YtmejdkniafjncaaGreatDoorMq0
namespace Go.Proofs.YtmejdkniafjncaaGreatDoor.Mv
open Go Go.RowKit CX Md
theorem s5_run:runH (xo noSym noOrc) 100000 s5=true:=by kernel_rfl
theorem t5_run:runH (xo noSym noOrc) 100000 t5=true:=by kernel_rfl
theorem c6_run:runH (xo noSym noOrc) 100000 c6=true:=by kernel_rfl
theorem h6_run:runH (xo noSym noOrc) 100000 h6=true:=by kernel_rfl
theorem l6_run:runH (xo noSym noOrc) 100000 l6=true:=by kernel_rfl
theorem r6_run:runH (xo noSym noOrc) 100000 r6=true:=by kernel_rfl
theorem q6_run:runH (xo noSym noOrc) 100000 q6=true:=by kernel_rfl
theorem s6_run:runH (xo noSym noOrc) 100000 s6=true:=by kernel_rfl
theorem t6_run:runH (xo noSym noOrc) 100000 t6=true:=by kernel_rfl
theorem c7_run:runH (xo noSym noOrc) 100000 c7=true:=by kernel_rfl
theorem h7_run:runH (xo noSym noOrc) 100000 h7=true:=by kernel_rfl
end Go.Proofs.YtmejdkniafjncaaGreatDoor.Mv
