/- The runs of known calls: models checked, laid, read, compared. -/
import Derived.Test.YtmejdkniafjncaaGreatDoorMq0
namespace Go.Proofs.YtmejdkniafjncaaGreatDoor.Mv
open Go Go.RowKit CX Md
theorem r1_run:runH (xo noSym noOrc) 100000 r1=true:=by kernel_rfl
theorem q1_run:runH (xo noSym noOrc) 100000 q1=true:=by kernel_rfl
theorem s1_run:runH (xo noSym noOrc) 100000 s1=true:=by kernel_rfl
theorem t1_run:runH (xo noSym noOrc) 100000 t1=true:=by kernel_rfl
theorem c2_run:runH (xo noSym noOrc) 100000 c2=true:=by kernel_rfl
end Go.Proofs.YtmejdkniafjncaaGreatDoor.Mv
