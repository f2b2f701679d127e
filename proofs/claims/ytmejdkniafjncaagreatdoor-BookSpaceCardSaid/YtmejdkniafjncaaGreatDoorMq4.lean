/- The runs of known calls: models checked, laid, read, compared. -/
import Derived.Test.YtmejdkniafjncaaGreatDoorMq0
namespace Go.Proofs.YtmejdkniafjncaaGreatDoor.Mv
open Go Go.RowKit CX Md
theorem s2_run:runH (xo noSym noOrc) 100000 s2=true:=by kernel_rfl
theorem t2_run:runH (xo noSym noOrc) 100000 t2=true:=by kernel_rfl
theorem c3_run:runH (xo noSym noOrc) 100000 c3=true:=by kernel_rfl
theorem h3_run:runH (xo noSym noOrc) 100000 h3=true:=by kernel_rfl
theorem l3_run:runH (xo noSym noOrc) 100000 l3=true:=by kernel_rfl
theorem r3_run:runH (xo noSym noOrc) 100000 r3=true:=by kernel_rfl
theorem q3_run:runH (xo noSym noOrc) 100000 q3=true:=by kernel_rfl
theorem s3_run:runH (xo noSym noOrc) 100000 s3=true:=by kernel_rfl
end Go.Proofs.YtmejdkniafjncaaGreatDoor.Mv
