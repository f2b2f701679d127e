/- The runs of known calls: models checked, laid, read, compared. -/
import Derived.Test.YtmejdkniafjncaaGreatDoorMq0
namespace Go.Proofs.YtmejdkniafjncaaGreatDoor.Mv
open Go Go.RowKit CX Md
theorem h2_run:runH (xo noSym noOrc) 100000 h2=true:=by kernel_rfl
theorem l2_run:runH (xo noSym noOrc) 100000 l2=true:=by kernel_rfl
theorem r2_run:runH (xo noSym noOrc) 100000 r2=true:=by kernel_rfl
theorem q2_run:runH (xo noSym noOrc) 100000 q2=true:=by kernel_rfl
end Go.Proofs.YtmejdkniafjncaaGreatDoor.Mv
