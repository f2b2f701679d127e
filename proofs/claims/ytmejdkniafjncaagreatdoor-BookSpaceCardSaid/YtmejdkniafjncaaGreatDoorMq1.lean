/- The runs of known calls: models checked, laid, read, compared. -/
import Derived.Test.YtmejdkniafjncaaGreatDoorMq0
namespace Go.Proofs.YtmejdkniafjncaaGreatDoor.Mv
open Go Go.RowKit CX Md
theorem c0_run:runH (xo noSym noOrc) 100000 c0=true:=by kernel_rfl
theorem h0_run:runH (xo noSym noOrc) 100000 h0=true:=by kernel_rfl
theorem l0_run:runH (xo noSym noOrc) 100000 l0=true:=by kernel_rfl
theorem r0_run:runH (xo noSym noOrc) 100000 r0=true:=by kernel_rfl
theorem q0_run:runH (xo noSym noOrc) 100000 q0=true:=by kernel_rfl
theorem s0_run:runH (xo noSym noOrc) 100000 s0=true:=by kernel_rfl
theorem t0_run:runH (xo noSym noOrc) 100000 t0=true:=by kernel_rfl
theorem c1_run:runH (xo noSym noOrc) 100000 c1=true:=by kernel_rfl
theorem h1_run:runH (xo noSym noOrc) 100000 h1=true:=by kernel_rfl
theorem l1_run:runH (xo noSym noOrc) 100000 l1=true:=by kernel_rfl
end Go.Proofs.YtmejdkniafjncaaGreatDoor.Mv
