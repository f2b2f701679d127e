/-
  The run of a known call.
-/
import Derived.Test.YtegdmcbjaihejaaGreatDoorCk0
namespace Go.Proofs.YtegdmcbjaihejaaGreatDoor.Kw
open Go Go.RowKit CX
theorem k3_run : runH X0 100000 k3 = true := by kernel_rfl
end Go.Proofs.YtegdmcbjaihejaaGreatDoor.Kw
