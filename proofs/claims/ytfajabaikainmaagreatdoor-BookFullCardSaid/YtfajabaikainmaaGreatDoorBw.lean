/-
  BookFull: both of its halves.
-/
import Derived.Test.YtfajabaikainmaaGreatDoorFt
import Derived.Test.YtfajabaikainmaaGreatDoorFf
namespace Go.Proofs.YtfajabaikainmaaGreatDoor.bookFull
open Go Go.RowKit
theorem walk (a0 : Int) (a1 : Bool) (w : World) (_w0 : (Lit.int .i64 a0).wf = true) : Calls Tryz.prog 3 #[.int .i64 a0, .bool a1] w fun e w' => e = .returned (.bool true) ∧ Below w.heap.size w w' := by
  cases a1
  · exact Kf.walk a0 w
  · exact Kt.walk a0 w
end Go.Proofs.YtfajabaikainmaaGreatDoor.bookFull
