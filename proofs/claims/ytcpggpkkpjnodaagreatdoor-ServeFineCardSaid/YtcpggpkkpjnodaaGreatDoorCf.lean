/-
  ServeFine: the closed facts of its row, one by one.
-/
import Derived.Test.YtcpggpkkpjnodaaGreatDoorRows
import Derived.JoinedCond
import Derived.KernelRfl
namespace Go.Proofs.YtcpggpkkpjnodaaGreatDoor
open Go
theorem band {a b : Bool} (ha : a = true) (hb : b = true) : (a && b) = true := by rw [ha, hb]; rfl
set_option maxRecDepth 100000
set_option maxHeartbeats 2000000 in
theorem closedFacts : joinedFacts Tryz.pinned.checked.prog 3 Tryz.f3 (OpenSpec.ofChange Rows.serveFineSpec).bare Rows.serveFineRow = true := by
  unfold joinedFacts
  repeat' (with_reducible refine band ?_ ?_)
  all_goals (as_aux_lemma => kernel_rfl)
end Go.Proofs.YtcpggpkkpjnodaaGreatDoor
