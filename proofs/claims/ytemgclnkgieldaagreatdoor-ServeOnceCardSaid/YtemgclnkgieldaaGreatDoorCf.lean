/- ServeOnce: the closed facts of its row, one by one. -/
import Derived.Test.YtemgclnkgieldaaGreatDoorCl1
set_option maxHeartbeats 2000000
namespace Go.Proofs.YtemgclnkgieldaaGreatDoor
open Go
set_option maxRecDepth 100000
theorem closedFacts:joinedFacts Tryz.pinned.checked.prog 3 Tryz.f3 (OpenSpec.ofChange Rows.serveOnceSpec).bare Rows.serveOnceRow=true:=by
 unfold joinedFacts
 repeat' (with_reducible refine Cl.band ?_ ?_)
 all_goals first
  |with_reducible exact Cl.mapsRowed
  |with_reducible exact Cl.stopsB
  |with_reducible exact Cl.stopKnobsB
  |with_reducible exact Cl.stopsHeard
  |with_reducible exact Cl.mayEnter
  |with_reducible exact Cl.inPlace
  |with_reducible exact Cl.unfollowed
  |with_reducible exact Cl.recurses
  |with_reducible exact Cl.named
  |with_reducible exact Cl.laidOut2
  |(as_aux_lemma=>kernel_rfl)
end Go.Proofs.YtemgclnkgieldaaGreatDoor
