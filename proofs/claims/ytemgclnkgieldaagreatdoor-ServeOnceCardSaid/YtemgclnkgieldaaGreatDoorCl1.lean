/- What the row says of the closure. -/
import Derived.Test.YtemgclnkgieldaaGreatDoorCl2
import Derived.Test.YtemgclnkgieldaaGreatDoorCl4
import Derived.Test.YtemgclnkgieldaaGreatDoorCl5
import Derived.Test.YtemgclnkgieldaaGreatDoorRows
namespace Go.Proofs.YtemgclnkgieldaaGreatDoor.Cl
open Go
set_option maxRecDepth 100000
theorem inPlace:(Rows.serveOnceRow.inPlace == Tryz.pinned.checked.prog.inPlace 3)=true:=by
 show (Rows.serveOnceRow.inPlace == P.inPlace 3)=true
 exact zwz
theorem unfollowed:(Rows.serveOnceRow.unfollowed == Tryz.pinned.checked.prog.unfollowed 3)=true:=by
 show (Rows.serveOnceRow.unfollowed == P.unfollowed 3)=true
 rw[unf];rfl
theorem recurses:(Rows.serveOnceRow.recurses == Tryz.pinned.checked.prog.recurses 3)=true:=by
 show (Rows.serveOnceRow.recurses == P.recurses 3)=true
 unfold Program.recurses
 rw[unf];rfl
theorem named:(Rows.serveOnceRow.named == Tryz.pinned.checked.prog.varsNamed 3)=true:=by
 show (Rows.serveOnceRow.named == P.varsNamed 3)=true
 exact namedP
theorem noGoes:Tryz.pinned.checked.prog.funcs.any Func.goes=false:=zz7
theorem laidOut2:laidOutB Tryz.pinned.checked.prog=true:=laidOut
theorem mapsRowed:mapsRowed Tryz.pinned.checked.prog=true:=zrl
theorem stopsB:(Tryz.pinned.checked.prog.stops == [])=true:=zz8
theorem stopKnobsB:(Tryz.pinned.checked.prog.stopKnobs == [])=true:=zoh
theorem stopsHeard:Tryz.pinned.checked.prog.stopsHeard=true:=zoi
theorem mayEnter:Tryz.pinned.checked.prog.mayEnter=true:=zu9
end Go.Proofs.YtemgclnkgieldaaGreatDoor.Cl
