/- What the row says of the closure. -/
import Derived.Test.YtecaggbepjoaiaaGreatDoorCl2
import Derived.Test.YtecaggbepjoaiaaGreatDoorCl4
import Derived.Test.YtecaggbepjoaiaaGreatDoorCl5
import Derived.Test.YtecaggbepjoaiaaGreatDoorRows
namespace Go.Proofs.YtecaggbepjoaiaaGreatDoor.Cl
open Go
set_option maxRecDepth 100000
theorem inPlace:(Rows.bookPlaysRow.inPlace == Tryz.pinned.checked.prog.inPlace 3)=true:=by
 show (Rows.bookPlaysRow.inPlace == P.inPlace 3)=true
 exact zwq
theorem unfollowed:(Rows.bookPlaysRow.unfollowed == Tryz.pinned.checked.prog.unfollowed 3)=true:=by
 show (Rows.bookPlaysRow.unfollowed == P.unfollowed 3)=true
 rw[unf];rfl
theorem recurses:(Rows.bookPlaysRow.recurses == Tryz.pinned.checked.prog.recurses 3)=true:=by
 show (Rows.bookPlaysRow.recurses == P.recurses 3)=true
 unfold Program.recurses
 rw[unf];rfl
theorem named:(Rows.bookPlaysRow.named == Tryz.pinned.checked.prog.varsNamed 3)=true:=by
 show (Rows.bookPlaysRow.named == P.varsNamed 3)=true
 exact namedP
theorem noGoes:Tryz.pinned.checked.prog.funcs.any Func.goes=false:=zzs
theorem laidOut2:laidOutB Tryz.pinned.checked.prog=true:=laidOut
theorem mapsRowed:mapsRowed Tryz.pinned.checked.prog=true:=zrk
theorem stopsB:(Tryz.pinned.checked.prog.stops == [])=true:=zzt
theorem stopKnobsB:(Tryz.pinned.checked.prog.stopKnobs == [])=true:=zo5
theorem stopsHeard:Tryz.pinned.checked.prog.stopsHeard=true:=zo6
theorem mayEnter:Tryz.pinned.checked.prog.mayEnter=true:=zvc
end Go.Proofs.YtecaggbepjoaiaaGreatDoor.Cl
