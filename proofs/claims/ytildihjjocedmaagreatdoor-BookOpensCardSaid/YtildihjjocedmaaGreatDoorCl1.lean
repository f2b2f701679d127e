/- What the row says of the closure. -/
import Derived.Test.YtildihjjocedmaaGreatDoorCl2
import Derived.Test.YtildihjjocedmaaGreatDoorCl4
import Derived.Test.YtildihjjocedmaaGreatDoorCl5
import Derived.Test.YtildihjjocedmaaGreatDoorRows
namespace Go.Proofs.YtildihjjocedmaaGreatDoor.Cl
open Go
set_option maxRecDepth 100000
theorem inPlace:(Rows.bookOpensRow.inPlace == Tryz.pinned.checked.prog.inPlace 3)=true:=by
 show (Rows.bookOpensRow.inPlace == P.inPlace 3)=true
 exact zu6
theorem unfollowed:(Rows.bookOpensRow.unfollowed == Tryz.pinned.checked.prog.unfollowed 3)=true:=by
 show (Rows.bookOpensRow.unfollowed == P.unfollowed 3)=true
 rw[unf];rfl
theorem recurses:(Rows.bookOpensRow.recurses == Tryz.pinned.checked.prog.recurses 3)=true:=by
 show (Rows.bookOpensRow.recurses == P.recurses 3)=true
 unfold Program.recurses
 rw[unf];rfl
theorem named:(Rows.bookOpensRow.named == Tryz.pinned.checked.prog.varsNamed 3)=true:=by
 show (Rows.bookOpensRow.named == P.varsNamed 3)=true
 exact namedP
theorem noGoes:Tryz.pinned.checked.prog.funcs.any Func.goes=false:=zym
theorem laidOut2:laidOutB Tryz.pinned.checked.prog=true:=laidOut
theorem mapsRowed:mapsRowed Tryz.pinned.checked.prog=true:=zqg
theorem stopsB:(Tryz.pinned.checked.prog.stops == [])=true:=zyn
theorem stopKnobsB:(Tryz.pinned.checked.prog.stopKnobs == [])=true:=zn4
theorem stopsHeard:Tryz.pinned.checked.prog.stopsHeard=true:=zn5
theorem mayEnter:Tryz.pinned.checked.prog.mayEnter=true:=zto
end Go.Proofs.YtildihjjocedmaaGreatDoor.Cl
