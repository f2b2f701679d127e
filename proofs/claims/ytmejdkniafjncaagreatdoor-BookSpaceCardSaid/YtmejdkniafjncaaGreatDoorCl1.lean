/- What the row says of the closure. -/
import Derived.Test.YtmejdkniafjncaaGreatDoorCl2
import Derived.Test.YtmejdkniafjncaaGreatDoorCl4
import Derived.Test.YtmejdkniafjncaaGreatDoorCl5
import Derived.Test.YtmejdkniafjncaaGreatDoorRows
namespace Go.Proofs.YtmejdkniafjncaaGreatDoor.Cl
open Go
set_option maxRecDepth 100000
theorem inPlace:(Rows.bookSpaceRow.inPlace == Tryz.pinned.checked.prog.inPlace 3)=true:=by
 show (Rows.bookSpaceRow.inPlace == P.inPlace 3)=true
 exact zvl
theorem unfollowed:(Rows.bookSpaceRow.unfollowed == Tryz.pinned.checked.prog.unfollowed 3)=true:=by
 show (Rows.bookSpaceRow.unfollowed == P.unfollowed 3)=true
 rw[unf];rfl
theorem recurses:(Rows.bookSpaceRow.recurses == Tryz.pinned.checked.prog.recurses 3)=true:=by
 show (Rows.bookSpaceRow.recurses == P.recurses 3)=true
 unfold Program.recurses
 rw[unf];rfl
theorem named:(Rows.bookSpaceRow.named == Tryz.pinned.checked.prog.varsNamed 3)=true:=by
 show (Rows.bookSpaceRow.named == P.varsNamed 3)=true
 exact namedP
theorem noGoes:Tryz.pinned.checked.prog.funcs.any Func.goes=false:=zy7
theorem laidOut2:laidOutB Tryz.pinned.checked.prog=true:=laidOut
theorem mapsRowed:mapsRowed Tryz.pinned.checked.prog=true:=zqt
theorem stopsB:(Tryz.pinned.checked.prog.stops == [])=true:=zy8
theorem stopKnobsB:(Tryz.pinned.checked.prog.stopKnobs == [])=true:=zoc
theorem stopsHeard:Tryz.pinned.checked.prog.stopsHeard=true:=zod
theorem mayEnter:Tryz.pinned.checked.prog.mayEnter=true:=zt4
end Go.Proofs.YtmejdkniafjncaaGreatDoor.Cl
