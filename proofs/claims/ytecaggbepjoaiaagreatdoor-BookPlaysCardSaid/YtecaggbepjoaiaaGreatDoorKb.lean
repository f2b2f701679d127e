/- The law's run. -/
import Derived.Test.YtecaggbepjoaiaaGreatDoorKb4
namespace Go.Proofs.YtecaggbepjoaiaaGreatDoor.Kw
open Go Go.RowKit CX
theorem law_ok:(xo noSym (orcOr (orcH k13) (orcOr (orcR 6 k14) (orcOr (orcH k15) (orcOr (orcH k20) (orcOr (orcR 6 k21) (orcOr (orcH k22) noOrc))))))).Ok:=zay (zac (zqd noSym) (zac (zm7 noSym) (zac (zqe noSym) (zac (zu9 noSym) (zac (zqf noSym) (zac (zva noSym) (zaf _ _)))))))
theorem law_run:gives1 (xo noSym (orcOr (orcH k13) (orcOr (orcR 6 k14) (orcOr (orcH k15) (orcOr (orcH k20) (orcOr (orcR 6 k21) (orcOr (orcH k22) noOrc))))))) 100000 9 [] (.bool true)=true:=by kernel_rfl
end Go.Proofs.YtecaggbepjoaiaaGreatDoor.Kw
namespace Go.Proofs.YtecaggbepjoaiaaGreatDoor.knownB
open Go Go.RowKit
theorem walk (w:World):Calls Tryz.prog 9 #[] w fun e w'=>e = .returned (.bool true)∧Below w.heap.size w w' :=
 CX.gives1_run Kw.law_ok CX.noSym_one Kw.law_run rfl rfl w
end Go.Proofs.YtecaggbepjoaiaaGreatDoor.knownB
