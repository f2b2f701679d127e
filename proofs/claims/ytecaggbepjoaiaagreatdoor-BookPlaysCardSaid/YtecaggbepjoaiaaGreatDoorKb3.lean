/- The runs of known calls. -/
import Derived.Test.YtecaggbepjoaiaaGreatDoorKb1
import Derived.Test.YtecaggbepjoaiaaGreatDoorKb2
namespace Go.Proofs.YtecaggbepjoaiaaGreatDoor.Kw
open Go Go.RowKit CX
theorem zoq (s:Nat→Value):runH (xo s (orcOr (orcR 6 k8) (orcOr (orcH k9) (orcOr (orcR 6 k10) (orcOr (orcR 6 k11) noOrc))))) 100000 k12=true:=by kernel_rfl
theorem zu5 (s:Nat→Value):OrcOk Tryz.prog ⟨6,s⟩ (orcH k12):=zat (zay (zac (zri s) (zac (zyq s) (zac (k10_ok s) (zac (zu4 s) (zaf _ _)))))) (zoq s)
end Go.Proofs.YtecaggbepjoaiaaGreatDoor.Kw
