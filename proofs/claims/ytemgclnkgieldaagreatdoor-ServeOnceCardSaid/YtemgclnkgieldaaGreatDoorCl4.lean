/- The closure: what the row says of it, for the program alone. -/
import Derived.Test.YtemgclnkgieldaaGreatDoorCl3
namespace Go.Proofs.YtemgclnkgieldaaGreatDoor.Cl
open Go
set_option maxRecDepth 100000
theorem zwz:((["internal/abi.NoEscape","internal/bytealg.MakeNoZero","math/bits.Add64","math/bits.Sub64","internal/bytealg.CountString","internal/bytealg.IndexByteString","internal/bytealg.IndexString"]:List String) == P.inPlace 3)=true:=by
 unfold Program.inPlace
 rw[clo]
 kernel_rfl
theorem namedP:((["math/bits.divideError","math/bits.overflowError","math/bits.deBruijn64tab","unicode/utf8.first","unicode/utf8.acceptRanges","internal/bytealg.MaxLen"]:List String) == P.varsNamed 3)=true:=by
 unfold Program.varsNamed
 rw[clo]
 kernel_rfl
end Go.Proofs.YtemgclnkgieldaaGreatDoor.Cl
