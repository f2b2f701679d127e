/-
  The closure: what the row says of it, for the program alone.
-/
import Derived.Test.YtelehhfnomdneaaGreatDoorCl3
namespace Go.Proofs.YtelehhfnomdneaaGreatDoor.Cl
open Go
set_option maxRecDepth 100000
theorem inPlaceP : ((["internal/bytealg.CountString", "internal/bytealg.IndexByteString", "internal/bytealg.IndexString", "math/bits.Add64", "internal/abi.NoEscape", "internal/bytealg.MakeNoZero", "math/bits.Sub64"] : List String) == P.inPlace 3) = true := by
  unfold Program.inPlace
  rw [clo]
  kernel_rfl
theorem namedP : ((["unicode/utf8.first", "unicode/utf8.acceptRanges", "internal/bytealg.MaxLen", "math/bits.divideError", "math/bits.overflowError", "math/bits.deBruijn64tab", "internal/strconv.uint64pow10", "math/bits.deBruijn32tab"] : List String) == P.varsNamed 3) = true := by
  unfold Program.varsNamed
  rw [clo]
  kernel_rfl
end Go.Proofs.YtelehhfnomdneaaGreatDoor.Cl
