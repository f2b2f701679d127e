/- BookPlays: the walk, over whatever comes in. -/
import Derived.Test.YtecaggbepjoaiaaGreatDoorNn
import Derived.Test.YtecaggbepjoaiaaGreatDoorMs
import Derived.Test.YtecaggbepjoaiaaGreatDoorKb
namespace Go.Proofs.YtecaggbepjoaiaaGreatDoor.bookPlays
open Go Go.RowKit
theorem walk (a0:Option Addr)(len0 cap0:Nat)(W:World)(w0:len0≤cap0∧len0≤9223372036854775807∧(a0=none→len0=0)∧Dk.Acts W a0 len0) :
  Calls Tryz.prog 3 #[.slice a0 len0 cap0] W fun e w'=>e = .returned (.bool true)∧Below W.heap.size W w':=by
 obtain ⟨l1,l2,l3,l4⟩:=w0
 exact Oc.plays_walk (Mv.lawH knownB.walk) a0 len0 cap0 W l4 l1 l2 l3
end Go.Proofs.YtecaggbepjoaiaaGreatDoor.bookPlays
