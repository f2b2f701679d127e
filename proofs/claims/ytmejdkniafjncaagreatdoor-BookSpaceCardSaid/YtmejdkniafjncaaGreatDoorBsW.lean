/- BookSpace: the walk, over whatever comes in. -/
import Derived.Test.YtmejdkniafjncaaGreatDoorMs
namespace Go.Proofs.YtmejdkniafjncaaGreatDoor.bookSpace
open Go Go.RowKit
theorem walk (a0:Option Addr)(len0 cap0:Nat)(a1:Int)(W:World)(w0:len0≤cap0∧len0≤9223372036854775807∧(a0=none→len0=0)∧Dk.Acts W a0 len0)(_w1:(Lit.int .i64 a1).wf=true) :
  Calls Tryz.prog 3 #[.slice a0 len0 cap0,.int .i64 a1] W fun e w'=>e = .returned (.bool true)∧Below W.heap.size W w':=by
 obtain ⟨l1,l2,l3,l4⟩:=w0
 exact Oc.space_walk Mv.lawH a0 len0 cap0 a1 W l4 l1 l2 l3
end Go.Proofs.YtmejdkniafjncaaGreatDoor.bookSpace
