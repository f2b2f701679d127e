/- BookOpens: the walk, over whatever comes in. -/
import Derived.Test.YtildihjjocedmaaGreatDoorMs
namespace Go.Proofs.YtildihjjocedmaaGreatDoor.bookOpens
open Go Go.RowKit
theorem walk (a0:Option Addr)(len0 cap0:Nat)(a1:Option Addr)(len1 cap1:Nat)(a2:Int)(a3:Bool)(W:World)(w0:len0≤cap0∧len0≤9223372036854775807∧(a0=none→len0=0)∧Dk.Acts W a0 len0)(w1:len1≤cap1∧len1≤9223372036854775807∧(a1=none→len1=0)∧Dk.Acts W a1 len1)(_w2:(Lit.int .i64 a2).wf=true) :
  Calls Tryz.prog 3 #[.slice a0 len0 cap0,.slice a1 len1 cap1,.int .i64 a2,.bool a3] W fun e w'=>e = .returned (.bool true)∧Below W.heap.size W w':=by
 obtain ⟨l1,l2,l3,l4⟩:=w0
 obtain ⟨m1,m2,m3,m4⟩:=w1
 exact Oc.opens_walk Mv.lawH a0 len0 cap0 a1 len1 cap1 a2 a3 W l4 l1 l2 l3 m4 m1 m2 m3
end Go.Proofs.YtildihjjocedmaaGreatDoor.bookOpens
