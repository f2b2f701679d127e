/-
  BookVersions: the walk, over whatever comes in.
-/
import Derived.Test.YtnbopkflhjakdaaGreatDoorNg
import Derived.Test.YtnbopkflhjakdaaGreatDoorMf
import Derived.Test.YtnbopkflhjakdaaGreatDoorKb
namespace Go.Proofs.YtnbopkflhjakdaaGreatDoor.bookVersions
open Go Go.RowKit

theorem isA : Oc.IsOk Oc.nA := fun W =>
  CX.gives1_run (x := Mv.xo CX.noOrc) Mv.x0_ok CX.noSym_one (show CX.gives1 (Mv.xo CX.noOrc) 100000 18 [.string Oc.nA] (.bool true) = true by kernel_rfl) rfl rfl W
theorem walk (a0 : Option Addr) (len0 cap0 : Nat) (a1 : Int) (W : World) (w0 : len0 ≤ cap0 ∧ len0 ≤ 9223372036854775807 ∧ (a0 = none → len0 = 0) ∧ Dk.Acts W a0 len0) (w1 : (Lit.int .i64 a1).wf = true) :
    Calls Tryz.prog 3 #[.slice a0 len0 cap0, .int .i64 a1] W fun e w' => e = .returned (.bool true) ∧ Below W.heap.size W w' := by
  obtain ⟨l1, l2, l3, l4⟩ := w0
  have hs : -9223372036854775808 ≤ a1 ∧ a1 ≤ 9223372036854775807 := by simpa [Lit.wf, IntKind.min, IntKind.max, IntKind.signed, IntKind.bits] using w1
  exact Oc.versions_walk knownB.walk isA Mv.mdls a0 len0 cap0 a1 W l4 l1 l2 l3 hs.1 hs.2
end Go.Proofs.YtnbopkflhjakdaaGreatDoor.bookVersions
