/-
  BookDisks: the walk, over whatever comes in.
-/
import Derived.Test.YthfmallebojjpaaGreatDoorDkO
import Derived.Test.YthfmallebojjpaaGreatDoorKb
namespace Go.Proofs.YthfmallebojjpaaGreatDoor.bookDisks
open Go Go.RowKit

theorem walk (a0 : Int) (a1 : Option Addr) (len1 cap1 : Nat) (a2 : Option Addr) (len2 cap2 : Nat) (W : World) (_w0 : (Lit.int .i64 a0).wf = true)
    (w1 : len1 ≤ cap1 ∧ len1 ≤ 9223372036854775807 ∧ (a1 = none → len1 = 0) ∧ Dk.Acts W a1 len1)
    (w2 : ∃ js : List Int, js.length = len2 ∧ len2 ≤ cap2 ∧ len2 ≤ 9223372036854775807 ∧ (a2 = none → len2 = 0 ∧ cap2 = 0) ∧ Dk.Rb W a2 js) :
    Calls Tryz.prog 3 #[.int .i64 a0, .slice a1 len1 cap1, .slice a2 len2 cap2] W fun e w' => e = .returned (.bool true) ∧ Below W.heap.size W w' := by
  obtain ⟨js, rfl, j1, j2, j3, j4⟩ := w2
  obtain ⟨l1, l2, l3, l4⟩ := w1
  exact Dk.walk knownB.walk a0 a1 len1 cap1 a2 cap2 js W l4 l1 l2 j4 j1 j2 j3 l3
end Go.Proofs.YthfmallebojjpaaGreatDoor.bookDisks
