/-
  ToolSpecs: the law, its arguments opened.
-/
import Derived.Test.YtelehhfnomdneaaGreatDoorMl
import Derived.Test.YtelehhfnomdneaaGreatDoorKt
namespace Go.Proofs.YtelehhfnomdneaaGreatDoor.toolSpecs
open Go Go.RowKit
theorem maxAt {w : World} (hs : w.ShapedOpen Tryz.prog) : Sp.MaxAt w :=
  Go.Proofs.cell_of_shapedOpen_int (zero := #[.int .i64 0]) (t := 3) hs (of_decide_eq_true (by kernel_rfl)) (by kernel_rfl) rfl (by kernel_rfl) (by kernel_rfl) Tryz.underlying3
theorem walk (v0 : Value) (k : Int) (w : World) (h0 : Sp.IsInts w v0) (_h1 : (Lit.int .i64 k).wf = true) (hs : w.ShapedOpen Tryz.prog) :
    Calls Tryz.prog 3 #[v0, .int .i64 k] w fun e w' => e = .returned (.bool true) ∧ Below w.heap.size w w' := by
  obtain ⟨A, c, xs, rfl, hl, hx⟩ := h0
  exact Sp.law_any A c xs k w hx hl (maxAt hs) knownT.walk
end Go.Proofs.YtelehhfnomdneaaGreatDoor.toolSpecs
