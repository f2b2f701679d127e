/-
  ToolCells: the law, its arguments opened.
-/
import Derived.Test.YtmkkkeehkobadaaGreatDoorTcO
import Derived.Test.YtmkkkeehkobadaaGreatDoorKt
namespace Go.Proofs.YtmkkkeehkobadaaGreatDoor.toolCells
open Go Go.RowKit
theorem maxAt {w : World} (hs : w.ShapedOpen Tryz.prog) : Tc.MaxAt w :=
  Go.Proofs.cell_of_shapedOpen_int (zero := #[.int .i64 0]) (t := 3) hs (of_decide_eq_true (by kernel_rfl)) (by kernel_rfl) rfl (by kernel_rfl) (by kernel_rfl) Tryz.underlying3
theorem walk (v0 v1 : Value) (odd : Int) (w : World) (h0 : Tc.IsRaw w v0) (h1 : Tc.IsInts w v1) (_h2 : (Lit.int .i64 odd).wf = true) (hs : w.ShapedOpen Tryz.prog) :
    Calls Tryz.prog 3 #[v0, v1, .int .i64 odd] w fun e w' => e = .returned (.bool true) ∧ Below w.heap.size w w' := by
  obtain ⟨A, B, c, n, k, rows, xs, rfl, hl, hx⟩ := h0
  obtain ⟨A2, c2, ys, rfl, hl2, hy⟩ := h1
  have hm := maxAt hs
  have hmg : 0 < w.heap.size := by
    obtain ⟨m, hm⟩ := hm
    exact World.block_lt_of_cell? w _ hm
  exact Tc.law_any A A2 c n k c2 B rows odd xs ys w hx hy hl hl2 hm hmg knownT.walk
end Go.Proofs.YtmkkkeehkobadaaGreatDoor.toolCells
