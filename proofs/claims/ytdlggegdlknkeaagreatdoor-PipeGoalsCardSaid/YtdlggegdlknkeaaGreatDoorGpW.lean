/-
  PipeGoals: the law, its arguments opened.
-/
import Derived.Test.YtdlggegdlknkeaaGreatDoorGpO
namespace Go.Proofs.YtdlggegdlknkeaaGreatDoor.pipeGoals
open Go Go.RowKit
theorem walk (v0 : Value) (col : Int) (w : World) (h0 : Gp.IsRaw w v0) (_h1 : (Lit.int .i64 col).wf = true) :
    Calls Tryz.prog 3 #[v0, .int .i64 col] w fun e w' => e = .returned (.bool true) ∧ Below w.heap.size w w' := by
  obtain ⟨A, B, c, k, rows, xs, ys, rfl, hl, hl2, hx, hy⟩ := h0
  exact Gp.law_any A B c k xs ys rows col w hx hy hl hl2 (Gp.knW w)
end Go.Proofs.YtdlggegdlknkeaaGreatDoor.pipeGoals
