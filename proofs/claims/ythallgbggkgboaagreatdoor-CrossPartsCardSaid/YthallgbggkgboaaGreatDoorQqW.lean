/-
  CrossParts: the law, its arguments opened.
-/
import Derived.Test.YthallgbggkgboaaGreatDoorGpO
namespace Go.Proofs.YthallgbggkgboaaGreatDoor.crossParts
open Go Go.RowKit
theorem walk (v0 : Value) (goal k seed : Int) (w : World) (h0 : Gp.IsRaw w v0) (_h1 : (Lit.int .i64 goal).wf = true) (_h2 : (Lit.int .i64 k).wf = true) (h3 : (Lit.int .u64 seed).wf = true) :
    Calls Tryz.prog 3 #[v0, .int .i64 goal, .int .i64 k, .int .u64 seed] w fun e w' => e = .returned (.bool true) ∧ Below w.heap.size w w' := by
  obtain ⟨A, B, c, k', rows, xs, ys, rfl, hl, hl2, hx, hy⟩ := h0
  have hs : 0 ≤ seed ∧ seed ≤ 18446744073709551615 := by simpa [Lit.wf, IntKind.min, IntKind.max, IntKind.signed, IntKind.bits] using h3
  obtain ⟨s, rfl⟩ := Int.eq_ofNat_of_zero_le hs.1
  exact Gp.law36_any A B c k' xs ys rows goal k s w hx hy hl hl2 (by have h := hs.2; unfold Gp.MM; omega)
end Go.Proofs.YthallgbggkgboaaGreatDoor.crossParts
