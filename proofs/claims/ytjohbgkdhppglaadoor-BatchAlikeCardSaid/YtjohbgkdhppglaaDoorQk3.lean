/-
  The closed runs of the fractions by 3.
-/
import Derived.Test.YtjohbgkdhppglaaDoorQk0
namespace Go.Proofs.YtjohbgkdhppglaaDoor.CX
open Go Go.RowKit
theorem qk3a : allB (okQ 3) [-20, -19, -18, -17, -16, -15, -14, -13, -12, -11, -10] = true := by kernel_rfl
theorem qk3b : allB (okQ 3) [-9, -8, -7, -6, -5, -4, -3, -2, -1, 0] = true := by kernel_rfl
theorem qk3c : allB (okQ 3) [1, 2, 3, 4, 5, 6, 7, 8, 9, 10] = true := by kernel_rfl
theorem qk3d : allB (okQ 3) [11, 12, 13, 14, 15, 16, 17, 18, 19, 20] = true := by kernel_rfl
theorem qk3 (i : Int) (h1 : -20 ≤ i) (h2 : i ≤ 20) : okQ 3 i = true := by
  by_cases k0 : i ≤ -10
  · exact (allB_all _ _).1 qk3a i (by simp only [List.mem_cons]; omega)
  by_cases k1 : i ≤ 0
  · exact (allB_all _ _).1 qk3b i (by simp only [List.mem_cons]; omega)
  by_cases k2 : i ≤ 10
  · exact (allB_all _ _).1 qk3c i (by simp only [List.mem_cons]; omega)
  exact (allB_all _ _).1 qk3d i (by simp only [List.mem_cons]; omega)
end Go.Proofs.YtjohbgkdhppglaaDoor.CX
