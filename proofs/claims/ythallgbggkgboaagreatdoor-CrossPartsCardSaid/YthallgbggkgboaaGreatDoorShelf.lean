/-
  DERIVED: THE SHELF's CONTRACTS AT THIS DUMP, IN PLAIN WORDS (tools/lay-plain.mjs out of 'TryzShelf.lean', which tools/lay-shelf.mjs wrote): THE SAME DECLARATIONS UNDER THE SAME NAMES: 'import', 'namespace', 'open', 'def', 'theorem' AND NOTHING ELSE: no command of the shelf's: FOR A HAND-IN. Each laying: the table of numbers ('.._ren') and one theorem, a field a fact of the dump's own or the kernel's comparison; each contract: ONE APPLICATION.
-/
import Derived.Shelf.LaysM
import Derived.Shelf.Strings.Shaped
import Derived.Shelf.Sort.Plain
import Derived.Shelf.Strings.SplitShaped
import Derived.Ground.Names2Prog
import Derived.Ground.SlgnProg
import Derived.Test.YthallgbggkgboaaGreatDoorProg
namespace Go.Proofs
open Go.Shelf
def Tryz.lays189_ren : Go.Shelf.Ren := ⟨fun | 189 => 126 | 125 => 173 | 257 => 172 | 128 => 259 | 129 => 116 | 294 => 250 | 295 => 251 | 296 => 252 | 297 => 253 | 298 => 254 | 299 => 255 | 216 => 256 | 300 => 257 | 301 => 258 | 328 => 383 | 329 => 384 | 330 => 385 | 331 => 386 | 332 => 387 | 215 => 59 | 343 => 498 | n => n, fun | 28 => 22 | 3 => 3 | 46 => 196 | 0 => 0 | 51 => 195 | 53 => 25 | 4 => 4 | 183 => 394 | 182 => 393 | 131 => 63 | 5 => 5 | 9 => 9 | 218 => 524 | 222 => 527 | 228 => 639 | 229 => 640 | n => n, fun | n => n⟩
theorem Tryz.lays189 : Go.Proofs.Lays.n189 Tryz.prog Tryz.lays189_ren := {
  mixed := by kernel_rfl
  f125 := Tryz.func173.trans (congrArg some (by kernel_rfl))
  f128 := Tryz.func259.trans (congrArg some (by kernel_rfl))
  f129 := Tryz.func116.trans (congrArg some (by kernel_rfl))
  f189 := Tryz.func126.trans (congrArg some (by kernel_rfl))
  f215 := Tryz.func59.trans (congrArg some (by kernel_rfl))
  f216 := Tryz.func256.trans (congrArg some (by kernel_rfl))
  f257 := Tryz.func172.trans (congrArg some (by kernel_rfl))
  f294 := Tryz.func250.trans (congrArg some (by kernel_rfl))
  f295 := Tryz.func251.trans (congrArg some (by kernel_rfl))
  f296 := Tryz.func252.trans (congrArg some (by kernel_rfl))
  f297 := Tryz.func253.trans (congrArg some (by kernel_rfl))
  f298 := Tryz.func254.trans (congrArg some (by kernel_rfl))
  f299 := Tryz.func255.trans (congrArg some (by kernel_rfl))
  f300 := Tryz.func257.trans (congrArg some (by kernel_rfl))
  f301 := Tryz.func258.trans (congrArg some (by kernel_rfl))
  f328 := Tryz.func383.trans (congrArg some (by kernel_rfl))
  f329 := Tryz.func384.trans (congrArg some (by kernel_rfl))
  f330 := Tryz.func385.trans (congrArg some (by kernel_rfl))
  f331 := Tryz.func386.trans (congrArg some (by kernel_rfl))
  f332 := Tryz.func387.trans (congrArg some (by kernel_rfl))
  f343 := Tryz.func498.trans (congrArg some (by kernel_rfl))
  t0 := Tryz.underlying0
  a0 := Tryz.isAgg0
  z0 := Tryz.sizeOf0
  v0 := Tryz.zeroValue0
  t3 := Tryz.underlying3
  a3 := Tryz.isAgg3
  z3 := Tryz.sizeOf3
  v3 := Tryz.zeroValue3
  t4 := Tryz.underlying4
  a4 := Tryz.isAgg4
  z4 := Tryz.sizeOf4
  v4 := Tryz.zeroValue4
  t5 := Tryz.underlying5
  a5 := Tryz.isAgg5
  z5 := Tryz.sizeOf5
  v5 := Tryz.zeroValue5
  t9 := Tryz.underlying9
  a9 := Tryz.isAgg9
  z9 := Tryz.sizeOf9
  v9 := Tryz.zeroValue9
  t28 := Tryz.underlying22
  a28 := Tryz.isAgg22
  z28 := Tryz.sizeOf22
  v28 := Tryz.zeroValue22
  t46 := Tryz.underlying196
  a46 := Tryz.isAgg196
  z46 := Tryz.sizeOf196
  v46 := Tryz.zeroValue196
  t51 := Tryz.underlying195
  a51 := Tryz.isAgg195
  z51 := Tryz.sizeOf195
  v51 := Tryz.zeroValue195
  t53 := Tryz.underlying25
  a53 := Tryz.isAgg25
  z53 := Tryz.sizeOf25
  v53 := Tryz.zeroValue25
  t131 := Tryz.underlying63
  a131 := Tryz.isAgg63
  z131 := Tryz.sizeOf63
  v131 := Tryz.zeroValue63
  t182 := Tryz.underlying393
  a182 := Tryz.isAgg393
  z182 := Tryz.sizeOf393
  v182 := Tryz.zeroValue393
  t183 := Tryz.underlying394
  a183 := Tryz.isAgg394
  z183 := Tryz.sizeOf394
  v183 := Tryz.zeroValue394
  t218 := Tryz.underlying524
  a218 := Tryz.isAgg524
  z218 := Tryz.sizeOf524
  v218 := Tryz.zeroValue524
  t222 := Tryz.underlying527
  a222 := Tryz.isAgg527
  z222 := Tryz.sizeOf527
  v222 := Tryz.zeroValue527
  t228 := Tryz.underlying639
  a228 := Tryz.isAgg639
  z228 := Tryz.sizeOf639
  v228 := Tryz.zeroValue639
  t229 := Tryz.underlying640
  a229 := Tryz.isAgg640
  z229 := Tryz.sizeOf640
  v229 := Tryz.zeroValue640 }
open Go.Sort Go.RowKit in
theorem Tryz.slices_Sort_int (blk off cap : Nat) (zs : List Int) (w : World) (hH : Holds (Value.int .i64) w blk off zs.toArray) (hblk : blk < w.heap.size) (hsz : zs.length < 4611686018427387904) :
    Calls Tryz.prog 126 #[.slice (some ⟨blk, off, none⟩) zs.length cap] w fun e w' =>
      e = .returned (.tuple #[]) ∧ ∃ n os, w' = grow (putRow (Value.int .i64) (Sort.ahead w n) blk off (zs.mergeSort fun x y => decide (x ≤ y)).toArray) os := Any.slices_Sort_int Tryz.lays189 blk off cap zs w hH hblk hsz
end Go.Proofs
