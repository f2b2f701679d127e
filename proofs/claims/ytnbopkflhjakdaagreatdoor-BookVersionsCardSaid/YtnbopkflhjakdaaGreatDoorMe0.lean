/-
  Models checked, laid, read: calls of known outcome, over blocks for reading alone.
-/
import Derived.Test.YtnbopkflhjakdaaGreatDoorMd0
import Derived.Test.YtnbopkflhjakdaaGreatDoorNh
namespace Go.Proofs.YtnbopkflhjakdaaGreatDoor.Mv
open Go Go.RowKit CX Md
def ms0 : List Int := [1, 48, 1, 2, 1, 120, 1, 1, 121, 1, 1, 0, 1, 0, 2, 10, 1, 3, 0, 1, 1, 2, 1, 1, 1, 0, 0, 0, 1, 1, 2, 0, 1, 1, 0, 0, 0, 3, 0, 0, 1, 1, 2, 26, 1, 3, 2, 8, 1, 3, 224, 64, 119, 250, 174, 38, 51, 206]
noncomputable def c0 : Kn := ⟨19, [k10.v], 2496, roL k10.post, .int .i64 0, 2617, roL k10.post⟩
noncomputable def l0 : Kn := ⟨21, [k10.v], 2496, roL k10.post, .tuple ⟨[.slice (some ⟨2890, 0, none⟩) ms0.length 116, .int .i64 0]⟩, 2891, (2890, Ob.row (newBk 5 (ms0.map (Value.int .u8)))) :: roL k10.post⟩
def rv0 : List Value := [(I 1), (I 1), (I 0), (L 3027 0 2 262151), (L 3256 0 1 131109), N, N, F, (U 0), E, (U 0), E, (I 2), (I 0), (I 1), (L 3562 0 1 131115), (I 0), (I 0), (I 0), N, N, (I 0), (I 0), F, (U 0), E, (U 0), E, F, (U 0), E, (U 0), E, F, (U 0), E, (U 0), E, N, N, F, (U 0), E, (U 0), E, N, N, N, N, N, F, (U 0), E, (U 0), E, N, N, N, N]
noncomputable def rp0 : List (Nat × Ob) := [(3027, W 150 [(S [120]), (I 1), N, (S [121]), (I 1), N]),
  (3256, W 183 [(I 0), (I 1), (I 0), F, (U 10), E, (U 3), E, F, (U 0), E, (U 0), E, F, (U 1), E, (U 0), E]),
  (3562, W 307 [(I (-1)), (I 0), (I 0), (I 3), (I 0), F, (U 0), E, (U 0), E, F, (U 26), E, (U 3), E, F, (U 8), E, (U 3), E, N])]
noncomputable def r0 : Kn := ⟨70, [.slice (some ⟨3012, 0, none⟩) ms0.length (ms0.length * 131072 + 3)], 3013, [(3012, roO (.row (newBk 5 (ms0.map (Value.int .u8)))))], .tuple ⟨[.agg ⟨rv0⟩, .int .i64 0]⟩, 3959, (3012, roO (.row (newBk 5 (ms0.map (Value.int .u8))))) :: rp0⟩
def ms1 : List Int := [1, 80, 1, 2, 1, 120, 1, 1, 121, 1, 1, 0, 1, 0, 2, 10, 1, 3, 0, 1, 1, 2, 1, 1, 1, 0, 0, 0, 1, 1, 2, 0, 1, 3, 1, 1, 2, 3, 0, 2, 5, 1, 1, 2, 26, 1, 3, 2, 8, 1, 3, 0, 0, 0, 2, 0, 0, 1, 1, 2, 1, 1, 2, 2, 3, 1, 2, 0, 0, 0, 1, 0, 0, 1, 1, 0, 1, 1, 2, 5, 1, 1, 146, 187, 91, 23, 40, 40, 70, 147]
noncomputable def c1 : Kn := ⟨19, [k17.v], 9625, roL k17.post, .int .i64 0, 9953, roL k17.post⟩
noncomputable def l1 : Kn := ⟨21, [k17.v], 9625, roL k17.post, .tuple ⟨[.slice (some ⟨10418, 0, none⟩) ms1.length 180, .int .i64 0]⟩, 10419, (10418, Ob.row (newBk 5 (ms1.map (Value.int .u8)))) :: roL k17.post⟩
def rv1 : List Value := [(I 1), (I 1), (I 0), (L 10762 0 2 262151), (L 10991 0 1 131109), N, N, F, (U 0), E, (U 0), E, (I 2), (I 0), (I 1), (L 11754 0 3 393259), (I 0), (I 0), (I 0), N, N, (I 0), (I 0), F, (U 0), E, (U 0), E, F, (U 0), E, (U 0), E, F, (U 0), E, (U 0), E, N, N, F, (U 0), E, (U 0), E, N, N, N, N, N, F, (U 0), E, (U 0), E, N, N, N, N]
noncomputable def rp1 : List (Nat × Ob) := [(10762, W 150 [(S [120]), (I 1), N, (S [121]), (I 1), N]),
  (10991, W 183 [(I 0), (I 1), (I 0), F, (U 10), E, (U 3), E, F, (U 0), E, (U 0), E, F, (U 1), E, (U 0), E]),
  (11754, W 307 [(I 0), (I 1), (I 2), (I 3), (I 0), F, (U 5), E, (U 0), E, F, (U 26), E, (U 3), E, F, (U 8), E, (U 3), E, N, (I (-1)), (I 0), (I 0), (I 2), (I 0), F, (U 0), E, (U 0), E, F, (U 1), E, (U 2), E, F, (U 3), E, (U 2), E, N, (I (-1)), (I 0), (I 0), (I 1), (I 0), F, (U 0), E, (U 0), E, F, (U 0), E, (U 0), E, F, (U 5), E, (U 0), E, N])]
noncomputable def r1 : Kn := ⟨70, [.slice (some ⟨10747, 0, none⟩) ms1.length (ms1.length * 131072 + 3)], 10748, [(10747, roO (.row (newBk 5 (ms1.map (Value.int .u8)))))], .tuple ⟨[.agg ⟨rv1⟩, .int .i64 0]⟩, 12550, (10747, roO (.row (newBk 5 (ms1.map (Value.int .u8))))) :: rp1⟩
def ms2 : List Int := [1, 111, 1, 2, 1, 120, 1, 1, 121, 1, 1, 0, 1, 0, 2, 10, 1, 3, 0, 1, 1, 2, 1, 1, 1, 0, 0, 0, 1, 1, 2, 0, 1, 5, 1, 1, 4, 3, 0, 2, 5, 1, 1, 2, 26, 1, 3, 2, 8, 1, 3, 1, 2, 3, 2, 0, 2, 1, 1, 2, 2, 1, 1, 2, 2, 3, 1, 2, 0, 0, 0, 1, 0, 0, 1, 1, 0, 1, 1, 2, 1, 1, 1, 0, 0, 0, 1, 0, 0, 1, 1, 0, 1, 1, 2, 2, 1, 1, 0, 0, 0, 1, 0, 0, 1, 1, 0, 1, 1, 2, 5, 1, 1, 103, 33, 87, 195, 40, 155, 4, 37]
noncomputable def c2 : Kn := ⟨19, [k25.v], 19551, roL k25.post, .int .i64 0, 19930, roL k25.post⟩
noncomputable def l2 : Kn := ⟨21, [k25.v], 19551, roL k25.post, .tuple ⟨[.slice (some ⟨20586, 0, none⟩) ms2.length 242, .int .i64 0]⟩, 20587, (20586, Ob.row (newBk 5 (ms2.map (Value.int .u8)))) :: roL k25.post⟩
def rv2 : List Value := [(I 1), (I 1), (I 0), (L 20981 0 2 262151), (L 21210 0 1 131109), N, N, F, (U 0), E, (U 0), E, (I 2), (I 0), (I 1), (L 22420 0 5 655403), (I 0), (I 0), (I 0), N, N, (I 0), (I 0), F, (U 0), E, (U 0), E, F, (U 0), E, (U 0), E, F, (U 0), E, (U 0), E, N, N, F, (U 0), E, (U 0), E, N, N, N, N, N, F, (U 0), E, (U 0), E, N, N, N, N]
noncomputable def rp2 : List (Nat × Ob) := [(20981, W 150 [(S [120]), (I 1), N, (S [121]), (I 1), N]),
  (21210, W 183 [(I 0), (I 1), (I 0), F, (U 10), E, (U 3), E, F, (U 0), E, (U 0), E, F, (U 1), E, (U 0), E]),
  (22420, W 307 [(I 0), (I 1), (I 4), (I 3), (I 0), F, (U 5), E, (U 0), E, F, (U 26), E, (U 3), E, F, (U 8), E, (U 3), E, N, (I 0), (I 2), (I 3), (I 2), (I 0), F, (U 1), E, (U 2), E, F, (U 1), E, (U 2), E, F, (U 3), E, (U 2), E, N, (I (-1)), (I 0), (I 0), (I 1), (I 0), F, (U 0), E, (U 0), E, F, (U 0), E, (U 0), E, F, (U 1), E, (U 0), E, N, (I (-1)), (I 0), (I 0), (I 1), (I 0), F, (U 0), E, (U 0), E, F, (U 0), E, (U 0), E, F, (U 2), E, (U 0), E, N, (I (-1)), (I 0), (I 0), (I 1), (I 0), F, (U 0), E, (U 0), E, F, (U 0), E, (U 0), E, F, (U 5), E, (U 0), E, N])]
noncomputable def r2 : Kn := ⟨70, [.slice (some ⟨20966, 0, none⟩) ms2.length (ms2.length * 131072 + 3)], 20967, [(20966, roO (.row (newBk 5 (ms2.map (Value.int .u8)))))], .tuple ⟨[.agg ⟨rv2⟩, .int .i64 0]⟩, 23458, (20966, roO (.row (newBk 5 (ms2.map (Value.int .u8))))) :: rp2⟩
def ms3 : List Int := [6, 71, 1, 2, 1, 120, 1, 1, 121, 1, 1, 0, 1, 0, 2, 10, 1, 3, 0, 1, 1, 2, 1, 1, 1, 0, 0, 0, 1, 1, 1, 3, 1, 0, 1, 1, 1, 2, 1, 1, 1, 1, 2, 9, 1, 1, 3, 1, 0, 1, 2, 0, 0, 0, 0, 2, 0, 0, 0, 0, 3, 2, 1, 1, 1, 2, 2, 1, 1, 2, 5, 1, 1, 58, 202, 216, 30, 174, 16, 142, 144]
noncomputable def c3 : Kn := ⟨19, [k30.v], 24272, roL k30.post, .int .i64 0, 24417, roL k30.post⟩
noncomputable def l3 : Kn := ⟨21, [k30.v], 24272, roL k30.post, .tuple ⟨[.slice (some ⟨24810, 0, none⟩) ms3.length 162, .int .i64 0]⟩, 24811, (24810, Ob.row (newBk 5 (ms3.map (Value.int .u8)))) :: roL k30.post⟩
def rv3 : List Value := [(I 6), (I 1), (I 1), (L 24971 0 2 262151), (L 25200 0 1 131109), N, N, F, (U 0), E, (U 0), E, (I 0), (I 0), (I 0), N, (I 0), (I 0), (I 0), N, N, (I 0), (I 0), F, (U 0), E, (U 0), E, F, (U 0), E, (U 0), E, F, (U 0), E, (U 0), E, N, N, F, (U 0), E, (U 0), E, N, (L 25507 0 3 393219), (L 25519 0 3 393225), N, (L 25756 0 3 393227), F, (U 0), E, (U 0), E, N, N, N, N]
noncomputable def rp3 : List (Nat × Ob) := [(24971, W 150 [(S [120]), (I 1), N, (S [121]), (I 1), N]),
  (25200, W 183 [(I 0), (I 1), (I 0), F, (U 10), E, (U 3), E, F, (U 0), E, (U 0), E, F, (U 1), E, (U 0), E]),
  (25343, W 49 [F, (U 0), E, (U 0), E]),
  (25424, W 49 [F, (U 1), E, (U 0), E]),
  (25505, W 49 [F, (U 9), E, (U 0), E]),
  (25507, W 41 [(L 25343 0 1 131083), (L 25424 0 1 131083), (L 25505 0 1 131083)]),
  (25519, W 225 [(I 1), (I 0), (I 1), (I 2), (I 0), (I 0), (I 0), (I 0), (I 2), (I 0), (I 0), (I 0)]),
  (25756, W 49 [F, (U 1), E, (U 0), E, F, (U 2), E, (U 0), E, F, (U 5), E, (U 0), E])]
noncomputable def r3 : Kn := ⟨70, [.slice (some ⟨24956, 0, none⟩) ms3.length (ms3.length * 131072 + 3)], 24957, [(24956, roO (.row (newBk 5 (ms3.map (Value.int .u8)))))], .tuple ⟨[.agg ⟨rv3⟩, .int .i64 0]⟩, 26297, (24956, roO (.row (newBk 5 (ms3.map (Value.int .u8))))) :: rp3⟩
def ms4 : List Int := [6, 71, 1, 2, 1, 120, 1, 1, 121, 1, 1, 0, 1, 0, 2, 10, 1, 3, 0, 1, 1, 2, 1, 1, 1, 0, 0, 0, 1, 1, 2, 3, 1, 0, 1, 1, 1, 2, 1, 1, 1, 1, 2, 9, 1, 1, 3, 1, 0, 1, 2, 0, 0, 0, 0, 2, 0, 0, 0, 0, 3, 2, 1, 1, 1, 2, 2, 1, 1, 2, 5, 1, 1, 112, 115, 38, 84, 123, 159, 249, 57]
noncomputable def c4 : Kn := ⟨19, [k33.v], 27111, roL k33.post, .int .i64 0, 27256, roL k33.post⟩
noncomputable def l4 : Kn := ⟨21, [k33.v], 27111, roL k33.post, .tuple ⟨[.slice (some ⟨27649, 0, none⟩) ms4.length 162, .int .i64 0]⟩, 27650, (27649, Ob.row (newBk 5 (ms4.map (Value.int .u8)))) :: roL k33.post⟩
def rv4 : List Value := [(I 6), (I 1), (I 2), (L 27810 0 2 262151), (L 28039 0 1 131109), N, N, F, (U 0), E, (U 0), E, (I 0), (I 0), (I 0), N, (I 0), (I 0), (I 0), N, N, (I 0), (I 0), F, (U 0), E, (U 0), E, F, (U 0), E, (U 0), E, F, (U 0), E, (U 0), E, N, N, F, (U 0), E, (U 0), E, N, (L 28346 0 3 393219), (L 28358 0 3 393225), N, (L 28595 0 3 393227), F, (U 0), E, (U 0), E, N, N, N, N]
noncomputable def rp4 : List (Nat × Ob) := [(27810, W 150 [(S [120]), (I 1), N, (S [121]), (I 1), N]),
  (28039, W 183 [(I 0), (I 1), (I 0), F, (U 10), E, (U 3), E, F, (U 0), E, (U 0), E, F, (U 1), E, (U 0), E]),
  (28182, W 49 [F, (U 0), E, (U 0), E]),
  (28263, W 49 [F, (U 1), E, (U 0), E]),
  (28344, W 49 [F, (U 9), E, (U 0), E]),
  (28346, W 41 [(L 28182 0 1 131083), (L 28263 0 1 131083), (L 28344 0 1 131083)]),
  (28358, W 225 [(I 1), (I 0), (I 1), (I 2), (I 0), (I 0), (I 0), (I 0), (I 2), (I 0), (I 0), (I 0)]),
  (28595, W 49 [F, (U 1), E, (U 0), E, F, (U 2), E, (U 0), E, F, (U 5), E, (U 0), E])]
noncomputable def r4 : Kn := ⟨70, [.slice (some ⟨27795, 0, none⟩) ms4.length (ms4.length * 131072 + 3)], 27796, [(27795, roO (.row (newBk 5 (ms4.map (Value.int .u8)))))], .tuple ⟨[.agg ⟨rv4⟩, .int .i64 0]⟩, 29136, (27795, roO (.row (newBk 5 (ms4.map (Value.int .u8))))) :: rp4⟩
def ms5 : List Int := [5, 40, 1, 2, 1, 120, 1, 1, 121, 1, 1, 0, 1, 0, 2, 10, 1, 3, 0, 1, 1, 2, 1, 1, 1, 0, 0, 0, 1, 1, 1, 1, 2, 10, 1, 3, 0, 1, 2, 8, 1, 3, 92, 186, 36, 233, 111, 129, 190, 52]
noncomputable def c5 : Kn := ⟨19, [k43.v], 39969, roL k43.post, .int .i64 0, 40079, roL k43.post⟩
noncomputable def l5 : Kn := ⟨21, [k43.v], 39969, roL k43.post, .tuple ⟨[.slice (some ⟨40314, 0, none⟩) ms5.length 100, .int .i64 0]⟩, 40315, (40314, Ob.row (newBk 5 (ms5.map (Value.int .u8)))) :: roL k43.post⟩
def rv5 : List Value := [(I 5), (I 1), (I 0), (L 40440 0 2 262151), (L 40669 0 1 131109), N, N, F, (U 0), E, (U 0), E, (I 0), (I 0), (I 0), N, (I 0), (I 0), (I 0), N, N, (I 0), (I 0), F, (U 0), E, (U 0), E, F, (U 0), E, (U 0), E, F, (U 0), E, (U 0), E, N, N, F, (U 0), E, (U 0), E, (L 40824 0 1 131075), N, N, N, (L 40905 0 1 131083), F, (U 0), E, (U 0), E, N, N, N, N]
noncomputable def rp5 : List (Nat × Ob) := [(40440, W 150 [(S [120]), (I 1), N, (S [121]), (I 1), N]),
  (40669, W 183 [(I 0), (I 1), (I 0), F, (U 10), E, (U 3), E, F, (U 0), E, (U 0), E, F, (U 1), E, (U 0), E]),
  (40822, W 49 [F, (U 10), E, (U 3), E]),
  (40824, W 41 [(L 40822 0 1 131083)]),
  (40905, W 49 [F, (U 8), E, (U 3), E])]
noncomputable def r5 : Kn := ⟨70, [.slice (some ⟨40425, 0, none⟩) ms5.length (ms5.length * 131072 + 3)], 40426, [(40425, roO (.row (newBk 5 (ms5.map (Value.int .u8)))))], .tuple ⟨[.agg ⟨rv5⟩, .int .i64 0]⟩, 41253, (40425, roO (.row (newBk 5 (ms5.map (Value.int .u8))))) :: rp5⟩
def ms6 : List Int := [4, 37, 1, 2, 1, 120, 1, 1, 121, 1, 1, 0, 1, 0, 2, 10, 1, 3, 0, 1, 1, 2, 1, 1, 1, 0, 0, 0, 1, 1, 1, 2, 61, 1, 146, 2, 93, 1, 73, 173, 229, 136, 115, 227, 163, 221, 241]
noncomputable def c6 : Kn := ⟨19, [k49.v], 44841, roL k49.post, .int .i64 0, 44938, roL k49.post⟩
noncomputable def l6 : Kn := ⟨21, [k49.v], 44841, roL k49.post, .tuple ⟨[.slice (some ⟨45167, 0, none⟩) ms6.length 94, .int .i64 0]⟩, 45168, (45167, Ob.row (newBk 5 (ms6.map (Value.int .u8)))) :: roL k49.post⟩
def rv6 : List Value := [(I 4), (I 1), (I 0), (L 45280 0 2 262151), (L 45509 0 1 131109), N, N, F, (U 0), E, (U 0), E, (I 0), (I 0), (I 0), N, (I 0), (I 0), (I 0), N, N, (I 0), (I 0), F, (U 0), E, (U 0), E, F, (U 0), E, (U 0), E, F, (U 0), E, (U 0), E, N, (L 45663 0 1 131083), F, (U 93), E, (U 73), E, N, N, N, N, N, F, (U 0), E, (U 0), E, N, N, N, N]
noncomputable def rp6 : List (Nat × Ob) := [(45280, W 150 [(S [120]), (I 1), N, (S [121]), (I 1), N]),
  (45509, W 183 [(I 0), (I 1), (I 0), F, (U 10), E, (U 3), E, F, (U 0), E, (U 0), E, F, (U 1), E, (U 0), E]),
  (45663, W 49 [F, (U 61), E, (U 146), E])]
noncomputable def r6 : Kn := ⟨70, [.slice (some ⟨45265, 0, none⟩) ms6.length (ms6.length * 131072 + 3)], 45266, [(45265, roO (.row (newBk 5 (ms6.map (Value.int .u8)))))], .tuple ⟨[.agg ⟨rv6⟩, .int .i64 0]⟩, 46071, (45265, roO (.row (newBk 5 (ms6.map (Value.int .u8))))) :: rp6⟩
end Go.Proofs.YtnbopkflhjakdaaGreatDoor.Mv
