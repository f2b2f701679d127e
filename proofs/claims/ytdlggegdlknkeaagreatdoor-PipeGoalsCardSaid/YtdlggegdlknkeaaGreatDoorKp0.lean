/-
  Calls of known outcome: their arguments, the blocks that they reach, what comes back.
-/
import Derived.Test.YtdlggegdlknkeaaGreatDoorE7
namespace Go.Proofs.YtdlggegdlknkeaaGreatDoor.Kw
open Go Go.RowKit CX
def T : Value := .bool true
def F : Value := .bool false
def I (n : Int) : Value := .int .i64 n
def U (n : Int) : Value := .int .u64 n
def Y (n : Int) : Value := .int .u8 n
def S (l : List UInt8) : Value := .string ⟨⟨l⟩⟩
def E : Value := .string ⟨⟨[]⟩⟩
def P0 : Value := .pointer none
def P (b o : Nat) : Value := .pointer (some ⟨b, o, none⟩)
def N : Value := .slice none 0 0
def L (b o n c : Nat) : Value := .slice (some ⟨b, o, none⟩) n c
def sy (n : Nat) : Value := .float .f64 n
noncomputable def W (e : Nat) (l : List Value) : Ob := .row (newBk e l)
noncomputable def R (e : Nat) (l : List Value) : Ob := .row { newBk e l with ro := true }
def M (es : List (Value × Value)) (bs : List Nat) (cl : Nat) : Ob := .map es bs cl
noncomputable def xo (s : Nat → Value) (o : Nat → List Value → Hp → Option (Value × Hp)) : X := X.mk' Tryz.prog 10 10 6 s noFacts o
theorem xo_ok {s : Nat → Value} {o : Nat → List Value → Hp → Option (Value × Hp)} (h : OrcOk Tryz.prog ⟨6, s⟩ o) : (xo s o).Ok := X.mk'_ok _ _ _ _ _ _ _ (noFacts_ok _) h (by kernel_rfl)
noncomputable def k0 : Kn := ⟨20, [], 6, [],
  (.agg ⟨[(L 32 0 2 262151), (L 93 0 3 393219)]⟩), 96,
  [(26, W 9 [(S [110, 111]), (S [121, 101, 115])]),
  (32, W 64 [(S [120]), (I 1), N, (S [121]), (I 2), (L 26 0 2 262147)]),
  (34, W 127 [F, F, (U 0), E, (U 0), E, (I 0), F, F, (U 0), E, (U 0), E, (I 0)]),
  (53, W 127 [F, F, (U 1), E, (U 0), E, (I 0), F, F, (U 0), E, (U 0), E, (I 0)]),
  (74, W 127 [F, F, (U 9), E, (U 0), E, (I 0), F, F, (U 0), E, (U 0), E, (I 1)]),
  (93, W 47 [(L 34 0 2 4), (L 53 0 2 4), (L 74 0 2 4)])]⟩
noncomputable def k1 : Kn := ⟨21, [], 96, [],
  (.agg ⟨[(I 1), (I 0), (I 0), (I 0), (S [121]), (L 97 0 1 2), (U 0), F, (U 0), E, (U 0), E, F, (U 0), E, (U 0), E, (I 2), (I 1), F, (U 0), E, (U 0), E, (I 0), (I 0), (U 0), (I 0), (I 0), F, (U 0), E, (U 0), E, (I 0), (I 0), F, (U 0), E, (U 0), E, F, (U 0), E, (U 0), E, (I 0), (I 0), F, (U 0), E, (U 0), E, N, (I 0), (I 0), F, (U 0), E, (U 0), E, F, (U 0), E, (U 0), E, (I 0), (I 0), (I 0), (U 0)]⟩), 98,
  [(97, W 9 [(S [120])])]⟩
noncomputable def k2 : Kn := ⟨19, [(.agg ⟨[(L 32 0 2 262151), (L 93 0 3 393219)]⟩), (.agg ⟨[(I 1), (I 0), (I 0), (I 0), (S [121]), (L 97 0 1 2), (U 0), F, (U 0), E, (U 0), E, F, (U 0), E, (U 0), E, (I 2), (I 1), F, (U 0), E, (U 0), E, (I 0), (I 0), (U 0), (I 0), (I 0), F, (U 0), E, (U 0), E, (I 0), (I 0), F, (U 0), E, (U 0), E, F, (U 0), E, (U 0), E, (I 0), (I 0), F, (U 0), E, (U 0), E, N, (I 0), (I 0), F, (U 0), E, (U 0), E, F, (U 0), E, (U 0), E, (I 0), (I 0), (I 0), (U 0)]⟩)], 98, [(26, W 9 [(S [110, 111]), (S [121, 101, 115])]),
  (32, W 64 [(S [120]), (I 1), N, (S [121]), (I 2), (L 26 0 2 262147)]),
  (34, W 127 [F, F, (U 0), E, (U 0), E, (I 0), F, F, (U 0), E, (U 0), E, (I 0)]),
  (53, W 127 [F, F, (U 1), E, (U 0), E, (I 0), F, F, (U 0), E, (U 0), E, (I 0)]),
  (74, W 127 [F, F, (U 9), E, (U 0), E, (I 0), F, F, (U 0), E, (U 0), E, (I 1)]),
  (93, W 47 [(L 34 0 2 4), (L 53 0 2 4), (L 74 0 2 4)]),
  (97, W 9 [(S [120])])],
  (.tuple ⟨[(.agg ⟨[(I 1), (I 1), (I 0), (L 270 0 2 262151), (L 494 0 1 131109), N, N, F, (U 0), E, (U 0), E, (I 1), (I 2), (I 1), (L 3203 0 3 393259), (I 0), (I 0), (I 0), N, N, (I 0), (I 0), F, (U 0), E, (U 0), E, F, (U 0), E, (U 0), E, F, (U 0), E, (U 0), E, N, N, F, (U 0), E, (U 0), E, N, N, N, N, N, F, (U 0), E, (U 0), E, N, N, N, N]⟩), (I 0)]⟩), 3233,
  [(26, W 9 [(S [110, 111]), (S [121, 101, 115])]),
  (32, W 64 [(S [120]), (I 1), N, (S [121]), (I 2), (L 26 0 2 262147)]),
  (34, W 127 [F, F, (U 0), E, (U 0), E, (I 0), F, F, (U 0), E, (U 0), E, (I 0)]),
  (53, W 127 [F, F, (U 1), E, (U 0), E, (I 0), F, F, (U 0), E, (U 0), E, (I 0)]),
  (74, W 127 [F, F, (U 9), E, (U 0), E, (I 0), F, F, (U 0), E, (U 0), E, (I 1)]),
  (93, W 47 [(L 34 0 2 4), (L 53 0 2 4), (L 74 0 2 4)]),
  (97, W 9 [(S [120])]),
  (270, W 64 [(S [120]), (I 1), N, (S [121]), (I 2), (L 272 0 2 262147)]),
  (272, W 9 [(S [110, 111]), (S [121, 101, 115])]),
  (494, W 183 [(I 0), (I 1), (I 0), F, (U 10), E, (U 3), E, F, (U 0), E, (U 0), E, F, (U 1), E, (U 0), E]),
  (1122, W 3 [(I 2), (I 1)]),
  (2569, W 3 [(I 2), (I 0)]),
  (3199, W 3 [(I 0), (I 1)]),
  (3203, W 373 [(I 0), (I 1), (I 2), (I 3), (I 0), F, (U 5), E, (U 0), E, F, (U 4), E, (U 3), E, F, (U 0), E, (U 0), E, (L 1122 0 2 4), (I (-1)), (I 0), (I 0), (I 2), (I 0), F, (U 0), E, (U 0), E, F, (U 0), E, (U 0), E, F, (U 0), E, (U 0), E, (L 2569 0 2 4), (I (-1)), (I 0), (I 0), (I 1), (I 1), F, (U 0), E, (U 0), E, F, (U 0), E, (U 0), E, F, (U 0), E, (U 0), E, (L 3199 0 2 4)])]⟩
noncomputable def k3 : Kn := ⟨25, [(.agg ⟨[(I 1), (I 1), (I 0), (L 270 0 2 262151), (L 494 0 1 131109), N, N, F, (U 0), E, (U 0), E, (I 1), (I 2), (I 1), (L 3203 0 3 393259), (I 0), (I 0), (I 0), N, N, (I 0), (I 0), F, (U 0), E, (U 0), E, F, (U 0), E, (U 0), E, F, (U 0), E, (U 0), E, N, N, F, (U 0), E, (U 0), E, N, N, N, N, N, F, (U 0), E, (U 0), E, N, N, N, N]⟩)], 3240, [(270, W 64 [(S [120]), (I 1), N, (S [121]), (I 2), (L 272 0 2 262147)]),
  (272, W 9 [(S [110, 111]), (S [121, 101, 115])]),
  (494, W 183 [(I 0), (I 1), (I 0), F, (U 10), E, (U 3), E, F, (U 0), E, (U 0), E, F, (U 1), E, (U 0), E]),
  (1122, W 3 [(I 2), (I 1)]),
  (2569, W 3 [(I 2), (I 0)]),
  (3199, W 3 [(I 0), (I 1)]),
  (3203, W 373 [(I 0), (I 1), (I 2), (I 3), (I 0), F, (U 5), E, (U 0), E, F, (U 4), E, (U 3), E, F, (U 0), E, (U 0), E, (L 1122 0 2 4), (I (-1)), (I 0), (I 0), (I 2), (I 0), F, (U 0), E, (U 0), E, F, (U 0), E, (U 0), E, F, (U 0), E, (U 0), E, (L 2569 0 2 4), (I (-1)), (I 0), (I 0), (I 1), (I 1), F, (U 0), E, (U 0), E, F, (U 0), E, (U 0), E, F, (U 0), E, (U 0), E, (L 3199 0 2 4)])],
  (I 0), 3421,
  [(270, W 64 [(S [120]), (I 1), N, (S [121]), (I 2), (L 272 0 2 262147)]),
  (272, W 9 [(S [110, 111]), (S [121, 101, 115])]),
  (494, W 183 [(I 0), (I 1), (I 0), F, (U 10), E, (U 3), E, F, (U 0), E, (U 0), E, F, (U 1), E, (U 0), E]),
  (1122, W 3 [(I 2), (I 1)]),
  (2569, W 3 [(I 2), (I 0)]),
  (3199, W 3 [(I 0), (I 1)]),
  (3203, W 373 [(I 0), (I 1), (I 2), (I 3), (I 0), F, (U 5), E, (U 0), E, F, (U 4), E, (U 3), E, F, (U 0), E, (U 0), E, (L 1122 0 2 4), (I (-1)), (I 0), (I 0), (I 2), (I 0), F, (U 0), E, (U 0), E, F, (U 0), E, (U 0), E, F, (U 0), E, (U 0), E, (L 2569 0 2 4), (I (-1)), (I 0), (I 0), (I 1), (I 1), F, (U 0), E, (U 0), E, F, (U 0), E, (U 0), E, F, (U 0), E, (U 0), E, (L 3199 0 2 4)])]⟩
noncomputable def k4 : Kn := ⟨22, [(.agg ⟨[(I 1), (I 1), (I 0), (L 270 0 2 262151), (L 494 0 1 131109), N, N, F, (U 0), E, (U 0), E, (I 1), (I 2), (I 1), (L 3203 0 3 393259), (I 0), (I 0), (I 0), N, N, (I 0), (I 0), F, (U 0), E, (U 0), E, F, (U 0), E, (U 0), E, F, (U 0), E, (U 0), E, N, N, F, (U 0), E, (U 0), E, N, N, N, N, N, F, (U 0), E, (U 0), E, N, N, N, N]⟩), (L 3237 0 2 4)], 3238, [(270, W 64 [(S [120]), (I 1), N, (S [121]), (I 2), (L 272 0 2 262147)]),
  (272, W 9 [(S [110, 111]), (S [121, 101, 115])]),
  (494, W 183 [(I 0), (I 1), (I 0), F, (U 10), E, (U 3), E, F, (U 0), E, (U 0), E, F, (U 1), E, (U 0), E]),
  (1122, W 3 [(I 2), (I 1)]),
  (2569, W 3 [(I 2), (I 0)]),
  (3199, W 3 [(I 0), (I 1)]),
  (3203, W 373 [(I 0), (I 1), (I 2), (I 3), (I 0), F, (U 5), E, (U 0), E, F, (U 4), E, (U 3), E, F, (U 0), E, (U 0), E, (L 1122 0 2 4), (I (-1)), (I 0), (I 0), (I 2), (I 0), F, (U 0), E, (U 0), E, F, (U 0), E, (U 0), E, F, (U 0), E, (U 0), E, (L 2569 0 2 4), (I (-1)), (I 0), (I 0), (I 1), (I 1), F, (U 0), E, (U 0), E, F, (U 0), E, (U 0), E, F, (U 0), E, (U 0), E, (L 3199 0 2 4)]),
  (3237, W 127 [F, F, (U 8), E, (U 0), E, (I 0), T, F, (U 0), E, (U 0), E, (I 0)])],
  (.tuple ⟨[(.agg ⟨[(I 1), F, (U 0), E, (U 0), E]⟩), (I 0)]⟩), 3614,
  [(270, W 64 [(S [120]), (I 1), N, (S [121]), (I 2), (L 272 0 2 262147)]),
  (272, W 9 [(S [110, 111]), (S [121, 101, 115])]),
  (494, W 183 [(I 0), (I 1), (I 0), F, (U 10), E, (U 3), E, F, (U 0), E, (U 0), E, F, (U 1), E, (U 0), E]),
  (1122, W 3 [(I 2), (I 1)]),
  (2569, W 3 [(I 2), (I 0)]),
  (3199, W 3 [(I 0), (I 1)]),
  (3203, W 373 [(I 0), (I 1), (I 2), (I 3), (I 0), F, (U 5), E, (U 0), E, F, (U 4), E, (U 3), E, F, (U 0), E, (U 0), E, (L 1122 0 2 4), (I (-1)), (I 0), (I 0), (I 2), (I 0), F, (U 0), E, (U 0), E, F, (U 0), E, (U 0), E, F, (U 0), E, (U 0), E, (L 2569 0 2 4), (I (-1)), (I 0), (I 0), (I 1), (I 1), F, (U 0), E, (U 0), E, F, (U 0), E, (U 0), E, F, (U 0), E, (U 0), E, (L 3199 0 2 4)]),
  (3237, W 127 [F, F, (U 8), E, (U 0), E, (I 0), T, F, (U 0), E, (U 0), E, (I 0)])]⟩
end Go.Proofs.YtdlggegdlknkeaaGreatDoor.Kw
