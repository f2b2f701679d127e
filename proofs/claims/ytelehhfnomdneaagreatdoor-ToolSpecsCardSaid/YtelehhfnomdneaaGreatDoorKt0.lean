/-
  Calls of known outcome: their arguments, the blocks that they reach, what comes back.
-/
import Derived.Test.YtelehhfnomdneaaGreatDoorE7
namespace Go.Proofs.YtelehhfnomdneaaGreatDoor.Kw
open Go Go.RowKit CX
def T : Value := .bool true
def F : Value := .bool false
def I (n : Int) : Value := .int .i64 n
def U (n : Int) : Value := .int .u64 n
def Y (n : Int) : Value := .int .u8 n
def S (l : List UInt8) : Value := .string ⟨⟨l⟩⟩
def E : Value := .string ⟨⟨[]⟩⟩
def P0 : Value := .pointer none
def P (b o : Nat) : Value := .pointer (some ⟨b, o, none⟩)
def N : Value := .slice none 0 0
def L (b o n c : Nat) : Value := .slice (some ⟨b, o, none⟩) n c
def sy (n : Nat) : Value := .float .f64 n
noncomputable def W (e : Nat) (l : List Value) : Ob := .row (newBk e l)
noncomputable def R (e : Nat) (l : List Value) : Ob := .row { newBk e l with ro := true }
def M (es : List (Value × Value)) (bs : List Nat) (cl : Nat) : Ob := .map es bs cl
noncomputable def xo (s : Nat → Value) (o : Nat → List Value → Hp → Option (Value × Hp)) : X := X.mk' Tryz.prog 10 10 8 s noFacts o
theorem xo_ok {s : Nat → Value} {o : Nat → List Value → Hp → Option (Value × Hp)} (h : OrcOk Tryz.prog ⟨8, s⟩ o) : (xo s o).Ok := X.mk'_ok _ _ _ _ _ _ _ (noFacts_ok _) h (by kernel_rfl)
noncomputable def k0 : Kn := ⟨64, [(P 11 0)], 13, [(11, W 133 [N, (I 4194304), (I 0), F, F, (I 0)])],
  (.tuple ⟨[(P 14 0), (I 0)]⟩), 16,
  [(11, W 133 [N, (I 4194304), (I 0), F, F, (I 0)]),
  (13, M [] [] 0),
  (14, W 173 [(P 11 0), (I 0), (.map (some 13))])]⟩
end Go.Proofs.YtelehhfnomdneaaGreatDoor.Kw
