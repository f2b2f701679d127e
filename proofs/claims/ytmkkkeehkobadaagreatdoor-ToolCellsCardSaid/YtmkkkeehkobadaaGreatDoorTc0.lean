/-
  One cell of a text, by runs: what cell, which, Parse and Cmp tell of the texts that the law makes.
-/
import Derived.Test.YtmkkkeehkobadaaGreatDoorE7
import Derived.Laws.AppendOwn
namespace Go.Proofs.YtmkkkeehkobadaaGreatDoor.Tc
open Go Go.RowKit CX

/- The texts; the words of a column. -/
def texts : List (List UInt8) := [[49], [45, 50, 47, 51], [48, 46, 53], [63], [114, 101, 100], [103, 114, 101, 101, 110], [119, 95, 49], [98, 108, 117, 101], [], [49, 120], [88, 57]]
def wds : List (List UInt8) := [[114, 101, 100], [103, 114, 101, 101, 110], [98, 108, 117, 101], [119, 95, 49], [88, 57]]
def sv (l : List UInt8) : Value := .string ⟨⟨l⟩⟩
/- A fraction's cells; a cell's. -/
def qv (neg : Bool) (n d : Int) : List Value := [.bool neg, .int .u64 n, .string ⟨⟨[]⟩⟩, .int .u64 d, .string ⟨⟨[]⟩⟩]
def qz : List Value := qv false 0 0
def numQ (t : List UInt8) : Option (List Value) := if t = [49] then some (qv false 1 0) else if t = [45, 50, 47, 51] then some (qv true 2 3) else if t = [48, 46, 53] then some (qv false 1 2) else none
def idx (t : List UInt8) : List (List UInt8) → Nat → Option Nat
  | [], _ => none
  | a :: l, i => if a = t then some i else idx t l (i + 1)
def cz (lacks : Bool) (q : List Value) (word : Nat) : List Value := .bool lacks :: q ++ [.int .i64 word]
/- A cell's text in a column: of numbers (0), of so many words. -/
def cellP (kd : Nat) (t : List UInt8) : List Value × Int :=
  if t = [63] then (cz true qz 0, 0) else if kd = 0 then (match numQ t with | some q => (cz false q 0, 0) | none => (cz false qz 0, 2)) else (match idx t (wds.take kd) 0 with | some i => (cz false qz i, 0) | none => (cz false qz 0, 11))
def whichP (kd : Nat) (t : List UInt8) : Int := match idx t (wds.take kd) 0 with | some i => i + 1 | none => 0
def parseP (t : List UInt8) : Value := match numQ t with
  | some q => .tuple ⟨[.agg ⟨q⟩, .bool true]⟩
  | none => .tuple ⟨[.agg ⟨qz⟩, .bool false]⟩

noncomputable def xo (s : Nat → Value) : X := X.mk' Tryz.prog 10 10 8 s noFacts noOrc
theorem xo_ok (s : Nat → Value) : (xo s).Ok := X.mk'_ok _ _ _ _ _ _ _ (noFacts_ok _) (noOrc_ok _ _) (by kernel_rfl)
def kindOf (kd : Nat) : Int := if kd = 0 then 1 else 2
noncomputable def wordsH (kd : Nat) : Hp := lay 9 [(8, .row { newBk 9 ((wds.take kd).map sv) with ro := true })] .empty
def wordsV (kd : Nat) : Value := .slice (some ⟨8, 0, none⟩) kd 3
def colV (kd : Nat) (u : Value) : Value := .agg ⟨[.float .f64 0, .int .i64 (kindOf kd), u]⟩
noncomputable def gets (x : X) (k : Nat) (av : List Value) (h : Hp) (v : Value) : Bool := Option.rec (motive := fun _ => Bool) false (fun p => tupV p.1 v) (fcall x 100000 k av h)
noncomputable def cellB (s : Nat → Value) (kd : Nat) (t : List UInt8) : Bool := gets (xo s) 12 [colV kd (wordsV kd), sv t] (wordsH kd) (.tuple ⟨[.agg ⟨(cellP kd t).1⟩, .int .i64 (cellP kd t).2]⟩)
noncomputable def cell0B (s : Nat → Value) (t : List UInt8) : Bool := gets (xo s) 12 [colV 0 (.float .f64 1), sv t] (Hp.zero 8) (.tuple ⟨[.agg ⟨(cellP 0 t).1⟩, .int .i64 (cellP 0 t).2]⟩)
noncomputable def whichB (s : Nat → Value) (kd : Nat) (t : List UInt8) : Bool := gets (xo s) 15 [wordsV kd, sv t] (wordsH kd) (.int .i64 (whichP kd t))
noncomputable def parseB (s : Nat → Value) (t : List UInt8) : Bool := gets (xo s) 14 [sv t] (Hp.zero 8) (parseP t)
def qs : List (List Value) := [qz, qv false 1 0, qv true 2 3, qv false 1 2]
noncomputable def cmpB (s : Nat → Value) (q : List Value) : Bool := gets (xo s) 10 [.agg ⟨q⟩, .agg ⟨q⟩] (Hp.zero 8) (.int .i64 0)
theorem cell1 (s : Nat → Value) : texts.all (cellB s 1) = true := by kernel_rfl
theorem cell2 (s : Nat → Value) : texts.all (cellB s 2) = true := by kernel_rfl
theorem cell3 (s : Nat → Value) : texts.all (cellB s 3) = true := by kernel_rfl
theorem cell4 (s : Nat → Value) : texts.all (cellB s 4) = true := by kernel_rfl
theorem cell5 (s : Nat → Value) : texts.all (cellB s 5) = true := by kernel_rfl
theorem cell0 (s : Nat → Value) : texts.all (cell0B s) = true := by kernel_rfl
theorem which1 (s : Nat → Value) : texts.all (whichB s 1) = true := by kernel_rfl
theorem which2 (s : Nat → Value) : texts.all (whichB s 2) = true := by kernel_rfl
theorem which3 (s : Nat → Value) : texts.all (whichB s 3) = true := by kernel_rfl
theorem which4 (s : Nat → Value) : texts.all (whichB s 4) = true := by kernel_rfl
theorem which5 (s : Nat → Value) : texts.all (whichB s 5) = true := by kernel_rfl
theorem parse1 (s : Nat → Value) : texts.all (parseB s) = true := by kernel_rfl
theorem cmp1 (s : Nat → Value) : qs.all (cmpB s) = true := by kernel_rfl
end Go.Proofs.YtmkkkeehkobadaaGreatDoor.Tc
