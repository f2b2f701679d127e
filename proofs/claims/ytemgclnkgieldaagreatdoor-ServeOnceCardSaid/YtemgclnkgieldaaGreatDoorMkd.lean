/- Rows that stand for reading, as data. -/
import Derived.Test.YtemgclnkgieldaaGreatDoorE7
noncomputable section
namespace Go.Proofs.YtemgclnkgieldaaGreatDoor.Md
open Go Go.RowKit CX
def roO:Ob→Ob
 | .row b => .row { b with ro:=true }
 |o=>o
def roL (l:List (Nat×Ob)):List (Nat×Ob):=l.map fun p=>(p.1,roO p.2)
abbrev PL:=List (Nat×Nat×List Value)
def pW (q:Nat×Nat×List Value):Nat×Ob:=(q.1,.row (newBk q.2.1 q.2.2))
def rl (pl:PL):List (Nat×Ob):=roL (pl.map pW)
def nms (pl:PL):List Nat:=pl.map (·.1)
end Go.Proofs.YtemgclnkgieldaaGreatDoor.Md
