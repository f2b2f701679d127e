/- hand.Q: small fractions, by runs over a symbol. -/
import Derived.Test.YtemgclnkgieldaaGreatDoorMq0
noncomputable section
namespace Go.Proofs.YtemgclnkgieldaaGreatDoor.Mv
open Go Go.RowKit CX Md
def sQ (n:Int):Nat→Value:=fun i=>match i with
 | 0 => .int .i64 n
 | 1 => .int .i64 (IntKind.i64.wrap (n.tdiv 41))
 |_ => .bool false
theorem sQ_one (a:Int)(n:Nat):(sQ a n).oneCell'=true:=by unfold sQ;split <;> rfl
def fQ (op:BinOp)(a b:Value):Option Value:=match op,a,b with
 | .quo,.float .f64 0,.int .i64 41=>some (.float .f64 1)
 |_,_,_=>none
theorem fQ_ok (n:Int):FactsOk (sQ n) fQ:=by
 intro op a b v h
 unfold fQ at h
 split at h
 ·injection h with h
  subst h
  refine ⟨rfl,rfl,rfl,.i64,n,.i64,41,rfl,rfl,fun ty=>?_⟩
  rfl
 ·cases h
def xq (n:Int)(o:Nat→List Value→Hp→Option (Value×Hp)):X:=X.mk' Tryz.prog 10 10 6 (sQ n) fQ o
def qv (m:Int)(d:Nat):List Value:=[.bool (decide (m<0)),.int .u64 ((m.natAbs / Nat.gcd m.natAbs d:Nat):Int),E,.int .u64 ((cond (Nat.beq (d / Nat.gcd m.natAbs d) 1) 0 (d / Nat.gcd m.natAbs d):Nat):Int),E]
def dn (b:Nat):Nat:=match b with
 | 3=>2
 | 4=>3
 | 5=>4
 |_=>1
def oQ (a b:Nat):Nat→List Value→Hp→Option (Value×Hp):=orcOr (orcP 4 [.float .f64 0,.int .i64 41] (.int .i64 (a:Int))) (orcOr (orcP 4 [.float .f64 1,.int .i64 6] (.int .i64 (b:Int))) noOrc)
def qRun (n:Int)(a b:Nat):Bool:=gives1 (xq n (oQ a b)) 100000 23 [.float .f64 0] (.agg ⟨qv ((a:Int) - 20) (dn b)⟩)
theorem q_0 (n:Int):(List.range 41).all (fun a=>qRun n a 0)=true:=by kernel_rfl
theorem q_1 (n:Int):(List.range 41).all (fun a=>qRun n a 1)=true:=by kernel_rfl
theorem q_2 (n:Int):(List.range 41).all (fun a=>qRun n a 2)=true:=by kernel_rfl
theorem q_3 (n:Int):(List.range 41).all (fun a=>qRun n a 3)=true:=by kernel_rfl
theorem q_4 (n:Int):(List.range 41).all (fun a=>qRun n a 4)=true:=by kernel_rfl
theorem q_5 (n:Int):(List.range 41).all (fun a=>qRun n a 5)=true:=by kernel_rfl
end Go.Proofs.YtemgclnkgieldaaGreatDoor.Mv
