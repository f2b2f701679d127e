/- What a function leads to, by a table. -/
import Derived.Test.YtemgclnkgieldaaGreatDoorE4
import Derived.Test.YtemgclnkgieldaaGreatDoorProg
import Derived.JoinedCond
import GoSem.ClaimGoes
noncomputable section
namespace Go.Proofs.YtemgclnkgieldaaGreatDoor.Cl
open Go
theorem band {a b:Bool}(ha:a=true)(hb:b=true):(a && b)=true:=by rw[ha,hb];rfl
def at_ (T:List (List Nat))(f:Nat):List Nat:=Option.rec (motive:=fun _=>List Nat) [] (fun l=>l) (CX.nth T f)
def clos (T:List (List Nat))(n:Nat):List Nat→Nat→List Nat→List Nat :=
 Nat.rec (motive:=fun _=>List Nat→Nat→List Nat→List Nat) (fun _ _ acc=>acc.reverse)
  (fun _ ih todo m acc=>List.rec (motive:=fun _=>List Nat) acc.reverse (fun f rest _=>Bool.rec (motive:=fun _=>List Nat) (ih (CX.app (at_ T f) rest) (Nat.lor m (CX.bitOf f)) (f :: acc)) (ih rest m acc) (CX.bit m f)) todo) n
theorem at_eq {P:Program}{T:List (List Nat)}(hT:P.funcs.toList.map P.leadsTo=T)(f:Nat):(P.funcs[f]?).elim [] P.leadsTo=at_ T f:=by
 subst hT
 unfold at_
 rw[CX.nth_eq,List.getElem?_map,Array.getElem?_toList]
 cases P.funcs[f]? <;> rfl
theorem zof {P:Program}{T:List (List Nat)}(hT:P.funcs.toList.map P.leadsTo=T):∀ (n:Nat) (todo acc:List Nat) (m:Nat),(∀ i,m.testBit i=acc.contains i)→P.closureVia n todo acc=clos T n todo m acc
 | 0,todo,acc,m,_=>by cases todo <;> rfl
 |n+1,[],acc,m,_=>rfl
 |n+1,f :: todo,acc,m,h=>by
  show (if acc.contains f then P.closureVia n todo acc else P.closureVia n ((P.funcs[f]?).elim [] P.leadsTo++todo) (f :: acc))=Bool.rec (motive:=fun _=>List Nat) (clos T n (CX.app (at_ T f) todo) (Nat.lor m (CX.bitOf f)) (f :: acc)) (clos T n todo m acc) (CX.bit m f)
  rw[CX.bit_eq,h f,at_eq hT,CX.app_eq]
  cases hc:acc.contains f with
  |true=>rw[if_pos rfl];exact zof hT n todo acc m h
  |false =>
   rw[if_neg (by simp)]
   refine zof hT n _ _ _ fun i=>?_
   show (m ||| CX.bitOf f).testBit i=_
   rw[Nat.testBit_or,CX.testBit_bitOf,h i,List.contains_cons,Bool.or_comm]
   congr 1
   by_cases hi:f=i
   ·subst hi;simp
   ·simp[hi,Ne.symm hi]
def fuel (T:List (List Nat)):Nat:=1+(T.map fun l=>l.length+1).sum
theorem zrk {P:Program}{T:List (List Nat)}(hT:P.funcs.toList.map P.leadsTo=T)(f:FuncId):P.closure f=clos T (fuel T) [f] 0 []:=by
 have e:(P.funcs.toList.map fun g=>(P.leadsTo g).length+1)=T.map fun l=>l.length+1:=by rw[← hT,List.map_map];rfl
 unfold Program.closure fuel
 rw[e]
 exact zof hT _ _ _ _ fun i=>by rw[Nat.zero_testBit];rfl
theorem zbl {α β:Type}(f:α→β)(l:List α)(k:Nat)(a b:List β)(h1:(l.take k).map f=a)(h2:(l.drop k).map f=b):l.map f=a++b:=by
 rw[← h1, ← h2, ← List.map_append,List.take_append_drop]
theorem zog {P:Program}(f:FuncId)(h:P.funcs.any Func.goes=false):P.goes f=false:=by
 have hall:∀ g:Nat,(P.funcs[g]?).any Func.goes=false:=fun g=>by
  cases hg:P.funcs[g]? with
  |none=>rfl
  |some fn =>
   obtain ⟨hlt,e⟩:=Array.getElem?_eq_some_iff.1 hg
   have:=Array.any_eq_false.1 h g hlt
   rw[e] at this
   simpa using this
 unfold Program.goes
 rw[h,Bool.and_false,Bool.or_false,List.any_eq_false]
 intro g _
 rw[hall g];simp
theorem goes_row {P:Program}{c:OpenClaim}(hs:c.start = .entering)(h:P.funcs.any Func.goes=false):false=c.goesBy P:=by
 unfold OpenClaim.goesBy Program.goesAt Program.goesFrom
 rw[hs]
 cases P.funcNamed c.func with
 |none=>rfl
 |some f=>show false=(P.goes f || false);rw[zog f h];rfl
theorem zbm {α:Type}(p:α→Bool)(l:List α)(k:Nat)(h1:(l.take k).any p=false)(h2:(l.drop k).any p=false):l.any p=false:=by
 rw[← List.take_append_drop k l,List.any_append,h1,h2];rfl
end Go.Proofs.YtemgclnkgieldaaGreatDoor.Cl
