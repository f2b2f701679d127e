/- Merged texts. -/
import Derived.Test.YtemgclnkgieldaaGreatDoorMx1
import Derived.Test.YtemgclnkgieldaaGreatDoorMx3a
import Derived.Test.YtemgclnkgieldaaGreatDoorMx3b
import Derived.Test.YtemgclnkgieldaaGreatDoorMx3c
import Derived.Test.YtemgclnkgieldaaGreatDoorMx3d
import Derived.Test.YtemgclnkgieldaaGreatDoorMx5a
import Derived.Test.YtemgclnkgieldaaGreatDoorMx5b
import Derived.Deep.Fields
import Derived.Test.YtemgclnkgieldaaGreatDoorVm
namespace Go.Proofs.YtemgclnkgieldaaGreatDoor.Mv
open Go Go.RowKit CX Md
noncomputable def okf (p:Int×Nat):Bool:=fineB (qv p.1 p.2)
theorem okf_0:f0.all okf=true:=by kernel_rfl
theorem okf_1:f1.all okf=true:=by kernel_rfl
theorem okf_2:f2.all okf=true:=by kernel_rfl
theorem okf_3:f3.all okf=true:=by kernel_rfl
theorem okf_4:f4.all okf=true:=by kernel_rfl
theorem okf_5:f5.all okf=true:=by kernel_rfl
theorem okf_6:f6.all okf=true:=by kernel_rfl
theorem okf_7:f7.all okf=true:=by kernel_rfl
theorem okf_8:f8.all okf=true:=by kernel_rfl
theorem okf_9:f9.all okf=true:=by kernel_rfl
theorem okf_10:f10.all okf=true:=by kernel_rfl
theorem okf_z:gives1 (xo noSym oSm) 100000 33 [.agg ⟨T :: ([F,(U 0),E,(U 0),E]++[I 0])⟩] T=true:=by kernel_rfl
theorem hall:∀ i,i<3→∀ n,bothOk (vrF i) (prF i) (nrF i) (dF i) (vmF i) (pmF i) (nmF i) (cF i) (cxV (qF n))=true
 | 0,_,n=>zhg (g:=fun q=>bothOk vr1 pr1 17447 d1 vm1 pm1 12935 c1 (cxV q)) (zp2 ok1_0 ok1_1 ok1_2 ok1_3 ok1_4 ok1_5 ok1_6 ok1_7 ok1_8 ok1_9 ok1_10) n
 | 1,_,n=>zhg (g:=fun q=>bothOk vr3 pr3 44784 d3 vm3 pm3 42138 c3 (cxV q)) (zp2 ok3_0 ok3_1 ok3_2 ok3_3 ok3_4 ok3_5 ok3_6 ok3_7 ok3_8 ok3_9 ok3_10) n
 | 2,_,n=>zhg (g:=fun q=>bothOk vr5 pr5 65873 d5 vm5 pm5 63967 c5 (cxV q)) (zp2 ok5_0 ok5_1 ok5_2 ok5_3 ok5_4 ok5_5 ok5_6 ok5_7 ok5_8 ok5_9 ok5_10) n
 |i+3,h,_=>absurd h (by omega)
theorem hfin (n:Int):fineB (qF n)=true:=zhg (g:=fineB) (zp2 okf_0 okf_1 okf_2 okf_3 okf_4 okf_5 okf_6 okf_7 okf_8 okf_9 okf_10) n
theorem onceH:Oc.OnceH PR Mo Cq ansM Pv qF:=once_H hall hfin okf_z (Oc.is_one 97 (by decide) (by kernel_rfl))
end Go.Proofs.YtemgclnkgieldaaGreatDoor.Mv
namespace Go.Proofs.YtemgclnkgieldaaGreatDoor.Dk
open Go Go.RowKit Go.ChangeShapes Go.WideShapes
abbrev Raws:=Oc.Raws
section
variable {H:Type}{enc:TypeId×Value→H}{w:World}
theorem zu7 {fuel:Nat}{cs:List Value}{x:DataW H×List MemPlace}(h:DataW.trod enc Tryz.prog w 0 (fun _=>true) true fuel 52 cs=some x) :
  ∀ j,j<7→∃ a:Int,cs[j]? = some (.int .i64 a):=by
 obtain ⟨xs,n,_,_,_,hlen,hg⟩:=DataW.trod_struct Tryz.underlying52 h
 intro j hj
 have one:∀ f:Field,f.type=3→f.offset=j→DataW.trod enc Tryz.prog w 0 (fun _=>true) true n f.type ((cs.drop f.offset).take (Tryz.prog.cellsOf f.type))=xs[j]? → (∃ y,xs[j]? = some y)→∃ a:Int,cs[j]? = some (.int .i64 a):=by
  intro f e1 e2 hf ⟨y,hy⟩
  rw[hy,e1,e2] at hf
  obtain ⟨a,hc,_⟩:=DataW.trod_int Tryz.underlying3 hf
  refine ⟨a,?_⟩
  have h0:=congrArg (·[0]?) hc
  simp only[List.getElem?_cons_zero] at h0
  rw[List.getElem?_take_of_lt (by rw[show Tryz.prog.cellsOf 3=1 by kernel_rfl];omega),List.getElem?_drop] at h0
  simpa using h0
 have hl:xs.length=7:=hlen
 have some_:∃ y,xs[j]? = some y:=⟨xs[j]'(by omega),List.getElem?_eq_getElem (by omega)⟩
 match j,hj with
 | 0,_=>exact one _ rfl rfl (hg 0 _ rfl) some_
 | 1,_=>exact one _ rfl rfl (hg 1 _ rfl) some_
 | 2,_=>exact one _ rfl rfl (hg 2 _ rfl) some_
 | 3,_=>exact one _ rfl rfl (hg 3 _ rfl) some_
 | 4,_=>exact one _ rfl rfl (hg 4 _ rfl) some_
 | 5,_=>exact one _ rfl rfl (hg 5 _ rfl) some_
 | 6,_=>exact one _ rfl rfl (hg 6 _ rfl) some_
theorem raws_open {A:Option Addr}{n c:Nat}{d:DataW H}{p:List MemPlace}(h:DataW.Trod enc Tryz.prog w 0 (fun _=>true) true 22 (.slice A n c) d p) :
  n≤c∧n≤9223372036854775807∧(A=none→n=0)∧Raws w A n:=by
 obtain ⟨fuel,hf⟩:=h
 rcases Deep.open_slice Tryz.underlying22 hf with ⟨hcs,_⟩|⟨a,len,cap,m,fu,D,Pl,hcs,hb,hl,hm,hmm,hx,hi⟩
 ·simp[Value.cells] at hcs
  obtain ⟨rfl,rfl,rfl⟩:=hcs
  exact ⟨Nat.le_refl _,by omega,fun _=>rfl,fun h=>by omega⟩
 ·simp[Value.cells] at hcs
  obtain ⟨rfl,rfl,rfl⟩:=hcs
  simp only[if_true] at hmm
  subst hmm
  have hC:Tryz.prog.cellsOf 52=7:=by kernel_rfl
  rw[hC] at hi
  have cell:∀ k,k<n→∀ j,j<7→∃ x:Int,w.cell? (a.add (k*7+j))=some (.int .i64 x):=by
   intro k hk j hj
   obtain ⟨cs',hc,ht⟩:=hi k (by omega)
   obtain ⟨_,_,hat⟩:=World.cells?_some hc
   obtain ⟨x,hx⟩:=zu7 ht j hj
   refine ⟨x,?_⟩
   have h1:=(hat j hj).trans hx
   have e:(a.add (k*7)).add j=a.add (k*7+j):=by
    unfold Addr.add
    by_cases h1:k*7=0 <;> by_cases h2:j=0 <;> simp[h1,h2,Nat.add_assoc]
   rwa[e] at h1
  refine ⟨hl,by unfold maxLen at hm;omega,fun e=>(by cases e),fun hn=>⟨a,rfl,?_,cell⟩⟩
  obtain ⟨x,hx⟩:=cell 0 hn 0 (by omega)
  have:=World.block_lt_of_cell? w _ hx
  rwa[za8] at this
end
end Go.Proofs.YtemgclnkgieldaaGreatDoor.Dk
namespace Go.Proofs.YtemgclnkgieldaaGreatDoor.serveOnce
open Go Go.RowKit
theorem walk (a0:Option Addr)(len0 cap0:Nat)(a1 a2:Int)(W:World)(w0:len0≤cap0∧len0≤9223372036854775807∧(a0=none→len0=0)∧Dk.Raws W a0 len0)(_w1:(Lit.int .i64 a1).wf=true)(_w2:(Lit.int .i64 a2).wf=true) :
  Calls Tryz.prog 3 #[.slice a0 len0 cap0,.int .i64 a1,.int .i64 a2] W fun e w'=>e = .returned (.bool true)∧Below W.heap.size W w':=by
 obtain ⟨l1,l2,l3,l4⟩:=w0
 exact Oc.once_walk Mv.onceH a0 len0 cap0 a1 a2 W l4 l1 l2 l3
end Go.Proofs.YtemgclnkgieldaaGreatDoor.serveOnce
