/- Merged texts. -/
import Derived.Test.YtemgclnkgieldaaGreatDoorVq
import Derived.Test.YtemgclnkgieldaaGreatDoorVo
import Derived.Test.YtemgclnkgieldaaGreatDoorVk
import Derived.Test.YtemgclnkgieldaaGreatDoorMw0
import Derived.Test.YtemgclnkgieldaaGreatDoorMp4
import Derived.Test.YtemgclnkgieldaaGreatDoorMq1
import Derived.Test.YtemgclnkgieldaaGreatDoorMq2
import Derived.Test.YtemgclnkgieldaaGreatDoorVp
set_option maxHeartbeats 2000000
set_option maxRecDepth 100000
noncomputable section
namespace Go.Proofs.YtemgclnkgieldaaGreatDoor.CX
open Go Go.RowKit Fr
def orcG (f0:Nat)(g:List Value→Option Value):Nat→List Value→Hp→Option (Value×Hp):=fun f av h=>cond (Nat.beq f f0) (Option.rec (motive:=fun _=>Option (Value×Hp)) none (fun v=>some (v,h)) (g av)) none
theorem zdx {P:Program}{ng:Gb}{f0:Nat}{g:List Value→Option Value}(hg0:∀ al v,g al=some v→allB plain al=true∧plain v=true∧∀ W,Calls P f0 ⟨al⟩ W fun e w'=>e = .returned v∧Below W.heap.size W w'):OrcOk P ng (orcG f0 g):=by
 intro k av h v h' hh E w av' H _ ha
 unfold orcG at hh
 replace hh:=zac hh;obtain ⟨h1,hh⟩:=hh
 have h1:=zay h1;subst h1
 cases hr:g av with
 |none=>rw[hr] at hh;cases hh
 |some u =>
  rw[hr] at hh
  injection hh with hh;injection hh with h3 h4;subst h3;subst h4
  obtain ⟨p1,p2,p3⟩:=hg0 av u hr
  rw[LR.plain_eq p1 ha]
  refine (p3 w).mono ?_
  rintro e w' ⟨rfl,hb⟩
  exact ⟨E,u,rfl,Stp.of_below H hb,VR.of_plain p2⟩
def nat1 (v:Value):Option Nat:=match v with
 | .agg ⟨[.int .u64 (.ofNat a),.string ⟨⟨[]⟩⟩]⟩=>some a
 |_=>none
def whole1 (v:Value):Option Nat:=match v with
 | .agg ⟨[.bool _,.int .u64 (.ofNat a),.string ⟨⟨[]⟩⟩]⟩=>some a
 |_=>none
theorem zky {v:Value}{a:Nat}(h:nat1 v=some a):v=nV a:=by
 unfold nat1 at h
 split at h
 ·injection h with h;subst h;rfl
 ·cases h
theorem zmv {v:Value}{a:Nat}(h:whole1 v=some a):∃ s,v=iV s a:=by
 unfold whole1 at h
 split at h
 ·injection h with h;subst h;exact ⟨_,rfl⟩
 ·cases h
def lt64 (a:Nat):Bool:=Nat.blt a 18446744073709551616
theorem zdb {a:Nat}(h:lt64 a=true):a<18446744073709551616:=by simpa [lt64,Nat.blt_eq] using h
def g2 (f:Nat→Nat→Option Value)(al:List Value):Option Value:=match al with
 | [x,y]=>match nat1 x,nat1 y with
  |some a,some b=>cond (lt64 a && lt64 b) (f a b) none
  |_,_=>none
 |_=>none
theorem zww {f:Nat→Nat→Option Value}{al:List Value}{v:Value}(h:g2 f al=some v):∃ a b,al=[nV a,nV b]∧a<18446744073709551616∧b<18446744073709551616∧f a b=some v:=by
 unfold g2 at h
 split at h
 ·split at h
  ·rename_i a b ha hb
   replace h:=zac h
   obtain ⟨h1,h⟩:=h
   rw[Bool.and_eq_true] at h1
   exact ⟨a,b,by rw[zky ha,zky hb],zdb h1.1,zdb h1.2,h⟩
  ·cases h
 ·cases h
def vN (a:Nat):Value := .agg ⟨[.int .u64 (.ofNat a),.string ⟨⟨[]⟩⟩]⟩
def fMul (a b:Nat):Option Value:=cond (lt64 (a*b)) (some (vN (a*b))) none
def fAdd (a b:Nat):Option Value:=cond (lt64 (a+b)) (some (vN (a+b))) none
def fCmp (a b:Nat):Option Value:=some (.int .i64 (cond (Nat.blt a b) (-1) (cond (Nat.blt b a) 1 0)))
def gGcd (al:List Value):Option Value:=match al with
 | [x,y]=>match whole1 x,whole1 y with
  |some a,some b=>cond (lt64 a && lt64 b) (some (vN (Nat.gcd a b))) none
  |_,_=>none
 |_=>none
def gFrom (al:List Value):Option Value:=match al with
 | [.bool s,y]=>match nat1 y with
  |some a=>cond (lt64 a) (some (.agg ⟨[.bool (s && Nat.blt 0 a),.int .u64 (.ofNat a),.string ⟨⟨[]⟩⟩]⟩)) none
  |none=>none
 |_=>none
theorem oMul (ng:Gb):OrcOk Tryz.prog ng (orcG 356 (g2 fMul)):=zdx fun al v h=>by
 obtain ⟨a,b,rfl,ha,hb,hf⟩:=zww h
 obtain ⟨h1,hf⟩:=zac hf
 injection hf with hf;subst hf
 exact ⟨rfl,rfl,fun W=>zrh a b (zdb h1) ha hb W⟩
theorem oAdd (ng:Gb):OrcOk Tryz.prog ng (orcG 541 (g2 fAdd)):=zdx fun al v h=>by
 obtain ⟨a,b,rfl,ha,hb,hf⟩:=zww h
 obtain ⟨h1,hf⟩:=zac hf
 injection hf with hf;subst hf
 exact ⟨rfl,rfl,fun W=>zrg a b _ rfl (zdb h1) W⟩
theorem oCmp (ng:Gb):OrcOk Tryz.prog ng (orcG 171 (g2 fCmp)):=zdx fun al v h=>by
 obtain ⟨a,b,rfl,ha,hb,hf⟩:=zww h
 unfold fCmp at hf
 injection hf with hf;subst hf
 refine ⟨rfl,rfl,fun W=>?_⟩
 have h1:(cond (Nat.blt a b) (-1) (cond (Nat.blt b a) 1 0):Int)=cmpI a b:=by
  unfold cmpI
  rw[Bool.cond_eq_ite,Bool.cond_eq_ite]
  simp only[Nat.blt_eq]
 rw[h1]
 exact zjp a b W
theorem oGcd (ng:Gb):OrcOk Tryz.prog ng (orcG 411 gGcd):=zdx fun al v h=>by
 unfold gGcd at h
 split at h
 ·split at h
  ·rename_i a b ha hb
   obtain ⟨h1,h⟩:=zac h
   rw[Bool.and_eq_true] at h1
   injection h with h;subst h
   obtain ⟨s,rfl⟩:=zmv ha
   obtain ⟨t,rfl⟩:=zmv hb
   exact ⟨rfl,rfl,fun W=>zz0 s t a b (zdb h1.1) (zdb h1.2) W⟩
  ·cases h
 ·cases h
theorem oFrom (ng:Gb):OrcOk Tryz.prog ng (orcG 119 gFrom):=zdx fun al v h=>by
 unfold gFrom at h
 split at h
 ·split at h
  ·rename_i s y _ a ha
   obtain ⟨h1,h⟩:=zac h
   injection h with h;subst h
   rw[zky ha]
   refine ⟨rfl,rfl,fun W=>?_⟩
   have h2:Nat.blt 0 a=decide (0<a):=by rw[Bool.eq_iff_iff];simp[Nat.blt_eq]
   rw[h2]
   exact zwu s a (zdb h1) W
  ·cases h
 ·cases h
def frac1 (v:Value):Option (Bool×Nat×Nat):=match v with
 | .agg ⟨[.bool s,.int .u64 (.ofNat a),.string ⟨⟨[]⟩⟩,.int .u64 (.ofNat d),.string ⟨⟨[]⟩⟩]⟩=>some (s,a,d)
 |_=>none
theorem zpx {v:Value}{s:Bool}{a d:Nat}(h:frac1 v=some (s,a,d)):v=qV s a d:=by
 unfold frac1 at h
 split at h
 ·injection h with h;injection h with h1 h;injection h with h2 h3;subst h1;subst h2;subst h3;rfl
 ·cases h
def gIs (al:List Value):Option Value:=match al with
 | [x]=>match frac1 x with
  |some (_,_,d)=>cond (lt64 d) (some (.bool (Nat.beq d 0))) none
  |none=>none
 |_=>none
def gDen (al:List Value):Option Value:=match al with
 | [x]=>match frac1 x with
  |some (_,_,d)=>cond (lt64 d) (some (vN (cond (Nat.beq d 0) 1 d))) none
  |none=>none
 |_=>none
def fOver (a b:Nat):Option Value:=cond (Nat.blt 0 b) (some (vN (a / b))) none
def gPack (al:List Value):Option Value:=match al with
 | [.agg ⟨[.bool s,.int .u64 (.ofNat a),.string ⟨⟨[]⟩⟩]⟩,y]=>match nat1 y with
  |some d=>cond (lt64 d) (some (.agg ⟨[.bool s,.int .u64 (.ofNat a),.string ⟨⟨[]⟩⟩,.int .u64 (.ofNat (cond (Nat.beq d 1) 0 d)),.string ⟨⟨[]⟩⟩]⟩)) none
  |none=>none
 |_=>none
theorem zkz (a b:Nat):Nat.beq a b=decide (a=b):=by
 rw[Bool.eq_iff_iff];simp
theorem oIs (ng:Gb):OrcOk Tryz.prog ng (orcG 66 gIs):=zdx fun al v h=>by
 unfold gIs at h
 split at h
 ·split at h
  ·rename_i x s a d hx
   obtain ⟨h1,h⟩:=zac h
   injection h with h;subst h
   rw[zpx hx,zkz]
   exact ⟨rfl,rfl,fun W=>zii s a d (zdb h1) W⟩
  ·cases h
 ·cases h
theorem oDen (ng:Gb):OrcOk Tryz.prog ng (orcG 70 gDen):=zdx fun al v h=>by
 unfold gDen at h
 split at h
 ·split at h
  ·rename_i x s a d hx
   obtain ⟨h1,h⟩:=zac h
   injection h with h;subst h
   rw[zpx hx]
   refine ⟨rfl,rfl,fun W=>?_⟩
   have h2:cond (Nat.beq d 0) 1 d=if d=0 then 1 else d:=by rw[zkz,Bool.cond_decide]
   rw[h2]
   exact zz1 s a d (zdb h1) W
  ·cases h
 ·cases h
theorem oOver (ng:Gb):OrcOk Tryz.prog ng (orcG 414 (g2 fOver)):=zdx fun al v h=>by
 obtain ⟨a,b,rfl,ha,hb,hf⟩:=zww h
 obtain ⟨h1,hf⟩:=zac hf
 injection hf with hf;subst hf
 exact ⟨rfl,rfl,fun W=>zwv a b ha hb (by simpa [Nat.blt_eq] using h1) W⟩
theorem oPack (ng:Gb):OrcOk Tryz.prog ng (orcG 412 gPack):=zdx fun al v h=>by
 unfold gPack at h
 split at h
 ·split at h
  ·rename_i s a y _ d hd
   obtain ⟨h1,h⟩:=zac h
   injection h with h;subst h
   rw[zky hd]
   refine ⟨rfl,rfl,fun W=>?_⟩
   have h2:cond (Nat.beq d 1) 0 d=if d=1 then 0 else d:=by rw[zkz,Bool.cond_decide]
   rw[h2]
   exact zkp s a d (zdb h1) W
  ·cases h
 ·cases h
def oSm:Nat→List Value→Hp→Option (Value×Hp):=orcOr (orcG 119 gFrom) (orcOr (orcG 356 (g2 fMul)) (orcOr (orcG 411 gGcd) (orcOr (orcG 171 (g2 fCmp)) (orcOr (orcG 541 (g2 fAdd)) (orcOr (orcG 70 gDen) (orcOr (orcG 414 (g2 fOver)) (orcOr (orcG 66 gIs) (orcG 412 gPack))))))))
theorem zmw (ng:Gb):OrcOk Tryz.prog ng oSm:=zaf (oFrom ng) (zaf (oMul ng) (zaf (oGcd ng) (zaf (oCmp ng) (zaf (oAdd ng) (zaf (oDen ng) (zaf (oOver ng) (zaf (oIs ng) (oPack ng))))))))
end Go.Proofs.YtemgclnkgieldaaGreatDoor.CX
namespace Go.Proofs.YtemgclnkgieldaaGreatDoor.Md
open Go Go.RowKit Dk CX
def okTy (t:TypeId):Bool:=t == 43 || t == 62 || t == 259 || t == 313 || t == 195 || t == 423
def tyO (pl:PL):Bool:=pl.all fun q=>okTy q.2.1
theorem IsP.kind {pl:PL}{vl:List Value}{n:Nat}{w w':World}{far p:Nat→Prop}{cs:Array Value}{ng:Gb}(h:IsP pl vl n w far cs ng)(ht:tyO pl=true)(ha:Alt w w' p)(hp:∀ k cs' t fr,k<w.heap.size→p k→w.heap[k]? = some (.cells cs' t fr)→okTy t=false):IsP pl vl n w' far cs ng:=by
 obtain ⟨E,h1,h2,h3⟩:=h
 refine ⟨E,⟨h1.fresh,fun q hq=>?_,h1.inj⟩,h2,h3⟩
 obtain ⟨e,he,ho,hno⟩:=h1.ob q hq
 refine ⟨e,he,ObR.kept ho (ha.block _ ho.lt (fun hpk=>?_)),hno⟩
 have ht':=List.all_eq_true.1 ht q hq
 obtain ⟨cs',fr,hh,_⟩:=ho
 have h5:=hp _ _ _ _ (lt_of_block hh) hpk hh
 have h6:okTy q.2.1=false:=h5
 rw[h6] at ht'
 cases ht'
theorem zz2 {w:World}{k:Nat}{cs:Array Value}{t:TypeId}{fr:Nat×Nat}(h:Oc.TS w k)(hh:w.heap[k]? = some (.cells cs t fr)):okTy t=false:=by
 rcases h with (⟨es,q,e⟩|⟨cs',t',fr',e,ht⟩)|⟨cs',t',fr',e,ht⟩
 ·rw[hh] at e;cases e
 ·rw[hh] at e
  injection e with e
  injection e with _ e2
  subst e2
  rcases ht with rfl|rfl|rfl|rfl <;> decide
 ·rw[hh] at e
  injection e with e
  injection e with _ e2
  subst e2
  rcases ht with rfl|rfl|rfl|rfl <;> decide
theorem zz3 {w:World}{k:Nat}{cs:Array Value}{t:TypeId}{fr:Nat×Nat}(h:Oc.TI w k∨Oc.TZ w k)(hh:w.heap[k]? = some (.cells cs t fr)):okTy t=false:=by
 rcases h with ⟨cs',fr',e⟩|⟨cs',fr',e⟩
 ·rw[hh] at e
  injection e with e
  injection e with _ e2
  subst e2;decide
 ·rw[hh] at e
  injection e with e
  injection e with _ e2
  subst e2;decide
def cellP (n:Nat)(pl:PL)(xs:List Value):List (Nat×Ob):=(n,roO (.row (newBk 124 xs))) :: rl pl
theorem IsP.cells {pl:PL}{vl:List Value}{n:Nat}{w:World}{far:Nat→Prop}{cs:Array Value}{ng:Gb}(h:IsP pl vl n w far cs ng)(g:good (nms pl) pl vl=true)(hn:(nms pl).all (fun b=>decide (b<n))=true)(hng:ng.n≤n)(ht:tyO pl=true){xs:List Value}(hx:allB CX.plainCell xs=true){cb c:Nat}(hr:w.ownsRow 0 124 7 (.slice (some ⟨cb,0,none⟩) 2 c) 2 xs) :
  ∃ E,St1 E (n+1) (cellP n pl xs) w (fun _=>False)∧GOk ng E∧VR E (.agg ⟨vl⟩) (.agg cs)∧VR E (.slice (some ⟨n,0,none⟩) 2 262159) (.slice (some ⟨cb,0,none⟩) 2 c):=by
 obtain ⟨E,h1,h2,h3⟩:=h
 obtain ⟨g1,g2⟩:=zuz g
 obtain ⟨hxl,hrr⟩:=hr
 obtain ⟨cur,hcell,hsz,hlc,htk⟩:∃ cur:Array Value,w.heap[cb]? = some (.cells cur 124 (0,0))∧cur.size=c*7∧2≤c∧cur.toList.take (2*7)=xs:=by
  rcases hrr with ⟨h,_⟩|⟨g',cap,cur,e,_,hh,hle,_,hsz,htk⟩
  ·cases h
  ·injection e with e1 e2 e3
   injection e1 with e1
   injection e1 with e1
   subst e1;subst e3
   exact ⟨cur,hh,hsz,hle,htk⟩
 have hfn:E n=none:=h1.fresh n (Nat.le_refl _)
 have hle:E.le (E.add n ⟨cb,0,c*7⟩):=En.le_add hfn
 have hself:=En.add_self E n ⟨cb,0,c*7⟩
 have hlt:∀ q∈pl,q.1<n:=fun q hq=>by simpa using List.all_eq_true.1 hn q.1 (List.mem_map.2 ⟨q,hq,rfl⟩)
 have hm:∀ i o,(lay (n+1) (cellP n pl xs) .empty).ob i=some o→(i=n∧o=roO (.row (newBk 124 xs)))∨∃ q∈pl,i=q.1∧o=roO (pW q).2:=fun i o hi=>by
  rcases List.mem_cons.1 (zec hi) with e|e
  ·injection e with e1 e2;exact .inl ⟨e1,e2⟩
  ·obtain ⟨q,hq,e⟩:=zpu e
   injection e with e1 e2;exact .inr ⟨q,hq,e1,e2⟩
 have hq1:∀ q∈pl,∃ e,(E.add n ⟨cb,0,c*7⟩) q.1=some e∧E q.1=some e∧ObR E w e (roO (pW q).2):=fun q hq=>by
  obtain ⟨e,he,ho,_⟩:=h1.ob q hq
  exact ⟨e,hle _ _ he,he,ho⟩
 have hdif:∀ q∈pl,∀ e,(E.add n ⟨cb,0,c*7⟩) q.1=some e→e.blk≠cb:=fun q hq e he hb=>by
  obtain ⟨e',he',_,ho⟩:=hq1 q hq
  rw[he] at he'
  injection he' with he'
  subst he'
  obtain ⟨cs',fr,hh,_⟩:=ho
  rw[hb,hcell] at hh
  injection hh with hh
  injection hh with _ hh
  have ht':=List.all_eq_true.1 ht q hq
  have h6:q.2.1=124:=hh.symm
  rw[h6] at ht'
  revert ht';decide
 have hnm:∀ b∈nms pl,(E.add n ⟨cb,0,c*7⟩) b=E b:=fun b hb=>by
  obtain ⟨q,hq,rfl⟩:=List.mem_map.1 hb
  exact En.add_ne _ _ (by have:=hlt q hq;omega)
 refine ⟨E.add n ⟨cb,0,c*7⟩,⟨⟨fun i hi=>?_,fun i o hi=>?_,fun i j o o' e e' hi hj he he' hb=>?_⟩,fun p hp=>?_,fun _ _ _ _ _ h=>h⟩,h2.mono hle,zpt h3 g2 hnm,?_⟩
 ·have hi':n+1≤i:=hi
  rw[En.add_ne _ _ (by omega)]
  exact h1.fresh i (by omega)
 ·rcases hm i o hi with ⟨rfl,rfl⟩|⟨q,hq,rfl,rfl⟩
  ·refine ⟨_,hself,cur,(0,0),hcell,by show cur.size=0+c*7;omega,?_,fun j v hj=>?_,(fun h=>by cases h),(fun h=>by cases h)⟩
   ·show len xs≤c*7
    rw[za9];omega
   ·have hj':xs[j]? = some v:=by
     have:=zcm 124 xs j
     rw[← this];exact hj
    have hv:CX.plainCell v=true:=(zag _ _).1 hx v (List.mem_of_getElem? hj')
    refine ⟨v,?_,.plain hv⟩
    rw[← htk,List.getElem?_take] at hj'
    split at hj'
    ·simpa using hj'
    ·cases hj'
  ·obtain ⟨e,he,_,ho⟩:=hq1 q hq
   exact ⟨e,he,ho.mono hle rfl⟩
 ·rcases hm i o hi with ⟨rfl,rfl⟩|⟨q,hq,rfl,rfl⟩ <;> rcases hm j o' hj with ⟨rfl,rfl⟩|⟨q',hq',rfl,rfl⟩
  ·rfl
  ·rw[hself] at he
   injection he with he
   subst he
   exact absurd hb.symm (hdif q' hq' e' he')
  ·rw[hself] at he'
   injection he' with he'
   subst he'
   exact absurd hb (hdif q hq e he)
  ·obtain ⟨e1,he1,he2,_⟩:=hq1 q hq
   obtain ⟨e3,he3,he4,_⟩:=hq1 q' hq'
   rw[he] at he1;injection he1 with he1;subst he1
   rw[he'] at he3;injection he3 with he3;subst he3
   exact h1.inj q hq q' hq' e e' he2 he4 hb
 ·rcases List.mem_cons.1 hp with rfl|hp
  ·rfl
  ·obtain ⟨q,hq,rfl⟩:=zpu hp
   rfl
 ·have h5:=VR.slice (E:=E.add n ⟨cb,0,c*7⟩) (b:=n) (o:=0) (n:=2) (c:=262159) (c':=c) hself (Or.inr ⟨by decide,by omega,by show 0+c*7=c*7;omega,by decide⟩)
  simpa using h5
def outB (o:Option (Value×Hp))(v:Value):Bool:=Option.rec (motive:=fun _=>Bool) false (fun p=>tupV p.1 v) o
theorem zpy {x:X}(hx:x.Ok){fuel k n0:Nat}{av:List Value}{pre:List (Nat×Ob)}{v:Value}{h':Hp}(hf:fcall x fuel k av (lay n0 pre .empty)=some (v,h'))(hv:plain2 v=true){E:En}{w:World}{far:Nat→Prop}{av':List Value}(H:St1 E n0 pre w far)(hg:GOk x.ng E)(ha:LR E av av') :
  Calls x.P k ⟨av'⟩ w fun e w'=>e = .returned v∧Below w.heap.size w w':=by
 rw[zei] at hf
 refine (zcg hx hf H.hr hg ha).mono ?_
 rintro e w' ⟨E',u',rfl,st,hu⟩
 rw[VR.plain2_eq hv hu]
 exact ⟨rfl,st.below (Nat.le_refl _) (fun k _=>H.noImg k)⟩
theorem zu6 {x:X}(hx:x.Ok){fuel k n0:Nat}{av:List Value}{pre:List (Nat×Ob)}{v:Value}(hh:outB (fcall x fuel k av (lay n0 pre .empty)) v=true)(hv:plain2 v=true){E:En}{w:World}{far:Nat→Prop}{av':List Value}(H:St1 E n0 pre w far)(hg:GOk x.ng E)(ha:LR E av av') :
  Calls x.P k ⟨av'⟩ w fun e w'=>e = .returned v∧Below w.heap.size w w':=by
 unfold outB at hh
 cases hf:fcall x fuel k av (lay n0 pre .empty) with
 |none=>rw[hf] at hh;cases hh
 |some p =>
  obtain ⟨u,h'⟩:=p
  rw[hf] at hh
  have:=zj8 (a:=u) (b:=v) hh;subst this
  exact zpy hx hf hv H hg ha
end Go.Proofs.YtemgclnkgieldaaGreatDoor.Md
namespace Go.Proofs.YtemgclnkgieldaaGreatDoor.Mv
open Go Go.RowKit CX Md
theorem zpz (n:Int)(i:Nat)(m v:Int)(u:Int)(hu:sQ n i = .int .i64 u)(h0:0<m)(h1:m≤1000000)(hv:u % m=v):OrcOk Tryz.prog ⟨6,sQ n⟩ (orcP 4 [.float .f64 i,.int .i64 m] (.int .i64 v)):=by
 refine zsn rfl (u0 := .int .i64 v) (fun E _ => .plain rfl) (fun W=>?_)
 show Calls Tryz.prog 4 #[sQ n i,.int .i64 m] W _
 rw[hu]
 refine (Oc.pick_any u m W h0 h1).mono ?_
 rintro e w' ⟨rfl,rfl⟩
 exact ⟨by rw[hv],Below.refl _ _⟩
theorem xq_ok (n:Int)(a b:Nat)(ha:n % 41=(a:Int))(hb:IntKind.i64.wrap (n.tdiv 41) % 6=(b:Int)):(xq n (oQ a b)).Ok :=
 X.mk'_ok _ _ _ _ _ _ _ (fQ_ok n) (zaf (zpz n 0 41 a n rfl (by decide) (by decide) ha) (zaf (zpz n 1 6 b _ rfl (by decide) (by decide) hb) (zaq _ _))) (by kernel_rfl)
theorem q_all (n:Int){a b:Nat}(ha:a<41)(hb:b<6):qRun n a b=true:=by
 have key:∀ c,(List.range 41).all (fun a=>qRun n a c)=true→qRun n a c=true:=fun c h=>List.all_eq_true.1 h a (List.mem_range.2 ha)
 have:b=0∨b=1∨b=2∨b=3∨b=4∨b=5:=by omega
 rcases this with rfl|rfl|rfl|rfl|rfl|rfl
 ·exact key 0 (q_0 n)
 ·exact key 1 (q_1 n)
 ·exact key 2 (q_2 n)
 ·exact key 3 (q_3 n)
 ·exact key 4 (q_4 n)
 ·exact key 5 (q_5 n)
def qa (n:Int):Nat:=(n % 41).toNat
def qb (n:Int):Nat:=(IntKind.i64.wrap (n.tdiv 41) % 6).toNat
def qF (n:Int):List Value:=qv ((qa n:Int) - 20) (dn (qb n))
theorem qa_eq (n:Int):n % 41=(qa n:Int)∧qa n<41:=by
 have h1:=Int.emod_nonneg n (by decide:(41:Int)≠0)
 have h2:=Int.emod_lt_of_pos n (by decide:(0:Int)<41)
 unfold qa
 omega
theorem qb_eq (n:Int):IntKind.i64.wrap (n.tdiv 41) % 6=(qb n:Int)∧qb n<6:=by
 have h1:=Int.emod_nonneg (IntKind.i64.wrap (n.tdiv 41)) (by decide:(6:Int)≠0)
 have h2:=Int.emod_lt_of_pos (IntKind.i64.wrap (n.tdiv 41)) (by decide:(0:Int)<6)
 unfold qb
 omega
theorem q_ok:Oc.QOk qF:=by
 refine ⟨fun n=>⟨rfl,fun u hu=>?_⟩,fun n w=>?_⟩
 ·unfold qF qv at hu
  simp only[List.mem_cons,List.mem_nil_iff,or_false] at hu
  rcases hu with rfl|rfl|rfl|rfl|rfl <;> rfl
 ·obtain ⟨h1,h2⟩:=qa_eq n
  obtain ⟨h3,h4⟩:=qb_eq n
  exact zqh (x:=xq n (oQ (qa n) (qb n))) (xq_ok n _ _ h1 h3) (sQ_one n) (q_all n h2 h4) rfl rfl w
end Go.Proofs.YtemgclnkgieldaaGreatDoor.Mv
namespace Go.Proofs.YtemgclnkgieldaaGreatDoor.Oc
open Go Go.RowKit Dk
def PR0:SMod:=fun _ _ _=>False
def ans0 (_:List Int)(_:List Value):List Value×Int:=(zR,0)
theorem an0:AnsH PR0 (fun _=>True) (fun _=>True) ans0:=⟨fun _ _ _ _ _ h=>h.elim,fun _ _ _ _=>⟨rfl,zmn⟩,fun _ _ _ _ _ _ _ h=>h.elim⟩
theorem zz4 {w:World}{B sp bk Mo W now:Nat}{gA:Option Addr}{gc:Nat}{gs:List Gp}{PR:SMod}{M:List Int→Prop}{Cq:List Value→Prop}(hs:SVw PR M Cq w B sp bk Mo W now gA gc gs) :
  Calls Tryz.prog 28 #[.pointer (some ⟨sp,0,none⟩)] w fun e w'=>e = .returned (.int .i64 (now:Int))∧w'=w:=by
 have y:w.cell? ⟨sp,3,none⟩=some (.int .i64 (now:Int)):=hs.pt.cell 3
 clear hs
 go_enter Tryz.func28,Tryz.ntmps28
 go_wp2
 go_ret
 exact ⟨rfl,rfl⟩
theorem zwx {w:World}{B sp g gd Mo W:Nat}{gA:Option Addr}{gc:Nat}(hs:SVw PR0 (fun _=>True) (fun _=>True) w B sp g Mo W 0 gA gc [])(hb:BT w B g gd 4194304 0 [])(hB:B≤w.heap.size)(hW:W≤1000) :
  Calls Tryz.prog 6 #[.pointer (some ⟨sp,0,none⟩),.agg #[.int .i64 4,.int .i64 4,.int .i64 0,.int .i64 3,.string nA,.slice none 0 0,.slice none 0 0]] w fun e w'=>∃ v gA' gc',e = .returned v∧TRow w' w.heap.size v [⟨4,0,3,11,zR⟩]∧SVw PR0 (fun _=>True) (fun _=>True) w' B sp g Mo W 3 gA' gc' []∧Below B w w':=by
 have h1:([]:List (List Value)).all (fun _=>true)=true:=rfl
 refine (zxj (ans:=ans0) (a:=⟨4,4,0,3,nA,none,0,0,none,0,0⟩) (ck:=fun _=>true) (cl:=[]) (xs:=[]) (er:=11) (name:=nA) (kv:=0) (ms:=[]) (t:=3) an0 hs hB ⟨Nat.zero_le _,fun _ h=>by cases h⟩ (by omega) (Nat.zero_le _) ⟨rfl,rfl,(fun _ h=>by cases h),(fun _ h=>by cases h)⟩ h1 (World.ownsRow_nil _ _ _ _) ⟨by decide,by decide,by decide,by decide,by decide,by decide,.inl rfl,.inr rfl⟩ rfl (Nat.zero_le _) rfl trivial ⟨(fun _ h=>by cases h),fun _ _ _=>zmn⟩ (fun V rA rc hV hsv hrv=>?_)).mono ?_
 ·have hbv:=zoa hb hs hV
  refine (zuf (er:=11) (ver0:=0) (lv:=0) (ms:=[]) an0 hsv.pt hsv.sg hsv.b trivial hrv (fun _ h=>by cases h) (Nat.zero_le _) (Nat.le_trans hB hV.size) (Nat.zero_le _) (fun _ h=>by cases h) trivial rfl rfl (fun _ h=>by cases h) (fun V' hV'=>?_)).mono ?_
  ·refine (zwb (hbv.below hV') nA 0 rfl).mono ?_
   rintro e w' ⟨rfl,hbl⟩
   exact ⟨zM,rfl,by decide,(by unfold AllOne;kernel_rfl),hbl,fun h=>by cases h⟩
  ·intro e w' h
   exact AskPost.u an0 hsv (fun _ h=>by cases h) h
 ·rintro e w' (⟨_,v,gA',gc',rfl,htr,hsv,_,hbl⟩|⟨h0,_⟩)
  ·exact ⟨v,gA',gc',rfl,htr,hsv,hbl⟩
  ·cases h0
theorem known_any (W:World):Calls Tryz.prog 13 #[] W fun e w'=>e = .returned (.bool true)∧Below W.heap.size W w':=by
 have HF:=Lib.hid (zmr (PR:=PR0) (M:=fun _=>True) (Cq:=fun _=>True) 2 5 (by decide) (by decide) (by decide) W)
 go_enter Tryz.func13,Tryz.ntmps13
 go_upto_region 4 with (go_at_call 5;refine HF.out.mono ?_;rintro e w1 ⟨sp,xp,g,gd,rfl,hsv,hbt,hb⟩;have HSV:=Lib.hid hsv;have HBT:=Lib.hid hbt;have HB:=Lib.hid hb;clear hsv hbt hb)
 have HDO:=Lib.hid (zwx HSV.out HBT.out HB.out.size (by decide))
 go_upto_region 5 with (go_at_call 6;refine HDO.out.mono ?_;rintro e w2 ⟨v,gA,gc,rfl,htr,hsv,hb⟩;have HT:=Lib.hid htr;have HS2:=Lib.hid hsv;have HB2:=Lib.hid (HB.out.trans hb);clear htr hsv hb)
 obtain ⟨gb,c,hv,_,_⟩:=World.ownsRow.form HT.out Nat.zero_lt_one
 subst hv
 have y0:w2.cell? ⟨gb,0,none⟩=some (.int .i64 4):=by
  have h5:=World.ownsRow.cells HT.out (g:=gb) rfl 0 (.int .i64 4) rfl
  rw[add0] at h5
  exact h5
 have y2:w2.cell? ⟨gb,2,none⟩=some (.int .i64 3):=by
  have h5:=World.ownsRow.cells HT.out (g:=gb) rfl 2 (.int .i64 3) rfl
  rw[add0] at h5
  exact h5
 have y3:w2.cell? ⟨gb,3,none⟩=some (.int .i64 11):=by
  have h5:=World.ownsRow.cells HT.out (g:=gb) rfl 3 (.int .i64 11) rfl
  rw[add0] at h5
  exact h5
 have HW:Hid (Calls Tryz.prog 14 #[.pointer (some ⟨sp,0,none⟩)] w2 fun e w'=>e = .returned (.int .i64 0)∧Below w2.heap.size w2 w'):=Lib.hid (zmo HS2.out (Nat.zero_le _) (fun _ h=>by cases h))
 have HN:Hid (∀ V,Below w2.heap.size w2 V→Calls Tryz.prog 28 #[.pointer (some ⟨sp,0,none⟩)] V fun e w'=>e = .returned (.int .i64 3)∧w'=V):=Lib.hid fun V hV=>zz4 (HS2.out.below an0.st hV)
 go_wp2_with (first
  |(go_at_call 14;refine HW.out.mono ?_;rintro e w3 ⟨rfl,hb3⟩;have HB3:=Lib.hid hb3;clear hb3)
  |(go_at_call 28;refine (HN.out w3 HB3.out).mono ?_;rintro e w4 ⟨rfl,rfl⟩))
 go_ret
 exact ⟨rfl,HB2.out.trans (HB3.out.mono HB2.out.size)⟩
end Go.Proofs.YtemgclnkgieldaaGreatDoor.Oc
namespace Go.Proofs.YtemgclnkgieldaaGreatDoor.Mv
open Go Go.RowKit CX Md
theorem mk1:∀ n:Int,n % 8=1→∀ W,Calls Tryz.prog 11 #[.int .i64 n] W fun e w'=>∃ cs,e = .returned (.agg cs)∧IsP pm1 vm1 12935 w' (fun k=>k<W.heap.size) cs ⟨6,noSym⟩∧Below W.heap.size W w':=fun n hn W =>
 zzz (x:=xo (sN n) (orcOr (orcP 4 [.float .f64 0,.int .i64 8] (.int .i64 1)) (orcOr (orcR 6 k0) (orcOr (orcR 6 k1) (orcOr (orcH k11) (orcOr (orcR 6 k3) (orcOr (orcH k12) (orcOr (orcR 6 k5) (orcOr (orcR 6 k7) (orcOr (orcH k16) noOrc)))))))))) (zbq (zaf (zkx n 1 hn) (zaf (zx0 _) (zaf (zlu _) (zaf (k11_ok _) (zaf (zx1 _) (zaf (k12_ok _) (zaf (zx2 _) (zaf (k7_ok _) (zaf (k16_ok _) (zaq _ _))))))))))) (zu1 n) (c:=k17) (zyd (sN n)) (show 6≤7270 by decide) rfl rfl rfl (pl:=pm1) (vl:=vm1) rfl rfl (by kernel_rfl) W
theorem mk3:∀ n:Int,n % 8=3→∀ W,Calls Tryz.prog 11 #[.int .i64 n] W fun e w'=>∃ cs,e = .returned (.agg cs)∧IsP pm3 vm3 42138 w' (fun k=>k<W.heap.size) cs ⟨6,noSym⟩∧Below W.heap.size W w':=fun n hn W =>
 zzz (x:=xo (sN n) (orcOr (orcP 4 [.float .f64 0,.int .i64 8] (.int .i64 3)) (orcOr (orcR 6 k0) (orcOr (orcR 6 k1) (orcOr (orcH k26) (orcOr (orcR 6 k3) (orcOr (orcH k27) (orcOr (orcR 6 k5) (orcOr (orcR 6 k28) (orcOr (orcR 6 k29) noOrc)))))))))) (zbq (zaf (zkx n 3 hn) (zaf (zx0 _) (zaf (zlu _) (zaf (k26_ok _) (zaf (zx1 _) (zaf (k27_ok _) (zaf (zx2 _) (zaf (k28_ok _) (zaf (k29_ok _) (zaq _ _))))))))))) (zu1 n) (c:=k30) (zyk (sN n)) (show 6≤41325 by decide) rfl rfl rfl (pl:=pm3) (vl:=vm3) rfl rfl (by kernel_rfl) W
theorem mk5:∀ n:Int,n % 8=5→∀ W,Calls Tryz.prog 11 #[.int .i64 n] W fun e w'=>∃ cs,e = .returned (.agg cs)∧IsP pm5 vm5 63967 w' (fun k=>k<W.heap.size) cs ⟨6,noSym⟩∧Below W.heap.size W w':=fun n hn W =>
 zzz (x:=xo (sN n) (orcOr (orcP 4 [.float .f64 0,.int .i64 8] (.int .i64 5)) (orcOr (orcR 6 k0) (orcOr (orcR 6 k1) (orcOr (orcH k34) (orcOr (orcR 6 k3) (orcOr (orcH k35) (orcOr (orcR 6 k5) (orcOr (orcH k36) (orcOr (orcH k37) (orcOr (orcH k42) (orcOr (orcR 6 k8) noOrc)))))))))))) (zbq (zaf (zkx n 5 hn) (zaf (zx0 _) (zaf (zlu _) (zaf (k34_ok _) (zaf (zx1 _) (zaf (k35_ok _) (zaf (zx2 _) (zaf (k36_ok _) (zaf (k37_ok _) (zaf (k42_ok _) (zaf (k8_ok _) (zaq _ _))))))))))))) (zu1 n) (c:=k43) (zyu (sN n)) (show 6≤53135 by decide) rfl rfl rfl (pl:=pm5) (vl:=vm5) rfl rfl (by kernel_rfl) W
abbrev G0:Gb:=⟨6,noSym⟩
def cxV (q:List Value):List Value:=(F :: (q++[I 0]))++(T :: ([F,(U 0),E,(U 0),E]++[I 0]))
theorem cx_eq (n:Int):Oc.cxOf qF n=cxV (qF n):=rfl
def ansX (vr:List Value)(pr:PL)(nr:Nat)(d:Kn)(xs:List Value):Option (Value×Hp):=fcall (xo noSym (orcOr (orcR 6 d) oSm)) 100000 24 [.agg ⟨vr⟩,.slice (some ⟨nr,0,none⟩) 2 262159] (lay (nr+1) (cellP nr pr xs) .empty)
def outV (o:Option (Value×Hp)):List Value×Int:=match o with
 |some (.tuple ⟨[.agg ⟨l⟩,.int .i64 e]⟩,_)=>cond (allB CX.plainCell l) (l,e) ([],0)
 |_=>([],0)
theorem zri (o:Option (Value×Hp)):allB CX.plainCell (outV o).1=true:=by
 unfold outV
 split
 ·rename_i l e h
  cases hl:allB CX.plainCell l with
  |true=>exact hl
  |false=>rfl
 ·rfl
def bothOk (vr:List Value)(pr:PL)(nr:Nat)(d:Kn)(vm:List Value)(pm:PL)(nm:Nat)(c:Kn)(xs:List Value):Bool:=match ansX vr pr nr d xs with
 |some (.tuple ⟨[.agg ⟨l⟩,.int .i64 e]⟩,_)=>Nat.beq l.length 6 && (allB CX.plainCell l && (outB (fcall (xo noSym (orcOr (orcR 6 c) oSm)) 100000 10 [.agg ⟨vm⟩,.agg ⟨[I 0,.slice (some ⟨nm,0,none⟩) 2 262159]⟩] (lay (nm+1) (cellP nm pm xs) .empty)) (.agg ⟨I 0 :: I 0 :: I e :: l⟩) && gives1 (xo noSym oSm) 100000 12 [.agg ⟨l⟩,.agg ⟨l⟩] T))
 |_=>false
theorem zrj {vr:List Value}{pr:PL}{nr:Nat}{d:Kn}{vm:List Value}{pm:PL}{nm:Nat}{c:Kn}{xs:List Value}(h:bothOk vr pr nr d vm pm nm c xs=true):∃ l e,outV (ansX vr pr nr d xs)=(l,e)∧l.length=6∧allB CX.plainCell l=true∧(∃ h',ansX vr pr nr d xs=some (.tuple ⟨[.agg ⟨l⟩,.int .i64 e]⟩,h'))∧outB (fcall (xo noSym (orcOr (orcR 6 c) oSm)) 100000 10 [.agg ⟨vm⟩,.agg ⟨[I 0,.slice (some ⟨nm,0,none⟩) 2 262159]⟩] (lay (nm+1) (cellP nm pm xs) .empty)) (.agg ⟨I 0 :: I 0 :: I e :: l⟩)=true∧gives1 (xo noSym oSm) 100000 12 [.agg ⟨l⟩,.agg ⟨l⟩] T=true:=by
 unfold bothOk at h
 split at h
 ·rename_i o l e hp heq
  rw[Bool.and_eq_true,Bool.and_eq_true,Bool.and_eq_true] at h
  refine ⟨l,e,by rw[heq];show cond (allB CX.plainCell l) (l,e) ([],0)=_;rw[h.2.1];rfl,zay h.1,h.2.1,⟨hp,heq⟩,h.2.2.1,h.2.2.2⟩
 ·cases h
structure Md1 (i:Int)(pm:PL)(vm:List Value)(nm:Nat)(c:Kn)(pr:PL)(vr:List Value)(nr:Nat)(d:Kn)(ms:List Int):Prop where
 mke:∀ n:Int,n % 8=i→∀ W,Calls Tryz.prog 11 #[.int .i64 n] W fun e w'=>∃ cs,e = .returned (.agg cs)∧IsP pm vm nm w' (fun k=>k<W.heap.size) cs G0∧Below W.heap.size W w'
 gm:good (nms pm) pm vm=true
 lm:(nms pm).all (fun b=>decide (b<nm))=true
 nm6:6≤nm
 tm:tyO pm=true
 sm:vm.length=59
 cm:OrcOk Tryz.prog G0 (orcR 6 c)
 ckm:∀ (w:World) (far:Nat→Prop) (cs:Array Value),IsP pm vm nm w far cs G0→Calls Tryz.prog 46 #[.agg cs] w fun e w'=>e = .returned (.int .i64 0)∧Below w.heap.size w w'
 lym:∀ (w:World) (far:Nat→Prop) (cs:Array Value),IsP pm vm nm w far cs G0→Calls Tryz.prog 22 #[.agg cs] w fun e w'=>∃ ad c',e = .returned (.tuple #[.slice (some ad) ms.length c',.int .i64 0])∧Dk.Rb w' (some ad) ms∧Oc.RowR w' ad c' ms∧w.heap.size≤ad.block∧Below w.heap.size w w'
 rd:Oc.ReadIs ms (fun W W' cs=>IsP pr vr nr W' (fun k=>k<W.heap.size) cs G0)
 gr:good (nms pr) pr vr=true
 lr:(nms pr).all (fun b=>decide (b<nr))=true
 nr6:6≤nr
 tr:tyO pr=true
 sr:vr.length=59
 cr:OrcOk Tryz.prog G0 (orcR 6 d)
 ckr:∀ (w:World) (far:Nat→Prop) (cs:Array Value),IsP pr vr nr w far cs G0→Calls Tryz.prog 46 #[.agg cs] w fun e w'=>e = .returned (.int .i64 0)∧Below w.heap.size w w'
 lyr:∀ (w:World) (far:Nat→Prop) (cs:Array Value),IsP pr vr nr w far cs G0→Calls Tryz.prog 22 #[.agg cs] w fun e w'=>∃ ad c',e = .returned (.tuple #[.slice (some ad) ms.length c',.int .i64 0])∧Dk.Rb w' (some ad) ms∧Oc.RowR w' ad c' ms∧w.heap.size≤ad.block∧Below w.heap.size w w'
 by_:Oc.IsB ms∧0<ms.length∧ms.length≤12000
theorem md1:Md1 1 pm1 vm1 12935 c1 pr1 vr1 17447 d1 ms1 :=
 ⟨mk1,by kernel_rfl,by kernel_rfl,by decide,by kernel_rfl,rfl,zbo zda rfl c1_okR zw3,zjm zda rfl zw3 rfl (show 12935≤12935 by decide) rfl rfl rfl,fun w far cs hm=>zgj zda l1_run (c:=knP pm1 vm1 12935) (show 12935≤12935 by decide) rfl rfl (b:=13728) (cc:=180) rfl rfl List.mem_cons_self (zet (by kernel_rfl)) hm.isM,
  zoc (x:=xo noSym noOrc) (d:=r1) (d2:=q1) (b:=15644) zda zc3 rfl r1_run q1_run (show 6≤15644 by decide) (show 15644<15645 by decide) rfl rfl rfl rfl rfl rfl (by kernel_rfl) rfl (by kernel_rfl),
  by kernel_rfl,by kernel_rfl,by decide,by kernel_rfl,rfl,zbo zda rfl d1_okR zw6,zjm zda rfl zw6 rfl (show 17447≤17447 by decide) rfl rfl rfl,fun w far cs hm=>zgj zda e1_run (c:=knP pr1 vr1 17447) (show 17447≤17447 by decide) rfl rfl (b:=18240) (cc:=180) rfl rfl List.mem_cons_self (zet (by kernel_rfl)) hm.isM,zux (by decide),by decide,by decide⟩
theorem md3:Md1 3 pm3 vm3 42138 c3 pr3 vr3 44784 d3 ms3 :=
 ⟨mk3,by kernel_rfl,by kernel_rfl,by decide,by kernel_rfl,rfl,zbo zda rfl c3_okR zw4,zjm zda rfl zw4 rfl (show 42138≤42138 by decide) rfl rfl rfl,fun w far cs hm=>zgj zda l3_run (c:=knP pm3 vm3 42138) (show 42138≤42138 by decide) rfl rfl (b:=42676) (cc:=162) rfl rfl List.mem_cons_self (zet (by kernel_rfl)) hm.isM,
  zoc (x:=xo noSym noOrc) (d:=r3) (d2:=q3) (b:=43443) zda zc3 rfl r3_run q3_run (show 6≤43443 by decide) (show 43443<43444 by decide) rfl rfl rfl rfl rfl rfl (by kernel_rfl) rfl (by kernel_rfl),
  by kernel_rfl,by kernel_rfl,by decide,by kernel_rfl,rfl,zbo zda rfl d3_okR zw7,zjm zda rfl zw7 rfl (show 44784≤44784 by decide) rfl rfl rfl,fun w far cs hm=>zgj zda e3_run (c:=knP pr3 vr3 44784) (show 44784≤44784 by decide) rfl rfl (b:=45322) (cc:=162) rfl rfl List.mem_cons_self (zet (by kernel_rfl)) hm.isM,zux (by decide),by decide,by decide⟩
theorem md5:Md1 5 pm5 vm5 63967 c5 pr5 vr5 65873 d5 ms5 :=
 ⟨mk5,by kernel_rfl,by kernel_rfl,by decide,by kernel_rfl,rfl,zbo zda rfl c5_okR zw5,zjm zda rfl zw5 rfl (show 63967≤63967 by decide) rfl rfl rfl,fun w far cs hm=>zgj zda l5_run (c:=knP pm5 vm5 63967) (show 63967≤63967 by decide) rfl rfl (b:=64312) (cc:=100) rfl rfl List.mem_cons_self (zet (by kernel_rfl)) hm.isM,
  zoc (x:=xo noSym noOrc) (d:=r5) (d2:=q5) (b:=65045) zda zc3 rfl r5_run q5_run (show 6≤65045 by decide) (show 65045<65046 by decide) rfl rfl rfl rfl rfl rfl (by kernel_rfl) rfl (by kernel_rfl),
  by kernel_rfl,by kernel_rfl,by decide,by kernel_rfl,rfl,zbo zda rfl d5_okR zw8,zjm zda rfl zw8 rfl (show 65873≤65873 by decide) rfl rfl rfl,fun w far cs hm=>zgj zda e5_run (c:=knP pr5 vr5 65873) (show 65873≤65873 by decide) rfl rfl (b:=66218) (cc:=100) rfl rfl List.mem_cons_self (zet (by kernel_rfl)) hm.isM,zux (by decide),by decide,by decide⟩
open Go Go.RowKit Dk CX Md
def msF:Nat→List Int
 | 0=>ms1
 | 1=>ms3
 |_=>ms5
def prF:Nat→PL
 | 0=>pr1
 | 1=>pr3
 |_=>pr5
def vrF:Nat→List Value
 | 0=>vr1
 | 1=>vr3
 |_=>vr5
def nrF:Nat→Nat
 | 0=>17447
 | 1=>44784
 |_=>65873
def pmF:Nat→PL
 | 0=>pm1
 | 1=>pm3
 |_=>pm5
def vmF:Nat→List Value
 | 0=>vm1
 | 1=>vm3
 |_=>vm5
def nmF:Nat→Nat
 | 0=>12935
 | 1=>42138
 |_=>63967
def dF:Nat→Kn
 | 0=>d1
 | 1=>d3
 |_=>d5
def cF:Nat→Kn
 | 0=>c1
 | 1=>c3
 |_=>c5
theorem mdF:∀ i:Nat,i<3→Md1 ((2*i+1:Nat):Int) (pmF i) (vmF i) (nmF i) (cF i) (prF i) (vrF i) (nrF i) (dF i) (msF i)
 | 0,_=>md1
 | 1,_=>md3
 | 2,_=>md5
 |i+3,h=>absurd h (by omega)
def PR:Oc.SMod:=fun w ms cs=>∃ i,i<3∧ms=msF i∧IsP (prF i) (vrF i) (nrF i) w (fun _=>False) cs G0
def Mo (ms:List Int):Prop:=∃ i,i<3∧ms=msF i
def Cq (xs:List Value):Prop:=∃ n,xs=cxV (qF n)
def ix (ms:List Int):Nat:=if ms=ms1 then 0 else if ms=ms3 then 1 else 2
theorem ix_F:∀ i:Nat,i<3→ix (msF i)=i
 | 0,_=>if_pos rfl
 | 1,_=>by
  show ix ms3=1
  unfold ix
  rw[if_neg (by decide),if_pos rfl]
 | 2,_=>by
  show ix ms5=2
  unfold ix
  rw[if_neg (by decide),if_neg (by decide)]
 |i+3,h=>absurd h (by omega)
def ansM (ms:List Int)(xs:List Value):List Value×Int:=outV (ansX (vrF (ix ms)) (prF (ix ms)) (nrF (ix ms)) (dF (ix ms)) xs)
def Pv:Nat→List Int
 | 2=>ms3
 | 3=>ms5
 |_=>ms1
theorem Pv_F:∀ i:Nat,i<3→Pv (i+1)=msF i
 | 0,_=>rfl
 | 1,_=>rfl
 | 2,_=>rfl
 |i+3,h=>absurd h (by omega)
theorem Pv_M:∀ v,Mo (Pv v)
 | 0=>⟨0,by decide,rfl⟩
 | 1=>⟨0,by decide,rfl⟩
 | 2=>⟨1,by decide,rfl⟩
 | 3=>⟨2,by decide,rfl⟩
 |v+4=>⟨0,by decide,rfl⟩
theorem zfz {v:Value}(h:CX.plainCell v=true):v.oneCell'=true:=by
 cases v <;> first|rfl|cases h
theorem zp0 (n:Int):allB CX.plainCell (cxV (qF n))=true:=rfl
def fineB (q:List Value):Bool:=gives1 (xo noSym oSm) 100000 33 [.agg ⟨F :: (q++[I 0])⟩] T
section
variable (hall:∀ i,i<3→∀ n,bothOk (vrF i) (prF i) (nrF i) (dF i) (vmF i) (pmF i) (nmF i) (cF i) (cxV (qF n))=true)(hfin:∀ n,fineB (qF n)=true)(hfin2:gives1 (xo noSym oSm) 100000 33 [.agg ⟨T :: ([F,(U 0),E,(U 0),E]++[I 0])⟩] T=true)
include hall
theorem zp1 {i:Nat}(hi:i<3)(n:Int):∃ l e,ansM (msF i) (cxV (qF n))=(l,e)∧l.length=6∧allB CX.plainCell l=true∧(∃ h',ansX (vrF i) (prF i) (nrF i) (dF i) (cxV (qF n))=some (.tuple ⟨[.agg ⟨l⟩,.int .i64 e]⟩,h'))∧outB (fcall (xo noSym (orcOr (orcR 6 (cF i)) oSm)) 100000 10 [.agg ⟨vmF i⟩,.agg ⟨[I 0,.slice (some ⟨nmF i,0,none⟩) 2 262159]⟩] (lay (nmF i+1) (cellP (nmF i) (pmF i) (cxV (qF n))) .empty)) (.agg ⟨I 0 :: I 0 :: I e :: l⟩)=true∧gives1 (xo noSym oSm) 100000 12 [.agg ⟨l⟩,.agg ⟨l⟩] T=true:=by
 obtain ⟨l,e,h1,h2⟩:=zrj (hall i hi n)
 refine ⟨l,e,?_,h2⟩
 unfold ansM
 rw[ix_F i hi]
 exact h1
omit hall in
theorem stays {p:Nat→Prop}{w w':World}{ms:List Int}{cs:Array Value}(h:PR w ms cs)(ha:Alt w w' p)(hp:∀ k cs' t fr,k<w.heap.size→p k→w.heap[k]? = some (.cells cs' t fr)→okTy t=false):PR w' ms cs:=by
 obtain ⟨i,hi,e,h⟩:=h
 exact ⟨i,hi,e,h.kind (mdF i hi).tr ha hp⟩
theorem ans_H:Oc.AnsH PR Mo Cq ansM:=by
 refine ⟨fun w w' p ms cs h ha hp=>stays h ha fun k cs' t fr hk hpk hh=>zz2 (hp k hk hpk) hh,fun ms xs hm hx=>?_,fun w ms cs A m c xs h _ hx hr=>?_⟩
 ·obtain ⟨i,hi,rfl⟩:=hm
  obtain ⟨n,rfl⟩:=hx
  obtain ⟨l,e,h1,h2,h3,_⟩:=zp1 hall hi n
  rw[h1]
  exact ⟨h2,fun u hu=>zfz ((zag _ _).1 h3 u hu)⟩
 ·obtain ⟨i,hi,rfl,hp⟩:=h
  obtain ⟨n,rfl⟩:=hx
  have hl:14=m*7:=hr.1
  have hm2:m=2:=by omega
  subst hm2
  obtain ⟨cb,c',hv,_⟩:=World.ownsRow.form hr (by decide)
  injection hv with hv1 hv2 hv3
  subst hv1
  obtain ⟨l,e,h1,h2,h3,⟨h',hf⟩,_⟩:=zp1 hall hi n
  rw[h1]
  have md:=mdF i hi
  obtain ⟨E,H,hg,v1,v2⟩:=hp.cells md.gr md.lr md.nr6 md.tr (zp0 n) hr
  refine zpy (x:=xo noSym (orcOr (orcR 6 (dF i)) oSm)) (zbq (zaf md.cr (zmw _))) hf ?_ H hg (.cons v1 (.cons v2 .nil))
  show cond (allB CX.plainCell l) true false=true
  rw[h3];rfl
theorem sv_H (nm_is:Oc.IsOk Oc.nA):Oc.SvH PR Mo Cq ansM:=by
 refine ⟨ans_H hall,fun ms xs _ u hu=>zfz ((zag _ _).1 (zri _) u hu),fun ms hm=>?_,fun w ms cs _ h=>?_,fun ms hm=>?_,nm_is⟩
 ·obtain ⟨i,hi,rfl⟩:=hm
  intro W ad c hrow hpos
  refine ((mdF i hi).rd W ad c hrow hpos).mono ?_
  rintro e w' ⟨cs,h1,h2,h3,h4,h5⟩
  exact ⟨cs,h1,h2,h3,fun W'' ha=>⟨i,hi,rfl,h4.alt ha (fun _ _ h=>h) (fun _ _ h=>h.elim)⟩,h5⟩
 ·obtain ⟨i,hi,rfl,hp⟩:=h
  have md:=mdF i hi
  exact ⟨hp.size.trans md.sr,fun w' hb=>md.ckr _ _ _ (hp.below hb),fun w' hb=>md.lyr _ _ _ (hp.below hb)⟩
 ·obtain ⟨i,hi,rfl⟩:=hm
  have md:=mdF i hi
  refine ⟨md.by_.1,md.by_.2.1,md.by_.2.2,fun W g c hrow hpos=>(md.rd W ⟨g,0,none⟩ c hrow.row hpos).mono ?_⟩
  rintro e w' ⟨cs,h1,h2,h3,_,h5⟩
  exact ⟨cs,h1,h2,h3,h5⟩
include hfin hfin2 in
theorem once_H (nm_is:Oc.IsOk Oc.nA):Oc.OnceH PR Mo Cq ansM Pv qF:=by
 refine ⟨sv_H hall nm_is,fun w w' p ms cs h ha hp=>stays h ha fun k cs' t fr hk hpk hh=>zz3 (hp k hk hpk) hh,q_ok,fun n=>⟨n,rfl⟩,fun n=>?_,fun v _ _=>Pv_M v,Pv_M,fun i hi=>?_,fun i n hi W=>?_,fun i n hi W=>?_,Oc.known_any⟩
 ·refine ⟨fun _=>true,[F :: (qF n++[I 0]),T :: ([F,(U 0),E,(U 0),E]++[I 0])],⟨rfl,rfl,fun l hl=>?_,fun l hl W=>?_⟩,rfl⟩
  ·simp only[List.mem_cons,List.mem_nil_iff,or_false] at hl
   rcases hl with rfl|rfl
   ·exact ⟨rfl,fun u hu=>zfz ((zag _ _).1 (show allB CX.plainCell (F :: (qF n++[I 0]))=true from rfl) u hu)⟩
   ·exact ⟨rfl,fun u hu=>zfz ((zag _ _).1 (show allB CX.plainCell (T :: ([F,(U 0),E,(U 0),E]++[I 0]))=true from rfl) u hu)⟩
  ·simp only[List.mem_cons,List.mem_nil_iff,or_false] at hl
   rcases hl with rfl|rfl
   ·exact zf9 (x:=xo noSym oSm) (zbq (zmw _)) zc3 (hfin n) rfl rfl W
   ·exact zf9 (x:=xo noSym oSm) (zbq (zmw _)) zc3 hfin2 rfl rfl W
 ·rw[Pv_F i hi]
  have md:=mdF i hi
  obtain ⟨_,_,_,h4⟩:=(sv_H hall nm_is).nt (msF i) ⟨i,hi,rfl⟩
  refine ⟨md.by_.1,md.by_.2.1,md.by_.2.2,h4,fun W=>(md.mke ((2*i+1:Nat):Int) (by omega) W).mono ?_⟩
  rintro e w' ⟨cs,rfl,hp,hb⟩
  exact ⟨cs,rfl,⟨hp.size.trans md.sm,fun w2 hb2=>md.ckm _ _ _ (hp.below hb2),fun w2 hb2=>md.lym _ _ _ (hp.below hb2)⟩,hb⟩
 ·have md:=mdF i hi
  obtain ⟨l,e,h1,h2,h3,_,h5,_⟩:=zp1 hall hi n
  rw[Pv_F i hi,cx_eq,h1]
  refine (md.mke ((2*i+1:Nat):Int) (by omega) W).mono ?_
  rintro e w' ⟨cs,rfl,hp,hb⟩
  refine ⟨cs,rfl,hb,fun V cb hV hrow=>?_⟩
  obtain ⟨E,H,hg,v1,v2⟩:=(hp.below hV).cells md.gm md.lm md.nm6 md.tm (zp0 n) hrow
  refine zu6 (x:=xo noSym (orcOr (orcR 6 (cF i)) oSm)) (zbq (zaf md.cm (zmw _))) h5 ?_ H hg (.cons v1 (.cons ?_ .nil))
  ·show allB CX.plainCell (I 0 :: I 0 :: I _ :: l)=true
   exact h3
  ·refine .agg rfl fun j v v' hv hv'=>?_
   match j,hv,hv' with
   | 0,hv,hv'=>injection hv with hv;injection hv' with hv';subst hv;subst hv';exact .plain rfl
   | 1,hv,hv'=>injection hv with hv;injection hv' with hv';subst hv;subst hv';exact v2
 ·obtain ⟨l,e,h1,h2,h3,_,_,h6⟩:=zp1 hall hi n
  rw[Pv_F i hi,cx_eq,h1]
  exact zf9 (x:=xo noSym oSm) (zbq (zmw _)) zc3 h6 (by show cond (allB CX.plainCell l) (cond (allB CX.plainCell l) true false) false=true;rw[h3];rfl) rfl W
end
abbrev FL:=List (Int×Nat)
def f0:FL:=[(-20,1),(-19,1),(-18,1),(-17,1),(-16,1),(-15,1),(-14,1),(-13,1),(-12,1),(-11,1)]
def f1:FL:=[(-10,1),(-9,1),(-8,1),(-7,1),(-6,1),(-5,1),(-4,1),(-3,1),(-2,1),(-1,1)]
def f2:FL:=[(0,1),(1,1),(2,1),(3,1),(4,1),(5,1),(6,1),(7,1),(8,1),(9,1)]
def f3:FL:=[(10,1),(11,1),(12,1),(13,1),(14,1),(15,1),(16,1),(17,1),(18,1),(19,1)]
def f4:FL:=[(20,1),(-19,2),(-17,2),(-15,2),(-13,2),(-11,2),(-9,2),(-7,2),(-5,2),(-3,2)]
def f5:FL:=[(-1,2),(1,2),(3,2),(5,2),(7,2),(9,2),(11,2),(13,2),(15,2),(17,2)]
def f6:FL:=[(19,2),(-20,3),(-19,3),(-17,3),(-16,3),(-14,3),(-13,3),(-11,3),(-10,3),(-8,3)]
def f7:FL:=[(-7,3),(-5,3),(-4,3),(-2,3),(-1,3),(1,3),(2,3),(4,3),(5,3),(7,3)]
def f8:FL:=[(8,3),(10,3),(11,3),(13,3),(14,3),(16,3),(17,3),(19,3),(20,3),(-19,4)]
def f9:FL:=[(-17,4),(-15,4),(-13,4),(-11,4),(-9,4),(-7,4),(-5,4),(-3,4),(-1,4),(1,4)]
def f10:FL:=[(3,4),(5,4),(7,4),(9,4),(11,4),(13,4),(15,4),(17,4),(19,4)]
def fls:List FL:=[f0,f1,f2,f3,f4,f5,f6,f7,f8,f9,f10]
def inFl (a b:Nat):Bool:=fls.any fun l=>l.any fun p=>eqVs (qv ((a:Int) - 20) (dn b)) (qv p.1 p.2)
theorem zwy:(List.range 41).all (fun a=>(List.range 6).all fun b=>inFl a b)=true:=by kernel_rfl
theorem qF_in (n:Int):∃ l∈fls,∃ p∈l,qF n=qv p.1 p.2:=by
 have h1:=List.all_eq_true.1 zwy (qa n) (List.mem_range.2 (qa_eq n).2)
 have h2:=List.all_eq_true.1 h1 (qb n) (List.mem_range.2 (qb_eq n).2)
 obtain ⟨l,hl,h3⟩:=List.any_eq_true.1 h2
 obtain ⟨p,hp,h4⟩:=List.any_eq_true.1 h3
 exact ⟨l,hl,p,hp,zga h4⟩
def ok1 (p:Int×Nat):Bool:=bothOk vr1 pr1 17447 d1 vm1 pm1 12935 c1 (cxV (qv p.1 p.2))
def ok3 (p:Int×Nat):Bool:=bothOk vr3 pr3 44784 d3 vm3 pm3 42138 c3 (cxV (qv p.1 p.2))
def ok5 (p:Int×Nat):Bool:=bothOk vr5 pr5 65873 d5 vm5 pm5 63967 c5 (cxV (qv p.1 p.2))
theorem zhg {g:List Value→Bool}(h:∀ l∈fls,l.all (fun p=>g (qv p.1 p.2))=true)(n:Int):g (qF n)=true:=by
 obtain ⟨l,hl,p,hp,e⟩:=qF_in n
 rw[e]
 exact List.all_eq_true.1 (h l hl) p hp
theorem sp {l:FL}{g:Int×Nat→Bool}(n:Nat)(h1:(l.take n).all g=true)(h2:(l.drop n).all g=true):l.all g=true:=by
 rw[← List.take_append_drop n l,List.all_append,h1,h2];rfl
theorem zp2 {g:FL→Prop}(h0:g f0)(h1:g f1)(h2:g f2)(h3:g f3)(h4:g f4)(h5:g f5)(h6:g f6)(h7:g f7)(h8:g f8)(h9:g f9)(h10:g f10):∀ l∈fls,g l:=fun l hl=>by
 unfold fls at hl
 simp only[List.mem_cons,List.mem_nil_iff,or_false] at hl
 rcases hl with rfl|rfl|rfl|rfl|rfl|rfl|rfl|rfl|rfl|rfl|rfl <;> assumption
end Go.Proofs.YtemgclnkgieldaaGreatDoor.Mv
