/- A run of code whose input is known, by the kernel: part 4. -/
import Derived.Test.YtemgclnkgieldaaGreatDoorE3
import Derived.OrdersIn
import Derived.RangeFuncLeaves
import Derived.LoopNIn
noncomputable section
namespace Go.Proofs.YtemgclnkgieldaaGreatDoor.CX
open Go Go.RowKit
def FW (r:Option Nat):Fence:={ Fence.wide with round:=r }
section
variable {P:Program}{r:Option Nat}{n:Nat}
theorem zi5 {f:FuncId}{args:Array Value}{w:World}{R:Ending→World→Prop}(h:Calls P f args w R):CallsIn (FW r) n P f args w R:=(callsIn_wide (n:=n)).2 h
theorem zr2 {row:String}{args:Array Value}{w:World}{R:Value→World→Prop}(h:Rows P row args w R):RowsIn (FW r) n P row args w R:=fun c cs _=>by
 obtain ⟨v,w',hr,hs⟩:=h c cs
 exact ⟨v,w',hr,(stepsIn_wide (P:=P)).2 hs⟩
theorem zi6 {o:Oper}{a:Act}{w:World}{K:Act→World→Prop}{Q:Exit→Act→World→Prop}(hd:∀ c,o.op ≠ .defer c)(h:o.wp P a w K Q):o.wpIn (FW r) n P a w K Q:=by
 refine ⟨fun _ _=>trivial,?_⟩
 have hsem:o.semAt (FW r).round a.eval=execOp a.eval o:=by
  cases r with
  |none=>rfl
  |some l=>exact Oper.semAt_some l _ o hd
 rw[hsem]
 unfold Oper.wp at h
 generalize (execOp a.eval o).run P w=res at h
 cases res with
 |ok nx w' =>
  cases nx with
  |value v=>exact h
  |skip=>exact h
  |defer d=>exact h
  |enter f args =>
   refine ⟨fun hs=>(by cases hs),zi5 ?_⟩
   exact Calls.mono h (fun e w'' he=>by cases e <;> exact he)
  |row row args =>
   refine ⟨fun hs=>(by cases hs),zr2 ?_⟩
   exact h
  |_=>exact h.elim
 |halt x w' =>
  cases x with
  |panic v=>exact h
  |_=>exact h.elim
theorem zgp {ops:Array Oper}{Q:Exit→Act→World→Prop}(hnd:∀ (j:Nat) (o:Oper),ops[j]? = some o→∀ c,o.op ≠ .defer c)(hQo:¬ LetsOut Q):∀ (f:Nat) (L:Array Bool) (a:Act) (w:World),wpAny P .any ops Q f L a w→wpAnyIn (FW r) n P .any ops Q f L a w
 | 0,_,_,_,h=>h
 |f+1,L,a,w,h=>⟨h.1,fun i hi=>by
  have h1:=wpOp_mono (fun a' w'=>zgp hnd hQo f _ a' w') (h.2 i hi)
  unfold wpOp at h1
  unfold wpOpIn
  cases ho:ops[i]? with
  |none=>rw[ho] at h1;exact h1
  |some o =>
   simp only[ho] at h1 ⊢
   by_cases hw:Region.wanted o (yielded ops a.tmps)=true
   ·rw[qX hw] at h1 ⊢
    rcases h1 with h1|⟨_,h1⟩
    ·exact zi6 (hnd i o ho) h1
    ·exact absurd h1 hQo
   ·rw[qW hw] at h1 ⊢
    exact ⟨fun _ _=>trivial,h1⟩⟩
theorem zj3 {ops:Array Oper}{Q:Exit→Act→World→Prop}{S:Array Bool→World→Prop}{id:Nat}{a:Act}{w:World}(hm:P.follows .mixedOrders=true)(hnd:∀ (j:Nat) (o:Oper),ops[j]? = some o→∀ c,o.op ≠ .defer c)(hQo:¬ LetsOut Q)
  (h:wpS P ops Q S ops.size (Array.replicate ops.size false) a w.drew):(Code.region id ops true).wpIn (FW r) n P Q a w :=
 wpIn_region_any hm (zgp hnd hQo _ _ _ _ (zd4 _ _ _ _ h))
end
section
variable {P:Program}{w:World}
theorem zdq {l:Nat}{r:Loop}(h:w.heap[l]? = some (.loop r)):(Instr.getLoop l).run P w = .ok r w:=by
 unfold Instr.getLoop getObj
 simp only[qT]
 unfold Sem.run
 simp only[h]
 rfl
theorem zeh {l:Nat}{o o':Obj}(h:w.heap[l]? = some o)(hn:∀ c e f,o ≠ .cells c e f):(setObj l o').run P w = .ok () { w with heap:=w.heap.setIfInBounds l o' }:=by
 unfold setObj Sem.run
 rw[h]
 cases o <;> first|rfl|exact absurd rfl (hn _ _ _)
end
theorem Stp.putObj {E:En}{h:Hp}{w:World}(H:HR E h w){i:Nat}{o o':Ob}{e:Em}{ob:Obj}(hi:h.ob i=some o)(hwr:o.wr=true)(he:E i=some e)(hlt:e.blk<w.heap.size)
  (ho:∀ w2:World,w2.heap[e.blk]? = some ob→ObR E w2 e o'):Stp E E h (h.put i o') w { w with heap:=w.heap.setIfInBounds e.blk ob } :=
 Stp.put H hi hwr he rfl rfl rfl (by simp) (fun k hk=>by simp only;rw[Array.getElem?_setIfInBounds_ne (Ne.symm hk)]) (ho _ (by simp only;rw[Array.getElem?_setIfInBounds_self_of_lt hlt]))
theorem Stp.killObj {E:En}{h:Hp}{w:World}(H:HR E h w){i:Nat}{o:Ob}{e:Em}(ob:Obj)(hi:h.ob i=some o)(hwr:o.wr=true)(he:E i=some e):Stp E E h (h.kill i) w { w with heap:=w.heap.setIfInBounds e.blk ob }:=by
 have hab:∀ k,k≠e.blk→({ w with heap:=w.heap.setIfInBounds e.blk ob }:World).heap[k]? = w.heap[k]?:=fun k hk=>by simp only;rw[Array.getElem?_setIfInBounds_ne (Ne.symm hk)]
 have H2:HR E (h.kill i) { w with heap:=w.heap.setIfInBounds e.blk ob }:=by
  refine ⟨(H.kill i).fresh,fun j oj hj=>?_,(H.kill i).inj⟩
  rw[Hp.ob_kill] at hj
  by_cases hji:j=i
  ·rw[qX hji] at hj;cases hj
  ·rw[qW hji] at hj
   obtain ⟨ej,hej,hob⟩:=H.obj j oj hj
   exact ⟨ej,hej,hob.mono (En.le_refl E) (hab _ fun heq=>hji (H.inj j i _ _ _ _ hj hi hej he heq))⟩
 refine ⟨En.le_refl E,H2,rfl,rfl,rfl,by simp,fun k hk hni=>⟨hab k fun heq=>hni ⟨i,o,e,hi,hwr,he,heq.symm⟩,?_⟩,fun k hk hni=>?_⟩
 ·rintro ⟨j,oj,ej,j1,j2,j3,j4⟩
  rw[Hp.ob_kill] at j1
  by_cases hji:j=i
  ·rw[qX hji] at j1;cases j1
  ·rw[qW hji] at j1;exact hni ⟨j,oj,ej,j1,j2,j3,j4⟩
 ·rintro ⟨j,oj,ej,j1,j3,j4⟩
  rw[Hp.ob_kill] at j1
  by_cases hji:j=i
  ·rw[qX hji] at j1;cases j1
  ·rw[qW hji] at j1;exact hni ⟨j,oj,ej,j1,j3,j4⟩
def DR (E:En)(ds:List Nat)(D:List Deferred):Prop:=F2 (fun i (d:Deferred)=>∃ e,E i=some e∧d={ target := .collected e.blk,args:=#[] }) ds D
theorem DR.mono {E E':En}(hE:E.le E'){ds:List Nat}{D:List Deferred}(h:DR E ds D):DR E' ds D:=F2.mono (fun _ _ ⟨e,he,hd⟩=>⟨e,hE _ _ he,hd⟩) h
def Post (x:X)(n:Nat)(E:En)(h:Hp)(w:World)(e:XE)(t':Tr Value)(h':Hp)(ds':List Nat):Exit→Act→World→Prop:=fun e' a' w'=>e'=e.conv∧∃ E' D',Stp E E' h h' w w'∧SR x D' E' n t' h' a' w'∧DR E' ds' D'
def RunOK (x:X)(run:RunF):Prop:=∀ rm n c t h ds e t' h' ds',run rm n c t h ds=some (e,t',h',ds')→∀ r E D a w,(rm=false→r=none)→SR x D E n t h a w→DR E ds D→c.wpIn (FW r) 0 x.P (Post x n E h w e t' h' ds') a w
section
variable {x:X}
def resG (a:Act):ResultVar→Sem Value
 | .tmp t=>pure (a.tmps.getD t undef)
 | .cell p t=>do loadVar t (← asAddr (a.tmps.getD p undef))
theorem zqd (hx:x.Ok){E:En}{n:Nat}{t:Tr Value}{h:Hp}{a:Act}{w:World}(ht:TR E n t a.tmps)(H:HR E h w){r:ResultVar}{v:Value}(hh:res1 x t h r=some v):∃ u,VR E v u∧(resG a r).run x.P w = .ok u w:=by
 cases r with
 |tmp i =>
  obtain ⟨u,hu,hr⟩:=ht.2 i v hh
  exact ⟨u,hr,by simp only[resG,qZ,hu,Option.getD_some,qU]⟩
 |cell p ty =>
  change xload x.ti h ty (t.get p)=some v at hh
  cases hp:t.get p with
  |none=>rw[hp] at hh;cases hh
  |some pv =>
   rw[hp] at hh
   obtain ⟨pu,hpu,hpr⟩:=ht.2 p pv hp
   obtain ⟨b,o,u,e1,hvu,hload⟩:=zhp hx H hh hpr
   subst e1
   exact ⟨u,hvu,by simp only[resG,qT,qU,qS,qZ,hpu,Option.getD_some,asAddr,hload]⟩
theorem zi7 (hx:x.Ok){E:En}{n:Nat}{t:Tr Value}{h:Hp}{a:Act}{w:World}(ht:TR E n t a.tmps)(H:HR E h w):∀ {rs:List ResultVar} {l:List Value},resL x t h rs=some l →
  ∃ l',LR E l l'∧(rs.mapM (resG a)).run x.P w = .ok l' w
 | [],l,hh=>by cases hh;exact ⟨[],.nil,rfl⟩
 |r :: rs,l,hh=>by
  change (match resL x t h rs,res1 x t h r with
   |some l,some v=>some (v :: l)
   |_,_=>none)=some l at hh
  split at hh
  ·rename_i l1 v hl1 hv
   cases hh
   obtain ⟨l1',hlr,hrun⟩:=zi7 hx ht H hl1
   obtain ⟨u,hu,hr⟩:=zqd hx ht H hv
   refine ⟨u :: l1',.cons hu hlr,?_⟩
   rw[List.mapM_cons]
   simp only[qT,hr,hrun,qS,qU]
  ·cases hh
theorem zng (hx:x.Ok){E:En}{n:Nat}{t:Tr Value}{h:Hp}{a:Act}{w:World}(ht:TR E n t a.tmps)(H:HR E h w){F:Func}{v:Value}(hh:resOf x F t h=some v) :
  ∃ u,(results F a.tmps).run x.P w = .ok u w∧VR E v u:=by
 unfold resOf at hh
 cases hl:resL x t h F.results.toList with
 |none=>rw[hl] at hh;cases hh
 |some l =>
  rw[hl] at hh
  obtain ⟨l',hlr,hrun⟩:=zi7 hx ht H hl
  have hm:(F.results.mapM (resG a)).run x.P w = .ok ⟨l'⟩ w:=by
   rw[Array.mapM_eq_mapM_toList,Sem.run_map,hrun];rfl
  have hres0:results F a.tmps=(do
   let vs ← F.results.mapM (resG a)
   pure (if h:vs.size=1 then vs[0] else .tuple vs)):=rfl
  have hres:(results F a.tmps).run x.P w = .ok (if h:(⟨l'⟩:Array Value).size=1 then (⟨l'⟩:Array Value)[0] else .tuple ⟨l'⟩) w:=by
   rw[hres0,qT,hm,qS,qU]
  clear hm hres0 hrun hl
  cases hlr with
  |nil =>
   cases hh
   exact ⟨.tuple ⟨[]⟩,hres,VR.tuple' .nil⟩
  |cons hv ht =>
   cases ht with
   |nil =>
    cases hh
    exact ⟨_,hres,hv⟩
   |cons hv2 ht =>
    cases hh
    refine ⟨_,?_,VR.tuple' (.cons hv (.cons hv2 ht))⟩
    rw[hres,dif_neg (by simp)]
theorem zgq (hx:x.Ok){n:Nat}{t:Tr Value}{a:Act}{F:Func}{v:Value}{E0:En}{h0 h':Hp}{w0:World}:∀ {ds:List Nat} {D:List Deferred} {E:En} {h:Hp} {w:World},leaveF x F t h ds=some (v,h')→TR E n t a.tmps→HR E h w→DR E ds D→Stp E0 E h0 h w0 w →
  LeavesInM (FW none) 0 x.P F a.tmps (fun e w'=>∃ E' u,e = .returned u∧Stp E0 E' h0 h' w0 w'∧VR E' v u) D .returning w
 | [],D,E,h,w,hh,ht,H,hD,st=>by
  cases hD
  change (match resOf x F t h with
   |some v=>some (v,h)
   |none=>none)=some (v,h') at hh
  split at hh
  ·rename_i v1 hv
   cases hh
   obtain ⟨u,hu,hvu⟩:=zng hx ht H hv
   exact ⟨u,hu,E,u,rfl,st,hvu⟩
  ·cases hh
 |i :: ds,D,E,h,w,hh,ht,H,hD,st=>by
  cases hD with
  |cons hd hD =>
   obtain ⟨e,he,rfl⟩:=hd
   have hh2:∃ o,h.ob i=some .dfr∧leaveF x F t (h.kill i) ds=some (v,h')∧o=0:=by
    unfold leaveF at hh ⊢
    change (match (match h.ob i with
     |some .dfr=>takeAll ds (h.kill i)
     |_=>none) with
     |some h'=>match resOf x F t h' with
      |some v=>some (v,h')
      |none=>none
     |none=>none)=some (v,h') at hh
    split at hh
    ·rename_i h2 hm
     split at hm
     ·rename_i ho;exact ⟨0,ho,by rw[hm];exact hh,rfl⟩
     ·cases hm
    ·cases hh
   obtain ⟨_,ho,hh2,_⟩:=hh2
   obtain ⟨e',he',hob⟩:=H.obj i _ ho
   rw[he] at he';cases he'
   have hob':w.heap[e.blk]? = some (.deferred (some [])):=hob
   refine ⟨by simp,.inl ⟨e.blk,{ w with heap:=w.heap.setIfInBounds e.blk (.deferred none) },rfl,?_,?_⟩⟩
   ·have hg:(getObj e.blk).run x.P w = .ok (.deferred (some [])) w:=by
     unfold getObj Sem.run;rw[hob'];rfl
    unfold Instr.takeDeferred
    simp only[qT,hg,qS,zeh hob' (by intro c e f h;cases h),qU]
   ·have st2:=Stp.killObj H (.deferred none) ho rfl he
    exact zgq hx hh2 ht st2.hr hD (st.trans st2)
theorem zj4 (hx:x.Ok){run:RunF}(hrun:RunOK x run):CallOK x (fun _ F as h=>xbody x run F as h):=by
 intro k F as h v h' hh hF E w as' H hg has
 change xbody x run F as h=some (v,h') at hh
 unfold xbody at hh
 split at hh
 ·rename_i c hb
  obtain ⟨b1,hh⟩:=zac hh
  have b1:=zbh b1
  rw[za9] at b1
  refine (callsIn_wide (n:=0)).1 (callsIn_of_wp_marks hF hb trivial ?_)
  have s:SR x [] E F.ntmps (wrC as 0 .leaf) h { tmps:=⟨as'⟩++Array.replicate (F.ntmps - (⟨as'⟩:Array Value).size) undef,defers:=[] } w:=by
   refine ⟨⟨?_,fun i u hu=>?_⟩,H,hg,rfl⟩
   ·simp only[Array.size_append,Array.size_replicate,List.size_toArray]
    rw[has.length] at b1;omega
   ·rw[zjv] at hu
    by_cases hi:0≤i∧i<0+as.length
    ·rw[qX hi,Nat.sub_zero] at hu
     obtain ⟨u',hu',hr⟩:=F2.get has hu
     refine ⟨u',?_,hr⟩
     rw[Array.getElem?_append_left (by simp only[List.size_toArray];rw[← has.length];omega),xA]
     exact hu'
    ·rw[qW hi] at hu;cases hu
  have key:∀ (e:XE) t1 h1 ds1,(e = .normal∨e = .ret)→run false F.ntmps c (wrC as 0 .leaf) h []=some (e,t1,h1,ds1)→leaveF x F t1 h1 ds1=some (v,h') →
    c.wpIn Fence.wide 0 x.P (bodyPostM Fence.wide 0 x.P F fun e w'=>∃ E' u,e = .returned u∧Stp E E' h h' w w'∧VR E' v u) { tmps:=⟨as'⟩++Array.replicate (F.ntmps - (⟨as'⟩:Array Value).size) undef,defers:=[] } w:=fun e t1 h1 ds1 he hr hm=>by
   refine wpIn_mono (hrun _ _ _ _ _ _ _ _ _ _ hr none E [] _ w (fun _=>rfl) s .nil) ?_
   rintro e2 a2 w2 ⟨rfl,E',D',st,s2,hD⟩
   have:=zgq hx hm s2.tr s2.hr hD st
   rw[← s2.defers] at this
   rcases he with rfl|rfl
   ·exact this
   ·exact this
  split at hh
  ·rename_i t1 h1 ds1 hr;exact key .normal t1 h1 ds1 (.inl rfl) hr hh
  ·rename_i t1 h1 ds1 hr;exact key .ret t1 h1 ds1 (.inr rfl) hr hh
  ·cases hh
 ·cases hh
theorem zlm (hx:x.Ok){run:RunF}(hrun:RunOK x run):CallOK x (fun k F as h=>xenter x run k F as h):=by
 intro k F as h v h' hh hF E w as' H hg has
 change xenter x run k F as h=some (v,h') at hh
 unfold xenter at hh
 split at hh
 ·rename_i r hr
  cases hh
  exact hx.orc k as h v h' hr E w as' H hg has
 ·exact zj4 hx hrun k F as h v h' hh hF E w as' H hg has
end
theorem zil {x:X}{call:CallF}{t:Tr Value}{o:Oper}{h:Hp}{r:Value×Hp}(hh:xval x call t o h=some r):∀ c,o.op ≠ .defer c:=by
 intro c hc
 unfold xval xpure at hh
 rw[hc] at hh
 cases hh
section
variable {x:X}{E:En}{n:Nat}
theorem zhw:∀ {ps ps':List (Tmp×Value)} {t t':Tr Value} {tmps:Array Value},F2 (fun p q=>p.1=q.1∧VR E p.2 q.2) ps ps'→TR E n t tmps→setPs n ps t=some t' →
  TR E n t' (ps'.foldl (fun tmps p=>tmps.setIfInBounds p.1 p.2) tmps)
 |_,_,t,t',tmps,.nil,ht,hh=>by cases hh;exact ht
 |_,_,t,t',tmps,.cons (a:=p) (b:=q) (l:=l) hp hps,ht,hh=>by
  change (match putD n t (some p.1) p.2 with
   |some t'=>setPs n l t'
   |none=>none)=some t' at hh
  split at hh
  ·rename_i t1 h1
   rw[List.foldl_cons]
   refine zhw hps ?_ hh
   have:=zb2 (a:={ tmps:=tmps,defers:=[] }) ht hp.2 h1
   rw[hp.1] at this
   exact this
  ·cases hh
theorem zw0:∀ {ps:List Tmp} {as as':List Value},LR E as as'→F2 (fun (p q:Tmp×Value)=>p.1=q.1∧VR E p.2 q.2) (ps.zip as) (ps.zip as')
 | [],_,_,_=>by simp;exact .nil
 |p :: ps,_,_,.nil=>by simp;exact .nil
 |p :: ps,_,_,.cons h t => .cons ⟨rfl,h⟩ (zw0 t)
theorem DR.nil_inv {D:List Deferred}(h:DR E [] D):D=[]:=by cases h;rfl
theorem zln {run:RunF}(hrun:RunOK x run){i:Nat}{as as':List Value}{h h':Hp}{v:Value}{w:World}{e:Em}(hh:xround run i as h=some (v,h'))(H:HR E h w)(hg:GOk x.ng E)(has:LR E as as')(he:E i=some e) :
  ∃ fn tmps asg bd,(Instr.yield e.blk ⟨as'⟩).run x.P w = .ok (.round e.blk fn tmps asg bd) w∧∀ r,RoundIn (FW r) 0 x.P e.blk fn tmps asg bd w (fun en w'=>∃ E' u,en = .returned u∧Stp E E' h h' w w'∧VR E' v u):=by
 unfold xround at hh
 split at hh
 ·rename_i nn t ps asg bd st pd hob
  obtain ⟨b1,hh⟩:=zac hh
  have b1:=zay b1
  rw[za9,za9] at b1
  obtain ⟨e',he',fn,tmps,rr,hob',ht⟩:=H.obj i _ hob
  rw[he] at he';cases he'
  refine ⟨fn,(ps.zip as').foldl (fun tmps p=>tmps.setIfInBounds p.1 p.2) tmps,asg,bd,?_,fun r=>?_⟩
  ·unfold Instr.yield
   simp only[qT,zdq hob',qS]
   rw[qW (by simp only[List.size_toArray,ne_eq,Decidable.not_not];rw[← has.length,b1])]
   simp only[qU]
   simp only[List.zip_toArray,List.foldl_toArray]
  ·split at hh
   ·rename_i t1 h1
    have ht1:=zhw (zw0 (ps:=ps) has) ht h1
    split at hh
    ·rename_i t2 h2 hr1
     split at hh
     ·rename_i h3 hb3
      split at hh
      ·rename_i ex t4 h4 hr2
       refine roundIn_of_wpIn trivial ?_
       refine wpIn_mono (hrun _ _ _ _ _ _ _ _ _ _ hr1 (some e.blk) E [] _ w (fun hc=>by cases hc) ⟨ht1,H,hg,rfl⟩ .nil) ?_
       rintro e1 a1 w1 ⟨rfl,E1,D1,st1,s1,hD1⟩
       have hD1:=hD1.nil_inv;subst hD1
       unfold beginR at hb3
       split at hb3
       ·rename_i n3 t3 ps3 as3 bd3 ho3
        cases hb3
        have he1:=st1.le _ _ he
        obtain ⟨e',he',fn3,tmps3,rr3,hob3,ht3⟩:=st1.hr.obj i _ ho3
        rw[he1] at he';cases he'
        have hlt:=(qY.1 hob3).1
        refine ⟨{ w1 with heap:=w1.heap.setIfInBounds e.blk (.loop { state := .busy,pending:=none,fn:=fn3,tmps:=tmps3,params:=⟨ps3⟩,assign:=as3,body:=bd3,defers:=rr3 }) },?_,?_⟩
        ·unfold Instr.beginRound
         simp only[qT,zdq hob3,qS,zeh hob3 (by intro c e f h;cases h),qU]
        ·have st2:=Stp.putObj (o' := .loop n3 t3 ps3 as3 bd3 .busy none) (ob := .loop { state := .busy,pending:=none,fn:=fn3,tmps:=tmps3,params:=⟨ps3⟩,assign:=as3,body:=bd3,defers:=rr3 }) st1.hr ho3 rfl he1 hlt
          (fun w2 hw2=>⟨fn3,tmps3,rr3,hw2,ht3⟩)
         refine wpIn_mono (hrun _ _ _ _ _ _ _ _ _ _ hr2 (some e.blk) E1 [] a1 _ (fun hc=>by cases hc) ⟨s1.tr,st2.hr,s1.gok,s1.defers⟩ .nil) ?_
         rintro e2 a2 w3 ⟨rfl,E2,D2,st3,s3,hD2⟩
         have he2:=st3.le _ _ he1
         unfold endR at hh
         split at hh
         ·rename_i n4 t4 ps4 as4 bd4 ho4
          obtain ⟨e',he',fn4,tmps4,rr4,hob4,ht4⟩:=st3.hr.obj i _ ho4
          rw[he2] at he';cases he'
          have hlt4:=(qY.1 hob4).1
          have fin:∀ (ls:LoopState) (pd:Option Code),Stp E E2 h (h4.put i (.loop n4 t4 ps4 as4 bd4 ls pd)) w
            { w3 with heap:=w3.heap.setIfInBounds e.blk (.loop { state:=ls,pending:=pd,fn:=fn4,tmps:=tmps4,params:=⟨ps4⟩,assign:=as4,body:=bd4,defers:=rr4 }) }:=fun ls pd =>
           ((st1.trans st2).trans st3).trans (Stp.putObj (o' := .loop n4 t4 ps4 as4 bd4 ls pd) st3.hr ho4 rfl he2 hlt4 (fun w2 hw2=>⟨fn4,tmps4,rr4,hw2,ht4⟩))
          have er:∀ jump:Option Code,(Instr.endRound e.blk jump).run x.P w3 = .ok (.bool jump.isNone) { w3 with heap:=w3.heap.setIfInBounds e.blk (.loop { state:=if jump.isNone then .ready else .done,pending:=jump,fn:=fn4,tmps:=tmps4,params:=⟨ps4⟩,assign:=as4,body:=bd4,defers:=rr4 }) }:=fun jump=>by
           unfold Instr.endRound
           simp only[qT,zdq hob4,qS,zeh hob4 (by intro c e f h;cases h),qU]
          cases ex with
          |normal =>
           cases hh
           exact ⟨_,_,er none,E2,_,rfl,fin _ _,.plain rfl⟩
          |ret =>
           cases hh
           exact ⟨_,_,er (some .ret),E2,_,rfl,fin _ _,.plain rfl⟩
          |exit id =>
           cases hh
           exact ⟨_,_,er (some (.exit id)),E2,_,rfl,fin _ _,.plain rfl⟩
         ·cases hh
       ·cases hb3
      ·cases hh
     ·cases hh
    ·cases hh
   ·cases hh
 ·cases hh
end
section
variable {x:X}{Dm:List Deferred}{E:En}{n:Nat}{t t':Tr Value}{a:Act}{o:Oper}{v:Value}{h h':Hp}{w:World}{run:RunF}
theorem zj5 {i:Nat}{as:List Value}(s:SR x Dm E n t h a w)(hh:yieldOf (ev x.ng t) o=some (i,as)):∃ e as',E i=some e∧LR E as as'∧(∀ c,o.op ≠ .defer c)∧(execOp a.eval o).run x.P w=(Instr.yield e.blk ⟨as'⟩).run x.P w:=by
 unfold yieldOf at hh
 split at hh
 ·rename_i c ho
  obtain ⟨callee,args,tys⟩:=c
  simp only at hh
  split at hh
  ·rename_i g
   split at hh
   ·rename_i j hf
    split at hh
    ·rename_i as1 has
     cases hh
     obtain ⟨e,he,e1⟩:=(zae s.tr s.gok hf).yld_inv
     refine ⟨e,args.toList.map a.eval,he,zd2 s.tr s.gok has,fun c hc=>(by rw[ho] at hc;cases hc),?_⟩
     unfold execOp
     rw[ho]
     simp only[resolve,e1,Deferred.ofValue,qT,qU,qS,invoke]
     congr 2
     apply Array.toList_inj.1
     simp
    ·cases hh
   ·cases hh
  ·cases hh
 ·cases hh
theorem znh (hx:x.Ok)(hrun:RunOK x run)(s:SR x Dm E n t h a w)(hh:xvalN x run t o h=some (v,h')){r:Option Nat}{K:Act→World→Prop}{Q:Exit→Act→World→Prop}
  (hK:∀ E' w' u,Stp E E' h h' w w'→VR E' v u→K (a.put o.dst u) w'):o.wpIn (FW r) 0 x.P a w K Q:=by
 unfold xvalN at hh
 split at hh
 ·rename_i i as hy
  obtain ⟨e,as',he,has,hnd,hrun'⟩:=zj5 s hy
  obtain ⟨fn,tmps,asg,bd,hyr,hround⟩:=zln hrun hh s.hr s.gok has he
  refine ⟨fun _ _=>trivial,?_⟩
  rw[Oper.semAt_eq _ _ _ hnd,hrun',hyr,Oper.uponIn_round]
  refine ⟨fun hs=>(by cases hs),(hround r).mono ?_⟩
  rintro en w' ⟨E',u,rfl,hst,hv⟩
  exact hK E' w' u hst hv
 ·exact zi6 (zil hh) (ziw hx (zlm hx hrun) s hh hK)
theorem zni (hx:x.Ok)(hrun:RunOK x run)(s:SR x Dm E n t h a w){ops:Array Oper}(hh:xoneN x run n ops.toList o t h=some (t',h')){r:Option Nat}{K:Act→World→Prop}{Q:Exit→Act→World→Prop}
  (hK:∀ E' u w',Stp E E' h h' w w'→SR x Dm E' n t' h' (a.put o.dst u) w'→K (a.put o.dst u) w'):if Region.wanted o (yielded ops a.tmps)=true then o.wpIn (FW r) 0 x.P a w K Q else (∀ f,o.about x.P w a.eval=some f→(FW r).fn f)∧K (a.put o.dst undef) w:=by
 unfold xoneN at hh
 split at hh
 ·rename_i hw
  rw[zbe s.tr hw,qX rfl]
  split at hh
  ·rename_i v h2 hv
   obtain ⟨hp,rfl⟩:=zce hh
   exact znh hx hrun s hv fun E' w' u hst hr=>hK E' u w' hst (s.stp hst (zb2 (s.tr.mono hst.le) hr hp) (by rw[zb3,s.defers]))
  ·cases hh
 ·rename_i hw
  rw[zbe s.tr hw,qW (by simp)]
  obtain ⟨hp,rfl⟩:=zce hh
  exact ⟨fun _ _=>trivial,hK E undef w (Stp.refl s.hr) (s.stp (Stp.refl s.hr) (zb2 s.tr (VR.tuple' .nil) hp) (by rw[zb3,s.defers]))⟩
 ·cases hh
theorem zhx (hx:x.Ok)(hrun:RunOK x run){ops:Array Oper}{r:Option Nat}{Q:Exit→Act→World→Prop}:∀ (l:List Oper) {E:En} {t:Tr Value} {h:Hp} {a:Act} {w:World},SR x Dm E n t h a w→xopsN x run n ops.toList l t h=some (t',h') →
  (∀ E' a' w',Stp E E' h h' w w'→SR x Dm E' n t' h' a' w'→Q .normal a' w')→wpListIn (FW r) 0 x.P ops Q l a w
 | [],E,t,h,a,w,s,hh,hQ=>by
  cases hh
  exact wpListIn_nil (hQ E a w (Stp.refl s.hr) s)
 |o :: l,E,t,h,a,w,s,hh,hQ=>by
  change (match xoneN x run n ops.toList o t h with
   |some (t,h)=>xopsN x run n ops.toList l t h
   |none=>none)=some (t',h') at hh
  split at hh
  ·rename_i t1 h1 ho
   refine wpListIn_step fun K hK=>zni hx hrun s ho fun E1 _ w1 hst s1=>hK _ _ (zhx hx hrun l s1 hh fun E' a' w' hst' s'=>hQ E' a' w' (hst.trans hst') s')
  ·cases hh
end
section
variable {x:X}{E:En}{n:Nat}{t t':Tr Value}{a:Act}{h h':Hp}{w:World}{run:RunF}
theorem zlo {ds ds':List Nat}{e:XE}{c:Code}(hh:jumpOf t h ds (some c)=some (e,t',h',ds')){Q:Exit→Act→World→Prop}{r:Option Nat}(hQ:∀ e1:XE,some (e1,t,h,ds)=some (e,t',h',ds')→Q e1.conv a w) :
  c.wpIn (FW r) 0 x.P Q a w:=by
 cases c <;> first|exact wpIn_ret (hQ .ret hh)|exact wpIn_exit (hQ (.exit _) hh)|cases hh
theorem zlp (hx:x.Ok)(hrun:RunOK x run){D:List Deferred}{ds ds':List Nat}{g:Operand}{ps:Array Tmp}{asg bd:Code}{e:XE}(hh:xrange x run n g ps asg bd t h ds=some (e,t',h',ds'))(s:SR x D E n t h a w)(hD:DR E ds D) :
  (Code.rangeFunc g ps asg bd).wpIn (FW none) 0 x.P (Post x n E h w e t' h' ds') a w:=by
 unfold xrange at hh
 split at hh
 ·rename_i k fi ca hf
  obtain ⟨fi',ca',e1,hfi,hca⟩:=(zae s.tr s.gok hf).func_inv
  split at hh
  ·rename_i F hF
   split at hh
   ·rename_i v h3 hent
    split at hh
    ·rename_i h4 pd hend
     refine wpIn_rangeFunc fun fn _=>?_
     obtain ⟨ps⟩:=ps
     let o1:Obj := .deferred (some [])
     let o2:Obj := .loop { state := .ready,pending:=none,fn:=fn,tmps:=a.tmps,params:=⟨ps⟩,assign:=asg,body:=bd,defers:=w.heap.size }
     let w2:World:=(w.alloc o1).alloc o2
     let E1:En:=E.add h.next ⟨w.heap.size,0,0⟩
     let E2:En:=E1.add (h.next+1) ⟨w.heap.size+1,0,0⟩
     have st1:Stp E E1 h (h.new .dfr) w (w.alloc o1):=Stp.new s.hr .dfr o1 ⟨w.heap.size,0,0⟩ rfl (by
      show (w.alloc o1).heap[w.heap.size]? = some (.deferred (some []))
      exact Array.getElem?_push_size)
     have st2:Stp E1 E2 (h.new .dfr) ((h.new .dfr).new (.loop n t ps asg bd .ready none)) (w.alloc o1) w2:=Stp.new st1.hr _ o2 ⟨w.heap.size+1,0,0⟩ (by show w.heap.size+1=(w.heap.push o1).size;rw[Array.size_push]) (by
      refine ⟨fn,a.tmps,w.heap.size,?_,s.tr.mono (En.le_trans st1.le (st1.hr.le_new _))⟩
      show ((w.heap.push o1).push o2)[w.heap.size+1]? = _
      rw[show w.heap.size+1=(w.heap.push o1).size by rw[Array.size_push]]
      exact Array.getElem?_push_size)
     have st12:=st1.trans st2
     have hE2:E2 (h.next+1)=some ⟨w.heap.size+1,0,0⟩:=En.add_self _ _ _
     have hE0:E2 h.next=some ⟨w.heap.size,0,0⟩:=st2.le _ _ (En.add_self _ _ _)
     have has:LR E2 (app fi (.func (.yield (h.next+1)) ⟨[]⟩ ⟨[]⟩ :: ca)) (fi' ++ .func (.yield (w.heap.size+1)) ⟨[]⟩ ⟨[]⟩ :: ca'):=by
      rw[app_eq]
      exact (LR.mono st12.le hfi).append (.cons (.yld hE2) (LR.mono st12.le hca))
     have hfn:=hx.fn _ _ hF
     have hbody:∃ c,F.body=some c:=by
      unfold xbody at hent
      split at hent
      ·rename_i c hc;exact ⟨c,hc⟩
      ·cases hent
     obtain ⟨cb,hcb⟩:=hbody
     refine ⟨w.heap.size+1,[{ target := .collected w.heap.size,args:=#[] }],w2,{ target := .fn (.func k) ⟨ca'⟩,args:=⟨fi'⟩++#[.func (.yield (w.heap.size+1)) #[] #[]] },w2,k,⟨fi' ++ .func (.yield (w.heap.size+1)) ⟨[]⟩ ⟨[]⟩ :: ca'⟩,w2,?_,?_,fun _ _=>trivial,?_,fun hs=>(by cases hs),?_⟩
     ·show (Instr.enterLoop fn a.tmps ⟨ps⟩ asg bd none).run x.P w=_
      unfold Instr.enterLoop
      simp only[qT,run_newObj,qU,qS]
      rw[Array.size_push]
      rfl
     ·have hm:Array.map a.eval #[Operand.const (Value.func (.yield (w.heap.size+1)) #[] #[])]=#[Value.func (.yield (w.heap.size+1)) #[] #[]]:=by
       rw[List.map_toArray];rfl
      simp only[resolve,e1,Deferred.ofValue,qU,hm]
     ·simp only[invoke]
      have:(⟨fi'⟩++#[Value.func (.yield (w.heap.size+1)) #[] #[]]++⟨ca'⟩:Array Value)=⟨fi' ++ .func (.yield (w.heap.size+1)) ⟨[]⟩ ⟨[]⟩ :: ca'⟩:=by
       apply Array.toList_inj.1;simp
      rw[this]
      exact zgo hfn.1 hfn.2 hcb
     ·have hc:=zj4 hx hrun k F _ _ _ _ hent hfn.1 E2 w2 _ st12.hr (s.gok.mono st12.le) has
      refine zi5 (hc.mono ?_)
      rintro en w3 ⟨E3,u,rfl,st3,_⟩
      unfold endL at hend
      split at hend
      ·rename_i n3 t3 ps3 as3 bd3 stt pd3 ho3
       have he3:=st3.le _ _ hE2
       obtain ⟨e',he',fn3,tmps3,rr3,hob3,ht3⟩:=st3.hr.obj _ _ ho3
       rw[he3] at he';cases he'
       have hlt:=(qY.1 hob3).1
       have hne:stt ≠ .busy∧(h3.put (h.next+1) (.loop n3 t3 ps3 as3 bd3 .exhausted pd3),pd3)=(h4,pd):=by
        split at hend
        ·cases hend
        ·rename_i hb
         injection hend with hend
         exact ⟨hb,hend⟩
       obtain ⟨hb,hend⟩:=hne
       injection hend with m1 m2;subst m1;subst m2
       have st4:=Stp.putObj (o' := .loop n3 t3 ps3 as3 bd3 .exhausted pd3) (ob := .loop { state := .exhausted,pending:=pd3,fn:=fn3,tmps:=tmps3,params:=⟨ps3⟩,assign:=as3,body:=bd3,defers:=rr3 }) st3.hr ho3 rfl he3 hlt
        (fun w2 hw2=>⟨fn3,tmps3,rr3,hw2,ht3⟩)
       have st:=(st12.trans st3).trans st4
       refine ⟨pd3,{ w3 with heap:=w3.heap.setIfInBounds (w.heap.size+1) (.loop { state := .exhausted,pending:=pd3,fn:=fn3,tmps:=tmps3,params:=⟨ps3⟩,assign:=as3,body:=bd3,defers:=rr3 }) },?_,?_⟩
       rotate_left
       ·have key:∀ ex:XE,some (ex,t,h3.put (h.next+1) (.loop n3 t3 ps3 as3 bd3 .exhausted pd3),h.next :: ds)=some (e,t',h',ds')→Post x n E h w e t' h' ds' ex.conv { tmps:=a.tmps,defers:=[{ target := .collected w.heap.size,args:=#[] }]++a.defers } { w3 with heap:=w3.heap.setIfInBounds (w.heap.size+1) (.loop { state := .exhausted,pending:=pd3,fn:=fn3,tmps:=tmps3,params:=⟨ps3⟩,assign:=as3,body:=bd3,defers:=rr3 }) }:=?_
        ·cases pd3 with
         |none=>exact key .normal hh
         |some c=>exact zlo hh key
        intro ex hex
        injection hex with hex;injection hex with m1 hex;injection hex with m2 hex;injection hex with m3 m4
        subst m1;subst m2;subst m3;subst m4
        refine ⟨rfl,E3,{ target := .collected w.heap.size,args:=#[] } :: D,st,⟨s.tr.mono st.le,st.hr,s.gok.mono st.le,?_⟩,?_⟩
        ·simp[s.defers]
        ·exact .cons ⟨_,st3.le _ _ hE0,rfl⟩ (DR.mono st.le hD)
       ·unfold Instr.endLoop
        have hb':(stt == LoopState.busy)=false:=by cases stt <;> first|rfl|exact absurd rfl hb
        simp only[qT,zdq hob3,qS,hb',Bool.false_eq_true,if_false,zeh hob3 (by intro c e f h;cases h),qU]
      ·cases hend
    ·cases hh
   ·cases hh
  ·cases hh
 ·cases hh
end
theorem zcf {P:Program}{b:Frame}{a:Act}{k:List Item}{cs:List Frame}{w:World}{c:Code}:step P (lone (b.atR a (.code (.scope c) :: k)) cs w) = .next (lone (b.atR a (.code c :: .inScope c :: k)) cs w) :=
 step_lone_go (by simp[stepG,stepG.exec,Frame.atR])
theorem zj6 {P:Program}{b:Frame}{a:Act}{k:List Item}{cs:List Frame}{w:World}{c:Code}:step P (lone (b.atR a (.inScope c :: k)) cs w) = .next (lone (b.atR a k) cs w) :=
 step_lone_go (by simp[stepG,stepG.exec,Frame.atR])
theorem ze2 {F:Fence}{n:Nat}{P:Program}{Q:Exit→Act→World→Prop}{a:Act}{w:World}{c:Code}(h:c.wpIn F n P (Exit.noGoto Q) a w):(Code.scope c).wpIn F n P Q a w:=by
 intro b k cs hro hb hr
 have h0:(lone (b.atR a (.code (.scope c) :: k)) cs w).fenced P F:=fenced_calm hb hr rfl
 obtain ⟨e,a₁,w₁,hq,harr⟩:=h b (.inScope c :: k) cs hro hb hr
 cases e with
 |normal=>exact ⟨.normal,a₁,w₁,hq,.head h0 zcf (StepsIn.trans harr (.one (fenced_calm hb hr rfl) zj6))⟩
 |exit id =>
  have hx:exitTo id (.inScope c :: k)=exitTo id k:=by simp[exitTo]
  exact ⟨_,a₁,w₁,hq,fun k' hk => .head h0 zcf (harr.1 k' (by rw[hx];exact hk)),
   fun hr' hk=>let ⟨k₁,h1,h2⟩:=harr.2 hr' (by rw[hx];exact hk);⟨k₁,h1,.head h0 zcf h2⟩⟩
 |goto l=>exact hq.elim
 |ret=>exact ⟨_,a₁,w₁,hq,.of_steps (.one h0 zcf) harr⟩
 |panic ch=>exact ⟨_,a₁,w₁,hq,.of_steps (.one h0 zcf) harr⟩
 |outgrown=>exact ⟨_,a₁,w₁,hq,.of_steps (.one h0 zcf) harr⟩
theorem Post.panic {x:X}{n:Nat}{E:En}{h h':Hp}{w:World}{e:XE}{t':Tr Value}{ds':List Nat}(c:List PanicEntry)(a:Act)(w':World):¬ Post x n E h w e t' h' ds' (.panic c) a w':=by
 rintro ⟨h,_⟩
 cases e <;> cases h
section
variable {x:X}
theorem zxs (hx:x.Ok):∀ fuel,RunOK x (xrun x fuel)∧∀ rm n p t h ds e t' h' ds',xrun x fuel rm n (.loop p) t h ds=some (e,t',h',ds')→∀ r E D a w,(rm=false→r=none)→SR x D E n t h a w→DR E ds D→Code.roundsIn (FW r) 0 x.P p (Post x n E h w e t' h' ds') fuel a w:=by
 intro fuel
 induction fuel with
 |zero=>exact ⟨fun rm n c t h ds e t' h' ds' hh=>(by cases hh),fun rm n p t h ds e t' h' ds' hh=>(by cases hh)⟩
 |succ fuel ih =>
  obtain ⟨ih1,ih2⟩:=ih
  have hcall:=zlm hx ih1
  have loopR:∀ rm n p t h ds e t' h' ds',xrun x (fuel+1) rm n (.loop p) t h ds=some (e,t',h',ds')→∀ r E D a w,(rm=false→r=none)→SR x D E n t h a w→DR E ds D→Code.roundsIn (FW r) 0 x.P p (Post x n E h w e t' h' ds') (fuel+1) a w:=by
   intro rm n p t h ds e t' h' ds' hh r E D a w hrm s hD
   change (match xrun x fuel rm n p t h ds with
    |some (.normal,t,h,ds)=>xrun x fuel rm n (.loop p) t h ds
    |r=>r)=some (e,t',h',ds') at hh
   rw[roundsIn_succ]
   split at hh
   ·rename_i t1 h1 ds1 h1r
    refine wpIn_mono (ih1 _ _ _ _ _ _ _ _ _ _ h1r r E D a w hrm s hD) ?_
    rintro e1 a1 w1 ⟨rfl,E1,D1,st1,s1,hD1⟩
    have hr:=ih2 rm n p t1 h1 ds1 e t' h' ds' hh r E1 D1 a1 w1 hrm s1 hD1
    have hmono:∀ m a w2,Code.roundsIn (FW r) 0 x.P p (Post x n E1 h1 w1 e t' h' ds') m a w2→Code.roundsIn (FW r) 0 x.P p (Post x n E h w e t' h' ds') m a w2:=by
     intro m
     induction m with
     |zero=>intro a w2 h;exact h
     |succ m ihm =>
      intro a w2 h
      rw[roundsIn_succ] at h ⊢
      refine wpIn_mono h ?_
      intro e2 a2 w2 h2
      cases e2 with
      |normal=>exact ihm _ _ h2
      |_=>obtain ⟨q1,E2,D2,q2,q3,q4⟩:=h2;exact ⟨q1,E2,D2,st1.trans q2,q3,q4⟩
    exact hmono _ _ _ hr
   ·rename_i hnot
    refine wpIn_mono (ih1 _ _ _ _ _ _ _ _ _ _ hh r E D a w hrm s hD) ?_
    rintro e1 a1 w1 ⟨rfl,E1,D1,st1,s1,hD1⟩
    cases e with
    |normal=>exact absurd hh (hnot _ _ _)
    |exit id=>exact ⟨rfl,E1,D1,st1,s1,hD1⟩
    |ret=>exact ⟨rfl,E1,D1,st1,s1,hD1⟩
  refine ⟨?_,loopR⟩
  intro rm n c t h ds e t' h' ds' hh r E D a w hrm s hD
  cases c with
  |skip =>
   cases hh
   exact wpIn_skip ⟨rfl,E,D,Stp.refl s.hr,s,hD⟩
  |label l =>
   cases hh
   exact wpIn_label ⟨rfl,E,D,Stp.refl s.hr,s,hD⟩
  |seq p q =>
   change (match xrun x fuel rm n p t h ds with
    |some (.normal,t,h,ds)=>xrun x fuel rm n q t h ds
    |r=>r)=some (e,t',h',ds') at hh
   refine wpIn_seq ?_
   split at hh
   ·rename_i t1 h1 ds1 h1r
    refine wpIn_mono (ih1 _ _ _ _ _ _ _ _ _ _ h1r r E D a w hrm s hD) ?_
    rintro e1 a1 w1 ⟨rfl,E1,D1,st1,s1,hD1⟩
    refine wpIn_mono (ih1 _ _ _ _ _ _ _ _ _ _ hh r E1 D1 a1 w1 hrm s1 hD1) ?_
    rintro e2 a2 w2 ⟨q1,E2,D2,q2,q3,q4⟩
    exact ⟨q1,E2,D2,st1.trans q2,q3,q4⟩
   ·rename_i hnot
    refine wpIn_mono (ih1 _ _ _ _ _ _ _ _ _ _ hh r E D a w hrm s hD) ?_
    rintro e1 a1 w1 ⟨rfl,E1,D1,st1,s1,hD1⟩
    cases e with
    |normal=>exact absurd hh (hnot _ _ _)
    |exit id=>exact ⟨rfl,E1,D1,st1,s1,hD1⟩
    |ret=>exact ⟨rfl,E1,D1,st1,s1,hD1⟩
  |cond c p q =>
   change (match ev x.ng t c with
    |some (.bool b)=>xrun x fuel rm n (cond b p q) t h ds
    |_=>none)=some (e,t',h',ds') at hh
   split at hh
   ·rename_i b hb
    have hb':a.eval c = .bool b:=VR.plain_inv rfl (zae s.tr s.gok hb)
    refine wpIn_cond hb' ?_
    have:=ih1 _ _ _ _ _ _ _ _ _ _ hh r E D a w hrm s hD
    cases b <;> exact this
   ·cases hh
  |block id p =>
   change (match xrun x fuel rm n p t h ds with
    |some (.exit i,t,h,ds)=>cond (Nat.beq i id) (some (.normal,t,h,ds)) (some (.exit i,t,h,ds))
    |r=>r)=some (e,t',h',ds') at hh
   refine wpIn_block ?_
   split at hh
   ·rename_i i t1 h1 ds1 h1r
    refine wpIn_mono (ih1 _ _ _ _ _ _ _ _ _ _ h1r r E D a w hrm s hD) ?_
    rintro e1 a1 w1 ⟨rfl,E1,D1,st1,s1,hD1⟩
    rw[zb6] at hh
    show if i=id then _ else _
    by_cases hi:i=id
    ·rw[qX hi] at hh ⊢
     cases hh
     exact ⟨rfl,E1,D1,st1,s1,hD1⟩
    ·rw[qW hi] at hh ⊢
     cases hh
     exact ⟨rfl,E1,D1,st1,s1,hD1⟩
   ·rename_i hnot
    refine wpIn_mono (ih1 _ _ _ _ _ _ _ _ _ _ hh r E D a w hrm s hD) ?_
    rintro e1 a1 w1 ⟨rfl,E1,D1,st1,s1,hD1⟩
    cases e with
    |normal=>exact ⟨rfl,E1,D1,st1,s1,hD1⟩
    |exit id=>exact absurd hh (hnot _ _ _ _)
    |ret=>exact ⟨rfl,E1,D1,st1,s1,hD1⟩
  |scope p =>
   change xrun x fuel rm n p t h ds=some (e,t',h',ds') at hh
   refine ze2 (wpIn_mono (ih1 _ _ _ _ _ _ _ _ _ _ hh r E D a w hrm s hD) ?_)
   rintro e1 a1 w1 hP
   have hP':=hP
   obtain ⟨h1,_⟩:=hP
   cases e with
   |normal=>cases h1;exact hP'
   |exit id=>cases h1;exact hP'
   |ret=>cases h1;exact hP'
  |loop p=>exact wpIn_loop_rounds (fuel+1) (loopR rm n p t h ds e t' h' ds' hh r E D a w hrm s hD)
  |exit id =>
   cases hh
   exact wpIn_exit ⟨rfl,E,D,Stp.refl s.hr,s,hD⟩
  |ret =>
   cases hh
   exact wpIn_ret ⟨rfl,E,D,Stp.refl s.hr,s,hD⟩
  |region id ops d =>
   change cond d (cond (cond rm (allB noDf ops.toList) true) (nrm ds (xdraw x (fun k F as h=>xenter x (xrun x fuel) k F as h) n ops t h)) none) (nrm ds (xopsN x (xrun x fuel) n ops.toList ops.toList t h))=some (e,t',h',ds') at hh
   cases d with
   |true =>
    change cond (cond rm (allB noDf ops.toList) true) (nrm ds (xdraw x (fun k F as h=>xenter x (xrun x fuel) k F as h) n ops t h)) none=some (e,t',h',ds') at hh
    obtain ⟨hdf,hh⟩:=zac hh
    unfold nrm at hh
    split at hh
    ·rename_i t1 h1 hd
     injection hh with hh;injection hh with m1 hh;injection hh with m2 hh;injection hh with m3 m4;subst m1;subst m2;subst m3;subst m4
     cases hrb:rm with
     |false =>
      have hr0:=hrm hrb;subst hr0
      exact wpIn_wide.2 (znf hx hcall s hd (fun c a w=>Post.panic c a w) fun E' a' w' st s'=>⟨rfl,E',D,st,s',DR.mono st.le hD⟩)
     |true =>
      rw[hrb] at hdf
      have hdf:=(zag _ _).1 hdf
      obtain ⟨S,hS⟩:=zr1 (Q:=Post x n E h w .normal t1 h1 ds) hx hcall s hd (fun c a w=>Post.panic c a w) fun E' a' w' st s'=>⟨rfl,E',D,st,s',DR.mono st.le hD⟩
      refine zj3 hx.mixed (fun j o hj c he=>?_) (fun ⟨a',w',hp⟩=>by cases hp.1) hS
      have:=hdf o (by rw[← Array.getElem?_toList] at hj;exact List.mem_of_getElem? hj)
      unfold noDf at this
      rw[he] at this
      cases this
    ·cases hh
   |false =>
    change nrm ds (xopsN x (xrun x fuel) n ops.toList ops.toList t h)=some (e,t',h',ds') at hh
    unfold nrm at hh
    split at hh
    ·rename_i t1 h1 hd
     cases hh
     exact wpIn_region_list (zhx hx ih1 _ s hd fun E' a' w' st s'=>⟨rfl,E',D,st,s',DR.mono st.le hD⟩)
    ·cases hh
  |rangeFunc g ps asg bd =>
   change cond rm none (xrange x (xrun x fuel) n g ps asg bd t h ds)=some (e,t',h',ds') at hh
   obtain ⟨hrf,hh⟩:=zdc hh
   have hr0:=hrm hrf;subst hr0
   exact zlp hx ih1 hh s hD
  |goto _=>cases hh
  |refuse _=>cases hh
def xcall (x:X)(fuel k:Nat)(as:List Value)(h:Hp):Option (Value×Hp):=match x.fn.get k with
 |some F=>xbody x (xrun x fuel) F as h
 |none=>none
theorem zcg (hx:x.Ok){fuel k:Nat}{as:List Value}{h h':Hp}{v:Value}(hh:xcall x fuel k as h=some (v,h')){E:En}{w:World}{as':List Value}(H:HR E h w)(hg:GOk x.ng E)(has:LR E as as') :
  Calls x.P k ⟨as'⟩ w fun e w'=>∃ E' u,e = .returned u∧Stp E E' h h' w w'∧VR E' v u:=by
 unfold xcall at hh
 split at hh
 ·rename_i F hF
  exact zj4 hx (zxs hx fuel).1 k F as h v h' hh (hx.fn _ _ hF).1 E w as' H hg has
 ·cases hh
end
def ob {α β:Type}(r:Option α)(k:α→Option β):Option β:=Option.rec (motive:=fun _=>Option β) none k r
def bb {β:Type}(b:Bool)(y n:β):β:=Bool.rec (motive:=fun _=>β) n y b
theorem zak {α β:Type}{r:Option α}{k:α→Option β}{v:β}(h:ob r k=some v):∃ a,r=some a∧k a=some v:=by
 cases r with
 |none=>cases h
 |some a=>exact ⟨a,rfl,h⟩
theorem zbx {β:Type}{b:Bool}{y:Option β}{v:β}(h:bb b y none=some v):b=true∧y=some v:=by
 cases b with
 |false=>cases h
 |true=>exact ⟨rfl,h⟩
def adr (a:Option Addr):Option (Nat×Nat) :=
 Option.rec (motive:=fun _=>Option (Nat×Nat)) none (fun a=>Option.rec (motive:=fun _=>Option (Nat×Nat)) (some (a.block,a.off)) (fun _=>none) a.spot) a
theorem zou {a:Option Addr}{b o:Nat}(h:adr a=some (b,o)):a=some ⟨b,o,none⟩:=by
 cases a with
 |none=>cases h
 |some a =>
  obtain ⟨x,y,s⟩:=a
  cases s with
  |some s=>cases h
  |none=>cases h;rfl
def asPtr (v:Value):Option (Nat×Nat):=Value.casesOn (motive_1:=fun _=>Option (Nat×Nat)) v (fun _=>none) (fun _ _=>none) (fun _ _=>none) (fun _ _ _=>none) (fun _=>none) (fun a=>adr a) (fun _ _ _=>none) (fun _=>none) (fun _=>none) (fun _ _ _=>none) none (fun _ _=>none) none (fun _=>none) (fun _=>none)
def asSl (v:Value):Option ((Nat×Nat)×Nat×Nat):=Value.casesOn (motive_1:=fun _=>Option ((Nat×Nat)×Nat×Nat)) v (fun _=>none) (fun _ _=>none) (fun _ _=>none) (fun _ _ _=>none) (fun _=>none) (fun _=>none) (fun a n c=>ob (adr a) fun p=>some (p,n,c)) (fun _=>none) (fun _=>none) (fun _ _ _=>none) none (fun _ _=>none) none (fun _=>none) (fun _=>none)
def asBool (v:Value):Option Bool:=Value.casesOn (motive_1:=fun _=>Option Bool) v (fun b=>some b) (fun _ _=>none) (fun _ _=>none) (fun _ _ _=>none) (fun _=>none) (fun _=>none) (fun _ _ _=>none) (fun _=>none) (fun _=>none) (fun _ _ _=>none) none (fun _ _=>none) none (fun _=>none) (fun _=>none)
def asInt (v:Value):Option (IntKind×Int):=Value.casesOn (motive_1:=fun _=>Option (IntKind×Int)) v (fun _=>none) (fun k n=>some (k,n)) (fun _ _=>none) (fun _ _ _=>none) (fun _=>none) (fun _=>none) (fun _ _ _=>none) (fun _=>none) (fun _=>none) (fun _ _ _=>none) none (fun _ _=>none) none (fun _=>none) (fun _=>none)
def asAgg (v:Value):Option (List Value):=Value.casesOn (motive_1:=fun _=>Option (List Value)) v (fun _=>none) (fun _ _=>none) (fun _ _=>none) (fun _ _ _=>none) (fun _=>none) (fun _=>none) (fun _ _ _=>none) (fun _=>none) (fun _=>none) (fun _ _ _=>none) none (fun _ _=>none) none (fun l=>some l.toList) (fun _=>none)
def asTup (v:Value):Option (List Value):=Value.casesOn (motive_1:=fun _=>Option (List Value)) v (fun _=>none) (fun _ _=>none) (fun _ _=>none) (fun _ _ _=>none) (fun _=>none) (fun _=>none) (fun _ _ _=>none) (fun _=>none) (fun _=>none) (fun _ _ _=>none) none (fun _ _=>none) none (fun _=>none) (fun l=>some l.toList)
def asFn (v:Value):Option (Fn×List Value×List Value):=Value.casesOn (motive_1:=fun _=>Option (Fn×List Value×List Value)) v (fun _=>none) (fun _ _=>none) (fun _ _=>none) (fun _ _ _=>none) (fun _=>none) (fun _=>none) (fun _ _ _=>none) (fun _=>none) (fun _=>none) (fun f l m=>some (f,l.toList,m.toList)) none (fun _ _=>none) none (fun _=>none) (fun _=>none)
def dStruct (v:TypeDesc):Option (List Field):=TypeDesc.casesOn (motive:=fun _=>Option (List Field)) v none none (fun _=>none) (fun _=>none) (fun _=>none) none none (fun _=>none) (fun _=>none) (fun _ _=>none) (fun _ _=>none) (fun _ _=>none) (fun l=>some l.toList) (fun _ _ _=>none) (fun _=>none) (fun _=>none) (fun _ _=>none)
def dInt (v:TypeDesc):Option IntKind:=TypeDesc.casesOn (motive:=fun _=>Option IntKind) v none none (fun k=>some k) (fun _=>none) (fun _=>none) none none (fun _=>none) (fun _=>none) (fun _ _=>none) (fun _ _=>none) (fun _ _=>none) (fun _=>none) (fun _ _ _=>none) (fun _=>none) (fun _=>none) (fun _ _=>none)
def dSlice (v:TypeDesc):Option TypeId:=TypeDesc.casesOn (motive:=fun _=>Option TypeId) v none none (fun _=>none) (fun _=>none) (fun _=>none) none none (fun _=>none) (fun k=>some k) (fun _ _=>none) (fun _ _=>none) (fun _ _=>none) (fun _=>none) (fun _ _ _=>none) (fun _=>none) (fun _=>none) (fun _ _=>none)
theorem zcu {v:Value}{b o:Nat}(h:asPtr v=some (b,o)):v = .pointer (some ⟨b,o,none⟩):=by
 cases v with
 |pointer a=>rw[zou (a:=a) h]
 |_=>cases h
theorem zr3 {v:Value}{b o n c:Nat}(h:asSl v=some ((b,o),n,c)):v = .slice (some ⟨b,o,none⟩) n c:=by
 cases v with
 |slice a n' c' =>
  obtain ⟨p,h1,h2⟩:=zak (r:=adr a) h
  injection h2 with h2;injection h2 with h3 h4;injection h4 with h4 h5;subst h3;subst h4;subst h5
  rw[zou h1]
 |_=>cases h
theorem zhy {v:Value}{b:Bool}(h:asBool v=some b):v = .bool b:=by
 cases v with
 |bool a=>cases h;rfl
 |_=>cases h
theorem zcv {v:Value}{k:IntKind}{n:Int}(h:asInt v=some (k,n)):v = .int k n:=by
 cases v with
 |int a b=>cases h;rfl
 |_=>cases h
theorem zqe {v:Value}{l:List Value}(h:asTup v=some l):v = .tuple ⟨l⟩:=by
 cases v with
 |tuple a=>cases h;rfl
 |_=>cases h
theorem zr4 {v:Value}{f:Fn}{l m:List Value}(h:asFn v=some (f,l,m)):v = .func f ⟨l⟩ ⟨m⟩:=by
 cases v with
 |func a b c=>injection h with h;injection h with h1 h2;injection h2 with h2 h3;subst h1;subst h2;subst h3;rfl
 |_=>cases h
theorem zgr {d:TypeDesc}{l:List Field}(h:dStruct d=some l):d = .struct ⟨l⟩:=by
 cases d with
 |struct a=>cases h;rfl
 |_=>cases h
theorem zr5 {d:TypeDesc}{k:IntKind}(h:dInt d=some k):d = .int k:=by
 cases d with
 |int a=>cases h;rfl
 |_=>cases h
theorem zhz {d:TypeDesc}{e:TypeId}(h:dSlice d=some e):d = .slice e:=by
 cases d with
 |slice a=>cases h;rfl
 |_=>cases h
def fev (y:Operand):Gb→Tr Value→Option Value :=
 Operand.rec (motive:=fun _=>Gb→Tr Value→Option Value) (fun i _ t=>t.get i) (fun v _ _=>bb (plain v) (some v) none)
  (fun g ng _=>bb (Nat.blt g ng.n) (some (.pointer (some ⟨g,0,none⟩))) none) (fun f _ _=>some (.func (.func f) ⟨[]⟩ ⟨[]⟩)) y
theorem zby (y:Operand)(ng:Gb)(t:Tr Value):fev y ng t=ev ng t y:=by
 cases y with
 |const v=>show bb (plain v) (some v) none=cond (plain v) (some v) none;cases plain v <;> rfl
 |global g=>show bb (Nat.blt g ng.n) (some (Value.pointer (some ⟨g,0,none⟩))) none=cond (Nat.blt g ng.n) _ none;cases Nat.blt g ng.n <;> rfl
 |_=>rfl
def alt {α:Type}(fast old:Option α):Option α:=Option.rec (motive:=fun _=>Option α) old (fun r=>some r) fast
theorem zd5 {α:Type}{fast old:Option α}(h:∀ r,fast=some r→old=some r):alt fast old=old:=by
 cases fast with
 |none=>rfl
 |some r=>exact (h r rfl).symm
def lim (k:IntKind):Nat:=IntKind.rec (motive:=fun _=>Nat) 127 32767 2147483647 9223372036854775807 255 65535 4294967295 18446744073709551615 k
theorem zfi {k:IntKind}{n:Nat}(h:Nat.ble n (lim k)=true):k.wrap (Int.ofNat n)=Int.ofNat n:=by
 have h:=Nat.le_of_ble_eq_true h
 cases k <;> simp[lim] at h <;> simp[IntKind.wrap,IntKind.bits,IntKind.signed] <;> omega
def nn (a b:Int)(f:Nat→Nat→Option Value):Option Value :=
 Int.rec (motive:=fun _=>Option Value) (fun m=>Int.rec (motive:=fun _=>Option Value) (fun n=>f m n) (fun _=>none) b) (fun _=>none) a
theorem zc2 {a b:Int}{f:Nat→Nat→Option Value}{v:Value}(h:nn a b f=some v):∃ m n,a=Int.ofNat m∧b=Int.ofNat n∧f m n=some v:=by
 cases a with
 |negSucc m=>cases h
 |ofNat m =>
  cases b with
  |negSucc n=>cases h
  |ofNat n=>exact ⟨m,n,rfl,rfl,h⟩
abbrev IOp:=IntKind→Int→Int→Option Value
def iAdd:IOp:=fun k a b=>nn a b fun m n=>bb (Nat.ble (Nat.add m n) (lim k)) (some (.int k (Int.ofNat (Nat.add m n)))) none
def iSub:IOp:=fun k a b=>nn a b fun m n=>bb (Nat.ble n m) (bb (Nat.ble (Nat.sub m n) (lim k)) (some (.int k (Int.ofNat (Nat.sub m n)))) none) none
def iMul:IOp:=fun k a b=>nn a b fun m n=>bb (Nat.ble (Nat.mul m n) (lim k)) (some (.int k (Int.ofNat (Nat.mul m n)))) none
def iQuo:IOp:=fun k a b=>nn a b fun m n=>bb (Nat.ble 1 n) (bb (Nat.ble (Nat.div m n) (lim k)) (some (.int k (Int.ofNat (Nat.div m n)))) none) none
def iRem:IOp:=fun k a b=>nn a b fun m n=>bb (Nat.ble 1 n) (some (.int k (Int.ofNat (Nat.mod m n)))) none
def iEql:IOp:=fun _ a b=>nn a b fun m n=>some (.bool (Nat.beq m n))
def iNeq:IOp:=fun _ a b=>nn a b fun m n=>some (.bool (bb (Nat.beq m n) false true))
def iLss:IOp:=fun _ a b=>nn a b fun m n=>some (.bool (Nat.ble (Nat.succ m) n))
def iLeq:IOp:=fun _ a b=>nn a b fun m n=>some (.bool (Nat.ble m n))
def iGtr:IOp:=fun _ a b=>nn a b fun m n=>some (.bool (Nat.ble (Nat.succ n) m))
def iGeq:IOp:=fun _ a b=>nn a b fun m n=>some (.bool (Nat.ble n m))
def iNo:IOp:=fun _ _ _=>none
def fopI (op:BinOp):IOp:=BinOp.rec (motive:=fun _=>IOp) iAdd iSub iMul iQuo iRem iNo iNo iNo iNo iNo iNo iEql iNeq iLss iLeq iGtr iGeq op
theorem zr6 (m n:Nat):Nat.beq m n=(Int.ofNat m == Int.ofNat n):=by
 cases h:Nat.beq m n with
 |true=>have:=xB h;subst this;simp
 |false =>
  have:m≠n:=Nat.ne_of_beq_eq_false h
  symm;simp;omega
theorem zr7 (m n:Nat):Nat.ble m n=decide (Int.ofNat m≤Int.ofNat n):=by
 cases h:Nat.ble m n with
 |true=>have:=Nat.le_of_ble_eq_true h;symm;simp;omega
 |false =>
  have:¬ m≤n:=fun h'=>by rw[Nat.ble_eq_true_of_le h'] at h;cases h
  symm;simp;omega
theorem zr8 (m n:Nat):Nat.ble (Nat.succ m) n=decide (Int.ofNat m<Int.ofNat n):=by
 cases h:Nat.ble (Nat.succ m) n with
 |true=>have:=Nat.le_of_ble_eq_true h;symm;simp;omega
 |false =>
  have:¬ m+1≤n:=fun h'=>by rw[Nat.ble_eq_true_of_le h'] at h;cases h
  symm;simp;omega
theorem zqf {op:BinOp}{k:IntKind}{a b:Int}{v:Value}(t:TypeId)(h:fopI op k a b=some v):binOp op t (.int k a) (.int k b) = .pure v∧plainCell v=true:=by
 cases op with
 |add =>
  obtain ⟨m,n,rfl,rfl,h⟩:=zc2 h
  obtain ⟨h1,h⟩:=zbx h
  cases h
  refine ⟨?_,rfl⟩
  have:=zfi h1
  simp only[binOp,ne_eq,not_true_eq_false,if_false,Op.intArith]
  rw[show Int.ofNat m+Int.ofNat n=Int.ofNat (Nat.add m n) from rfl,this];rfl
 |sub =>
  obtain ⟨m,n,rfl,rfl,h⟩:=zc2 h
  obtain ⟨h1,h⟩:=zbx h
  obtain ⟨h2,h⟩:=zbx h
  cases h
  refine ⟨?_,rfl⟩
  have:=zfi h2
  have h1:=Nat.le_of_ble_eq_true h1
  simp only[binOp,ne_eq,not_true_eq_false,if_false,Op.intArith]
  rw[show Int.ofNat m - Int.ofNat n=Int.ofNat (Nat.sub m n) from (Int.ofNat_sub h1).symm,this];rfl
 |mul =>
  obtain ⟨m,n,rfl,rfl,h⟩:=zc2 h
  obtain ⟨h1,h⟩:=zbx h
  cases h
  refine ⟨?_,rfl⟩
  have:=zfi h1
  simp only[binOp,ne_eq,not_true_eq_false,if_false,Op.intArith]
  rw[show Int.ofNat m*Int.ofNat n=Int.ofNat (Nat.mul m n) from rfl,this];rfl
 |quo =>
  obtain ⟨m,n,rfl,rfl,h⟩:=zc2 h
  obtain ⟨h0,h⟩:=zbx h
  obtain ⟨h1,h⟩:=zbx h
  cases h
  refine ⟨?_,rfl⟩
  have:=zfi h1
  have h0:=Nat.le_of_ble_eq_true h0
  have hn:¬ Int.ofNat n=0:=by simp;omega
  simp only[binOp,ne_eq,not_true_eq_false,if_false,Op.intDiv,qW hn]
  rw[show (Int.ofNat m).tdiv (Int.ofNat n)=Int.ofNat (Nat.div m n) from rfl,this];rfl
 |rem =>
  obtain ⟨m,n,rfl,rfl,h⟩:=zc2 h
  obtain ⟨h0,h⟩:=zbx h
  cases h
  refine ⟨?_,rfl⟩
  have h0:=Nat.le_of_ble_eq_true h0
  have hn:¬ Int.ofNat n=0:=by simp;omega
  simp only[binOp,ne_eq,not_true_eq_false,if_false,Op.intDiv,qW hn]
  rfl
 |eql =>
  obtain ⟨m,n,rfl,rfl,h⟩:=zc2 h
  cases h
  refine ⟨?_,rfl⟩
  simp only[binOp,ne_eq,not_true_eq_false,if_false,Op.intCmp]
  rw[zr6];rfl
 |neq =>
  obtain ⟨m,n,rfl,rfl,h⟩:=zc2 h
  cases h
  refine ⟨?_,rfl⟩
  simp only[binOp,ne_eq,not_true_eq_false,if_false,Op.intCmp]
  rw[show bb (Nat.beq m n) false true = !(Nat.beq m n) by cases Nat.beq m n <;> rfl,zr6];rfl
 |lss =>
  obtain ⟨m,n,rfl,rfl,h⟩:=zc2 h
  cases h
  refine ⟨?_,rfl⟩
  simp only[binOp,ne_eq,not_true_eq_false,if_false,Op.intCmp]
  rw[zr8];rfl
 |leq =>
  obtain ⟨m,n,rfl,rfl,h⟩:=zc2 h
  cases h
  refine ⟨?_,rfl⟩
  simp only[binOp,ne_eq,not_true_eq_false,if_false,Op.intCmp]
  rw[zr7];rfl
 |gtr =>
  obtain ⟨m,n,rfl,rfl,h⟩:=zc2 h
  cases h
  refine ⟨?_,rfl⟩
  simp only[binOp,ne_eq,not_true_eq_false,if_false,Op.intCmp]
  rw[zr8];rfl
 |geq =>
  obtain ⟨m,n,rfl,rfl,h⟩:=zc2 h
  cases h
  refine ⟨?_,rfl⟩
  simp only[binOp,ne_eq,not_true_eq_false,if_false,Op.intCmp]
  rw[zr7];rfl
 |_=>cases h
abbrev PureF:=X→Tr Value→Oper→Option Value
def pOld:PureF:=fun x t o=>xpure x t o
def pMove (y:Operand):PureF:=fun x t _=>fev y x.ng t
def fpick (c p q:Operand)(ng:Gb)(t:Tr Value):Option Value:=ob (fev c ng t) fun v=>ob (asBool v) fun b=>bb b (fev p ng t) (fev q ng t)
def pPick (c p q:Operand):PureF:=fun x t o=>alt (fpick c p q x.ng t) (xpure x t o)
def fbinI (op:BinOp)(p q:Operand)(ng:Gb)(t:Tr Value):Option Value :=
 ob (fev p ng t) fun u=>ob (fev q ng t) fun v=>ob (asInt u) fun a=>ob (asInt v) fun b=>bb (Nat.beq (kindNo a.1) (kindNo b.1)) (fopI op a.1 a.2 b.2) none
def pBin (op:BinOp)(p q:Operand):PureF:=fun x t o=>alt (fbinI op p q x.ng t) (xpure x t o)
def und (ti:Tr TI)(t:TypeId):Option TypeDesc:=ob (ti.get t) fun i=>some i.under
theorem zov (ti:Tr TI)(t:TypeId):und ti t=undT ti t:=by unfold und undT;cases ti.get t <;> rfl
def fconv (s d:TypeId)(y:Operand)(x:X)(t:Tr Value):Option Value :=
 ob (fev y x.ng t) fun v=>ob (asInt v) fun a=>ob (und x.ti s) fun _=>ob (und x.ti d) fun u=>ob (dInt u) fun k =>
  Int.rec (motive:=fun _=>Option Value) (fun n=>bb (Nat.ble n (lim k)) (some (.int k (Int.ofNat n))) none) (fun _=>none) a.2
def pConv (s d:TypeId)(y:Operand):PureF:=fun x t o=>alt (fconv s d y x t) (xpure x t o)
def ffld (ti:Tr TI)(ty:TypeId)(k:Nat):Option Field:=ob (und ti ty) fun u=>ob (dStruct u) fun l=>nth l k
def ffaddr (ty:TypeId)(y:Operand)(k:Nat)(x:X)(t:Tr Value):Option Value :=
 ob (fev y x.ng t) fun v=>ob (asPtr v) fun p=>ob (ffld x.ti ty k) fun fd=>ob (x.ti.get fd.type) fun i=>bb (Nat.beq i.size 0) none (some (.pointer (some ⟨p.1,Nat.add p.2 fd.offset,none⟩)))
def pFaddr (ty:TypeId)(y:Operand)(k:Nat):PureF:=fun x t o=>alt (ffaddr ty y k x t) (xpure x t o)
def natI (v:Value):Option Nat:=ob (asInt v) fun a=>Int.rec (motive:=fun _=>Option Nat) (fun n=>some n) (fun _=>none) a.2
theorem zr9 {v:Value}{n:Nat}(h:natI v=some n):natV (some v)=some n:=by
 obtain ⟨⟨k,a⟩,h1,h2⟩:=zak h
 rw[zcv h1]
 cases a with
 |negSucc _=>cases h2
 |ofNat m=>cases h2;rfl
def fiaddr (ty:TypeId)(y ix:Operand)(x:X)(t:Tr Value):Option Value :=
 ob (fev ix x.ng t) fun iv=>ob (natI iv) fun i=>ob (fev y x.ng t) fun v=>ob (asSl v) fun s=>ob (und x.ti ty) fun u=>ob (dSlice u) fun e=>ob (x.ti.get e) fun te =>
  bb (Nat.ble (Nat.succ i) s.2.1) (some (.pointer (some ⟨s.1.1,Nat.add s.1.2 (Nat.mul i te.size),none⟩))) none
def pIaddr (ty:TypeId)(y ix:Operand):PureF:=fun x t o=>alt (fiaddr ty y ix x t) (xpure x t o)
def fextr (y:Operand)(k:Nat)(x:X)(t:Tr Value):Option Value:=ob (fev y x.ng t) fun v=>ob (asTup v) fun l=>nth l k
def pExtr (y:Operand)(k:Nat):PureF:=fun x t o=>alt (fextr y k x t) (xpure x t o)
def nilOk (v:Value):Bool:=Option.rec (motive:=fun _=>Bool) false (fun _=>true) (asPtr v)
def fnil (y:Operand)(x:X)(t:Tr Value):Option Value:=ob (fev y x.ng t) fun v=>bb (nilOk v) (some v) none
def pNil (y:Operand):PureF:=fun x t o=>alt (fnil y x t) (xpure x t o)
def fplaces (ti:Tr TI)(fs:List Field):Option (List (Nat×Nat)) :=
 List.rec (motive:=fun _=>Option (List (Nat×Nat))) (some []) (fun f _ ih=>ob (ti.get f.type) fun i=>ob ih fun r=>some ((f.offset,i.size) :: r)) fs
theorem zqg (ti:Tr TI)(fs:List Field):fplaces ti fs=placesL ti fs:=by
 induction fs with
 |nil=>rfl
 |cons f fs ih =>
  show (ob (ti.get f.type) fun i=>ob (fplaces ti fs) fun r=>some ((f.offset,i.size) :: r))=_
  rw[ih]
  show _=(match ti.get f.type with
   |some i=>match placesL ti fs with
    |some r=>some ((f.offset,i.size) :: r)
    |none=>none
   |none=>none)
  cases ti.get f.type with
  |none=>rfl
  |some i=>cases placesL ti fs <;> rfl
def fevP (ng:Gb)(t:Tr Value)(l:List (Nat×Operand)):Option (List (Nat×Value)) :=
 List.rec (motive:=fun _=>Option (List (Nat×Value))) (some []) (fun p _ ih=>ob (fev p.2 ng t) fun v=>ob ih fun r=>some ((p.1,v) :: r)) l
theorem zxt (ng:Gb)(t:Tr Value)(l:List (Nat×Operand)):fevP ng t l=evP (ev ng t) l:=by
 induction l with
 |nil=>rfl
 |cons p l ih =>
  show (ob (fev p.2 ng t) fun v=>ob (fevP ng t l) fun r=>some ((p.1,v) :: r))=_
  rw[ih,zby]
  show _=(match ev ng t p.2 with
   |some v=>match evP (ev ng t) l with
    |some r=>some ((p.1,v) :: r)
    |none=>none
   |none=>none)
  cases ev ng t p.2 with
  |none=>rfl
  |some i=>cases evP (ev ng t) l <;> rfl
def ffill (place:Nat→Option (Nat×Nat))(parts:List (Nat×Value)):List Value→Option (List Value) :=
 List.rec (motive:=fun _=>List Value→Option (List Value)) (fun cells=>some cells)
  (fun p _ ih cells=>ob (place p.1) fun q=>bb (Nat.beq (len (cellsOf p.2)) q.2) (bb (Nat.ble (Nat.add q.1 q.2) (len cells)) (ih (splice q.1 (cellsOf p.2) cells)) none) none) parts
theorem zow (place:Nat→Option (Nat×Nat)):∀ (parts:List (Nat×Value)) (cells:List Value),ffill place parts cells=fillL place parts cells
 | [],_=>rfl
 |p :: parts,cells=>by
  show (ob (place p.1) fun q=>bb (Nat.beq (len (cellsOf p.2)) q.2) (bb (Nat.ble (Nat.add q.1 q.2) (len cells)) (ffill place parts (splice q.1 (cellsOf p.2) cells)) none) none)=(match place p.1 with
   |none=>none
   |some (off,size)=>cond (Nat.beq (len (cellsOf p.2)) size) (cond (Nat.ble (off+size) (len cells)) (fillL place parts (splice off (cellsOf p.2) cells)) none) none)
  cases place p.1 with
  |none=>rfl
  |some q =>
   obtain ⟨off,size⟩:=q
   show bb (Nat.beq (len (cellsOf p.2)) size) (bb (Nat.ble (off+size) (len cells)) (ffill place parts (splice off (cellsOf p.2) cells)) none) none=cond (Nat.beq (len (cellsOf p.2)) size) (cond (Nat.ble (off+size) (len cells)) (fillL place parts (splice off (cellsOf p.2) cells)) none) none
   rw[zow place parts]
   cases Nat.beq (len (cellsOf p.2)) size with
   |false=>rfl
   |true=>cases Nat.ble (off+size) (len cells) <;> rfl
def fbuild (ty:TypeId)(ps:List (Nat×Operand))(x:X)(t:Tr Value):Option Value :=
 ob (x.ti.get ty) fun i=>ob i.zero fun z=>ob (fevP x.ng t ps) fun vs=>ob (dStruct i.under) fun fs=>ob (fplaces x.ti fs) fun pl=>ob (ffill (nth pl) vs (cellsOf z)) fun l=>some (.agg ⟨l⟩)
def pBuild (ty:TypeId)(ps:Array (Nat×Operand)):PureF:=fun x t o=>alt (fbuild ty ps.toList x t) (xpure x t o)
def fnot (op:UnOp)(y:Operand)(x:X)(t:Tr Value):Option Value :=
 UnOp.rec (motive:=fun _=>Option Value) none none (ob (fev y x.ng t) fun v=>ob (asBool v) fun b=>some (.bool (bb b false true))) none op
def pUn (op:UnOp)(y:Operand):PureF:=fun x t o=>alt (fnot op y x t) (xpure x t o)
def fPure (op:Op):PureF:=Op.rec (motive:=fun _=>PureF) pMove pMove (fun c p q=>pPick c p q) (fun _=>pOld) (fun _ _=>pOld) (fun ty ps=>pBuild ty ps) (fun _ _ _=>pOld) (fun _ _ _ _=>pOld) (fun _ _=>pOld) (fun _ _ _=>pOld) (fun _=>pOld) (fun _=>pOld) (fun y=>pNil y) (fun op _ p q _=>pBin op p q) (fun op _ y=>pUn op y) (fun s d y=>pConv s d y) (fun _ _=>pOld) (fun _ _=>pOld) (fun _ _ _=>pOld) (fun _ _=>pOld) (fun _ _=>pOld) (fun _ _ _=>pOld) (fun _ _ _ _ _=>pOld) (fun ty y k=>pFaddr ty y k) (fun _ _ _=>pOld) (fun ty y k=>pIaddr ty y k) (fun _ _ _=>pOld) (fun _ _ _ _=>pOld) (fun _ _ _ _=>pOld) (fun _ _ _=>pOld) (fun _ _ _ _=>pOld) (fun _ _=>pOld) (fun _ _=>pOld) (fun _=>pOld) (fun _ _ _ _=>pOld) (fun y k=>pExtr y k) (fun _=>pOld) (fun _=>pOld) (fun _=>pOld) (fun _=>pOld) (fun _ _=>pOld) (fun _ _ _=>pOld) (fun _ _=>pOld) op
theorem zox (x:X)(t:Tr Value)(o:Oper):fPure o.op x t o=xpure x t o:=by
 obtain ⟨dst,op,ty,pos,after,guard⟩:=o
 cases op with
 |move y=>exact zby y x.ng t
 |assign y=>exact zby y x.ng t
 |pick c p q =>
  refine zd5 fun r h=>?_
  replace h:=zak h;obtain ⟨v,h1,h⟩:=h
  replace h:=zak h;obtain ⟨b,h2,h⟩:=h
  have:=zhy h2;subst this
  rw[zby] at h1
  show xpick (ev x.ng t) c p q=some r
  unfold xpick
  rw[h1]
  rw[zby,zby] at h
  cases b <;> exact h
 |binOp op ty p q yt =>
  refine zd5 fun r h=>?_
  replace h:=zak h;obtain ⟨u,h1,h⟩:=h
  replace h:=zak h;obtain ⟨v,h2,h⟩:=h
  replace h:=zak h;obtain ⟨⟨k,a⟩,h3,h⟩:=h
  replace h:=zak h;obtain ⟨⟨k',b⟩,h4,h⟩:=h
  replace h:=zbx h;obtain ⟨h5,h⟩:=h
  have:=zcv h3;subst this
  have:=zcv h4;subst this
  have h5:=zf4 h5;change k=k' at h5;subst h5
  obtain ⟨h6,h7⟩:=zqf ty h
  rw[zby] at h1 h2
  show xbin x.P x.facts x.ti (ev x.ng t) _ op ty p q=some r
  unfold xbin
  rw[h1,h2]
  simp only[h6,semPure,plainV,h7,cond_true]
 |convert s d y =>
  refine zd5 fun r h=>?_
  replace h:=zak h;obtain ⟨v,h1,h⟩:=h
  replace h:=zak h;obtain ⟨⟨k,a⟩,h2,h⟩:=h
  replace h:=zak h;obtain ⟨us,h3,h⟩:=h
  replace h:=zak h;obtain ⟨ud,h4,h⟩:=h
  replace h:=zak h;obtain ⟨kd,h5,h⟩:=h
  have:=zcv h2;subst this
  have:=zr5 h5;subst this
  rw[zby] at h1
  rw[zov] at h3 h4
  cases a with
  |negSucc _=>cases h
  |ofNat n =>
   replace h:=zbx h;obtain ⟨h6,h⟩:=h
   cases h
   show xconv x.P x.ti (ev x.ng t) _ s d y=_
   unfold xconv
   rw[h1,h3,h4]
   simp only[Conv.intToInt,zfi h6]
   rfl
 |build ty ps =>
  refine zd5 fun r h=>?_
  replace h:=zak h;obtain ⟨i,h1,h⟩:=h
  replace h:=zak h;obtain ⟨z,h2,h⟩:=h
  replace h:=zak h;obtain ⟨vs,h3,h⟩:=h
  replace h:=zak h;obtain ⟨fs,h4,h⟩:=h
  replace h:=zak h;obtain ⟨pl,h5,h⟩:=h
  replace h:=zak h;obtain ⟨l,h6,h⟩:=h
  cases h
  rw[zxt] at h3
  rw[zqg] at h5
  rw[zow] at h6
  have h4:=zgr h4
  show xbuild x.ti (ev x.ng t) ty ps=_
  unfold xbuild
  rw[h1]
  simp only[h2,h3,h4,h5,h6,aggOpt]
 |fieldAddr ty y k =>
  refine zd5 fun r h=>?_
  replace h:=zak h;obtain ⟨v,h1,h⟩:=h
  replace h:=zak h;obtain ⟨⟨b,off⟩,h2,h⟩:=h
  replace h:=zak h;obtain ⟨fd,h3,h⟩:=h
  replace h:=zak h;obtain ⟨i,h4,h⟩:=h
  replace h3:=zak h3;obtain ⟨u,h5,h3⟩:=h3
  replace h3:=zak h3;obtain ⟨l,h6,h3⟩:=h3
  have:=zcu h2;subst this
  have:=zgr h6;subst this
  rw[zby] at h1
  rw[zov] at h5
  show xfieldAddr x.ti (ev x.ng t) ty y k=_
  unfold xfieldAddr structF
  rw[h1,h5]
  simp only[h3,h4]
  cases hb:Nat.beq i.size 0 with
  |true=>rw[hb] at h;cases h
  |false=>rw[hb] at h;exact h
 |indexAddr ty y ix =>
  refine zd5 fun r h=>?_
  replace h:=zak h;obtain ⟨iv,h1,h⟩:=h
  replace h:=zak h;obtain ⟨i,h2,h⟩:=h
  replace h:=zak h;obtain ⟨v,h3,h⟩:=h
  replace h:=zak h;obtain ⟨⟨⟨b,off⟩,n,c⟩,h4,h⟩:=h
  replace h:=zak h;obtain ⟨u,h5,h⟩:=h
  replace h:=zak h;obtain ⟨e,h6,h⟩:=h
  replace h:=zak h;obtain ⟨te,h7,h⟩:=h
  replace h:=zbx h;obtain ⟨h8,h⟩:=h
  cases h
  have:=zr3 h4;subst this
  have:=zhz h6;subst this
  rw[zby] at h1 h3
  rw[zov] at h5
  show xindexAddr x.ti (ev x.ng t) ty y ix=_
  unfold xindexAddr
  rw[h1,h3,h5,zr9 h2]
  simp only[h7]
  rw[show Nat.blt i n=true from h8]
  rfl
 |extract y k =>
  refine zd5 fun r h=>?_
  replace h:=zak h;obtain ⟨v,h1,h⟩:=h
  replace h:=zak h;obtain ⟨l,h2,h⟩:=h
  have:=zqe h2;subst this
  rw[zby] at h1
  show xextr (ev x.ng t) y k=_
  unfold xextr
  rw[h1]
  exact h
 |nilCheck y =>
  refine zd5 fun r h=>?_
  replace h:=zak h;obtain ⟨v,h1,h⟩:=h
  replace h:=zbx h;obtain ⟨h2,h⟩:=h
  injection h with h;subst h
  rw[zby] at h1
  show xnil (ev x.ng t) y=_
  unfold xnil
  rw[h1]
  unfold nilOk at h2
  cases hp:asPtr v with
  |none=>rw[hp] at h2;cases h2
  |some p =>
   obtain ⟨b,off⟩:=p
   have:=zcu hp;subst this
   rfl
 |unOp op ty y =>
  refine zd5 fun r h=>?_
  cases op with
  |not =>
   replace h:=zak (r:=fev y x.ng t) h;obtain ⟨v,h1,h⟩:=h
   replace h:=zak h;obtain ⟨b,h2,h⟩:=h
   cases h
   have:=zhy h2;subst this
   rw[zby] at h1
   show pureOp x.P (ev x.ng t) _=_
   unfold pureOp plainOpd
   simp only[Op.operands,allB,h1]
   cases b <;> (simp only[execOp,h1,Option.getD_some];rfl)
  |_=>cases h
 |_=>rfl
abbrev CaseF:=X→RunF→Tr Value→Oper→Hp→Option (Value×Hp)
def oh (h:Hp)(r:Option Value):Option (Value×Hp):=Option.rec (motive:=fun _=>Option (Value×Hp)) none (fun v=>some (v,h)) r
theorem oh_eq (h:Hp)(r:Option Value):oh h r=(match r with|some v=>some (v,h)|none=>none):=by cases r <;> rfl
def asRow (o:Ob):Option Bk:=Ob.casesOn (motive:=fun _=>Option Bk) o (fun b=>some b) (fun _ _ _=>none) (fun _ _ _ _=>none) none (fun _ _ _ _ _ _ _=>none)
def fblk (h:Hp)(i:Nat):Option Bk:=ob (h.bs.get i) fun o=>ob o fun o=>asRow o
theorem zsa (h:Hp)(i:Nat):fblk h i=h.blk i:=by
 unfold fblk Hp.blk Hp.ob
 cases h.bs.get i with
 |none=>rfl
 |some o =>
  cases o with
  |none=>rfl
  |some o=>cases o <;> rfl
def freadN (B:Bk)(n:Nat):Nat→Option (List Value) :=
 Nat.rec (motive:=fun _=>Nat→Option (List Value)) (fun _=>some []) (fun _ ih j=>ob (B.at j) fun v=>ob (ih (Nat.succ j)) fun l=>some (v :: l)) n
theorem zlq (B:Bk):∀ n j,freadN B n j=B.readN n j
 | 0,_=>rfl
 |n+1,j=>by
  show (ob (B.at j) fun v=>ob (freadN B n (j+1)) fun l=>some (v :: l))=(match B.at j with
   |some v=>match B.readN n (j+1) with
    |some l=>some (v :: l)
    |none=>none
   |none=>none)
  rw[zlq B n]
  cases B.at j with
  |none=>rfl
  |some v=>cases B.readN n (j+1) <;> rfl
def fload (ti:Tr TI)(h:Hp)(ty:TypeId)(v:Value):Option Value :=
 ob (asPtr v) fun p=>ob (ti.get ty) fun i=>ob (fblk h p.1) fun B=>bb i.agg (ob (freadN B i.size p.2) fun l=>some (.agg ⟨l⟩)) (B.at p.2)
theorem zf8 {ti:Tr TI}{h:Hp}{ty:TypeId}{v r:Value}(hh:fload ti h ty v=some r):xload ti h ty (some v)=some r:=by
 replace hh:=zak hh;obtain ⟨⟨b,o⟩,h1,hh⟩:=hh
 replace hh:=zak hh;obtain ⟨i,h2,hh⟩:=hh
 replace hh:=zak hh;obtain ⟨B,h3,hh⟩:=hh
 have:=zcu h1;subst this
 rw[zsa] at h3
 unfold xload
 simp only[h2]
 change h.blk b=some B at h3
 rw[h3]
 simp only
 cases ha:i.agg with
 |true =>
  rw[ha] at hh
  replace hh:=zak (r:=freadN B i.size o) hh;obtain ⟨l,h4,hh⟩:=hh
  rw[zlq] at h4
  rw[h4]
  exact hh
 |false=>rw[ha] at hh;exact hh
def fcells (v:Value):List Value:=Option.rec (motive:=fun _=>List Value) [v] (fun l=>l) (asAgg v)
theorem zh0 (v:Value):fcells v=cellsOf v:=by cases v <;> rfl
def one1 (v:Value):Bool:=Value.casesOn (motive_1:=fun _=>Bool) v (fun _=>true) (fun _ _=>true) (fun _ _=>true) (fun _ _ _=>true) (fun _=>true) (fun _=>true) (fun _ _ _=>true) (fun _=>true) (fun _=>true) (fun _ _ _=>true) true (fun _ _=>true) true (fun _=>false) (fun _=>false)
theorem zxu:one1=oneB:=by funext v;cases v <;> rfl
def fstore (ty:TypeId)(p y:Operand)(x:X)(t:Tr Value)(h:Hp):Option (Value×Hp) :=
 ob (fev p x.ng t) fun pv=>ob (asPtr pv) fun q=>ob (fev y x.ng t) fun v=>ob (x.ti.get ty) fun i=>ob (fblk h q.1) fun B =>
  bb (Nat.beq (len (fcells v)) i.size) (bb (Nat.ble (Nat.add q.2 i.size) B.size) (bb B.ro none (bb (allB one1 (fcells v)) (some (undef,h.put q.1 (.row (B.write q.2 (fcells v))))) none)) none) none
def falloc (ti:Tr TI)(h:Hp)(e:TypeId):Option (Value×Hp) :=
 ob (ti.get e) fun i=>ob i.zero fun z=>some (.pointer (some ⟨h.next,0,none⟩),h.new (.row (oneBk e (fcells z))))
theorem zsb (ti:Tr TI)(h:Hp)(e:TypeId):falloc ti h e=xalloc ti h e:=by
 unfold falloc xalloc
 cases ti.get e with
 |none=>rfl
 |some i =>
  show (ob i.zero fun z=>some (Value.pointer (some ⟨h.next,0,none⟩),h.new (.row (oneBk e (fcells z)))))=(match i.zero with
   |some z=>some (Value.pointer (some ⟨h.next,0,none⟩),h.new (.row (oneBk e (cellsOf z))))
   |none=>none)
  cases i.zero with
  |none=>rfl
  |some z=>show some (Value.pointer (some ⟨h.next,0,none⟩),h.new (.row (oneBk e (fcells z))))=_;rw[zh0]
def fnId (f:Fn):Option Nat:=Fn.casesOn (motive:=fun _=>Option Nat) f (fun k=>some k) (fun _=>none) (fun _ _=>none) (fun _ _ _ _=>none) (fun _=>none)
theorem zsc {f:Fn}{k:Nat}(h:fnId f=some k):f = .func k:=by
 cases f with
 |func a=>cases h;rfl
 |_=>cases h
def fevL (ng:Gb)(t:Tr Value)(l:List Operand):Option (List Value) :=
 List.rec (motive:=fun _=>Option (List Value)) (some []) (fun p _ ih=>ob (fev p ng t) fun v=>ob ih fun r=>some (v :: r)) l
theorem zxv (ng:Gb)(t:Tr Value)(l:List Operand):fevL ng t l=evL (ev ng t) l:=by
 induction l with
 |nil=>rfl
 |cons p l ih =>
  show (ob (fev p ng t) fun v=>ob (fevL ng t l) fun r=>some (v :: r))=_
  rw[ih,zby]
  show _=(match ev ng t p with
   |some v=>match evL (ev ng t) l with
    |some r=>some (v :: r)
    |none=>none
   |none=>none)
  cases ev ng t p with
  |none=>rfl
  |some i=>cases evL (ev ng t) l <;> rfl
def fcallee (g:Operand)(args:List Operand)(x:X)(t:Tr Value):Option (Nat×Func×List Value) :=
 ob (fev g x.ng t) fun gv=>ob (asFn gv) fun q=>ob (fnId q.1) fun k=>ob (fevL x.ng t args) fun as=>ob (x.fn.get k) fun F=>ob F.body fun _=>some (k,F,app q.2.1 (app as q.2.2))
def fleave (x:X)(F:Func)(r:XE×Tr Value×Hp×List Nat):Option (Value×Hp) :=
 XE.rec (motive:=fun _=>Option (Value×Hp)) (leaveF x F r.2.1 r.2.2.1 r.2.2.2) (fun _=>none) (leaveF x F r.2.1 r.2.2.1 r.2.2.2) r.1
def fbody (x:X)(run:RunF)(F:Func)(as:List Value)(h:Hp):Option (Value×Hp) :=
 ob F.body fun c=>bb (Nat.ble (len as) F.ntmps) (ob (run false F.ntmps c (wrC as 0 .leaf) h []) fun r=>fleave x F r) none
theorem zoy (x:X)(run:RunF)(F:Func)(as:List Value)(h:Hp):fbody x run F as h=xbody x run F as h:=by
 unfold fbody xbody
 cases F.body with
 |none=>rfl
 |some c =>
  show bb (Nat.ble (len as) F.ntmps) (ob (run false F.ntmps c (wrC as 0 .leaf) h []) fun r=>fleave x F r) none=_
  cases Nat.ble (len as) F.ntmps with
  |false=>rfl
  |true =>
   show (ob (run false F.ntmps c (wrC as 0 .leaf) h []) fun r=>fleave x F r)=_
   simp only[cond_true]
   cases run false F.ntmps c (wrC as 0 .leaf) h [] with
   |none=>rfl
   |some r=>obtain ⟨e,t1,h1,ds1⟩:=r;cases e <;> rfl
def fenter (x:X)(run:RunF)(k:Nat)(F:Func)(as:List Value)(h:Hp):Option (Value×Hp) :=
 Option.rec (motive:=fun _=>Option (Value×Hp)) (fbody x run F as h) (fun r=>some r) (x.orc k as h)
theorem zsd (x:X)(run:RunF)(k:Nat)(F:Func)(as:List Value)(h:Hp):fenter x run k F as h=xenter x run k F as h:=by
 unfold fenter xenter
 cases x.orc k as h with
 |none=>exact zoy x run F as h
 |some r=>rfl
theorem zgs {g:Operand}{c:Call}{x:X}{t:Tr Value}{k:Nat}{F:Func}{as:List Value}(hc:c.callee = .value g)(hh:fcallee g c.args.toList x t=some (k,F,as)) :
  ∃ cd,calleeOf x.fn (ev x.ng t) c=some (k,F,as)∧F.body=some cd∧∃ k' fi ca,ev x.ng t g=some (.func (.func k') fi ca):=by
 replace hh:=zak hh;obtain ⟨gv,h1,hh⟩:=hh
 replace hh:=zak hh;obtain ⟨⟨f,fi,ca⟩,h2,hh⟩:=hh
 replace hh:=zak hh;obtain ⟨k,h3,hh⟩:=hh
 replace hh:=zak hh;obtain ⟨as',h4,hh⟩:=hh
 replace hh:=zak hh;obtain ⟨F',h5,hh⟩:=hh
 replace hh:=zak hh;obtain ⟨cd,h6,hh⟩:=hh
 cases hh
 have:=zr4 h2;subst this
 have:=zsc h3;subst this
 rw[zby] at h1
 rw[zxv] at h4
 refine ⟨cd,?_,h6,k,⟨fi⟩,⟨ca⟩,h1⟩
 unfold calleeOf
 rw[hc]
 simp only[h1,h4,h5]
def cOld:CaseF:=fun x run t o h=>xval x (fun k F as h=>xenter x run k F as h) t o h
def cOldN:CaseF:=fun x run t o h=>xvalN x run t o h
def cVal (old:CaseF)(g:Operand)(args:Array Operand):CaseF:=fun x run t o h =>
 Option.rec (motive:=fun _=>Option (Value×Hp)) (old x run t o h) (fun q=>fenter x run q.1 q.2.1 q.2.2 h) (fcallee g args.toList x t)
def isLen (b:Builtin):Bool:=match b with | .len=>true|_=>false
def lenV (v:Value):Option Nat:=Value.casesOn (motive_1:=fun _=>Option Nat) v (fun _=>none) (fun _ _=>none) (fun _ _=>none) (fun _ _ _=>none) (fun s=>some s.size) (fun _=>none) (fun _ n _=>some n) (fun _=>none) (fun _=>none) (fun _ _ _=>none) none (fun _ _=>none) none (fun _=>none) (fun _=>none)
def isSliceV (v:Value):Bool:=Value.casesOn (motive_1:=fun _=>Bool) v (fun _=>false) (fun _ _=>false) (fun _ _=>false) (fun _ _ _=>false) (fun _=>false) (fun _=>false) (fun _ _ _=>true) (fun _=>false) (fun _=>false) (fun _ _ _=>false) false (fun _ _=>false) false (fun _=>false) (fun _=>false)
def isStrD (d:TypeDesc):Bool:=TypeDesc.casesOn (motive:=fun _=>Bool) d false false (fun _=>false) (fun _=>false) (fun _=>false) true false (fun _=>false) (fun _=>false) (fun _ _=>false) (fun _ _=>false) (fun _ _=>false) (fun _=>false) (fun _ _ _=>false) (fun _=>false) (fun _=>false) (fun _ _=>false)
def isSliceD (d:TypeDesc):Bool:=Option.rec (motive:=fun _=>Bool) false (fun _=>true) (dSlice d)
def flen (c:Call)(x:X)(t:Tr Value):Option Value :=
 bb (Nat.beq (len c.args.toList) 1) (ob (nth c.args.toList 0) fun y=>ob (nth c.argTypes.toList 0) fun ty=>ob (fev y x.ng t) fun v=>ob (lenV v) fun n=>ob (und x.ti ty) fun u =>
  bb (bb (isSliceV v) (isSliceD u) (isStrD u)) (some (.int .i64 (Int.ofNat n))) none) none
theorem zse {c:Call}{x:X}{t:Tr Value}{r:Value}(hh:flen c x t=some r):xlen x.ti (ev x.ng t) c=some r:=by
 replace hh:=zbx hh;obtain ⟨h0,hh⟩:=hh
 replace hh:=zak hh;obtain ⟨y,h1,hh⟩:=hh
 replace hh:=zak hh;obtain ⟨ty,h2,hh⟩:=hh
 replace hh:=zak hh;obtain ⟨v,h3,hh⟩:=hh
 replace hh:=zak hh;obtain ⟨n,h4,hh⟩:=hh
 replace hh:=zak hh;obtain ⟨u,h5,hh⟩:=hh
 replace hh:=zbx hh;obtain ⟨h6,hh⟩:=hh
 cases hh
 obtain ⟨callee,⟨args⟩,⟨tys⟩⟩:=c
 have h0:=xB h0
 rw[za9] at h0
 rw[nth_eq] at h1 h2
 obtain ⟨z,rfl⟩:=List.length_eq_one_iff.1 h0
 simp at h1;subst h1
 cases tys with
 |nil=>simp at h2
 |cons ty' tys =>
  simp at h2;subst h2
  rw[zby] at h3
  rw[zov] at h5
  unfold xlen
  simp only[h3,h5]
  cases v with
  |slice a k c =>
   cases h4
   change isSliceD u=true at h6
   unfold isSliceD at h6
   cases hd:dSlice u with
   |none=>rw[hd] at h6;cases h6
   |some e=>have:=zhz hd;subst this;rfl
  |string s =>
   cases h4
   change isStrD u=true at h6
   cases u with
   |string=>rfl
   |_=>cases h6
  |_=>cases h4
def cLen (old:CaseF)(c:Call):CaseF:=fun x run t o h=>Option.rec (motive:=fun _=>Option (Value×Hp)) (old x run t o h) (fun v=>some (v,h)) (flen c x t)
def cBuiltin (old:CaseF)(b:Builtin)(c:Call):CaseF:=bb (isLen b) (cLen old c) old
def cCall (old:CaseF)(c:Call):CaseF:=Callee.rec (motive:=fun _=>CaseF) (fun g=>cVal old g c.args) (fun _ _=>old) (fun b=>cBuiltin old b c) c.callee
def cP (p:PureF):CaseF:=fun x _ t o h=>oh h (p x t o)
def cConv (old:CaseF)(s d:TypeId)(y:Operand):CaseF:=fun x run t o h=>Option.rec (motive:=fun _=>Option (Value×Hp)) (old x run t o h) (fun v=>some (v,h)) (fconv s d y x t)
def cLoad (old:CaseF)(ty:TypeId)(p:Operand):CaseF:=fun x run t o h=>Option.rec (motive:=fun _=>Option (Value×Hp)) (old x run t o h) (fun v=>some (v,h)) (ob (fev p x.ng t) fun pv=>fload x.ti h ty pv)
def cStore (old:CaseF)(ty:TypeId)(p y:Operand):CaseF:=fun x run t o h=>alt (fstore ty p y x t h) (old x run t o h)
def cAlloc (e:TypeId):CaseF:=fun x _ _ _ h=>falloc x.ti h e
def cBox (e:TypeId)(y:Operand):CaseF:=fun x _ t _ h=>ob (fev y x.ng t) fun v=>some (.pointer (some ⟨h.next,0,none⟩),h.new (.row (newBk e (fcells v))))
def fOpG (old:CaseF)(op:Op):CaseF:=Op.rec (motive:=fun _=>CaseF) (fun y=>cP (pMove y)) (fun y=>cP (pMove y)) (fun c p q=>cP (pPick c p q)) (fun e=>cAlloc e) (fun e y=>cBox e y) (fun ty ps=>cP (pBuild ty ps)) (fun _ _ _=>old) (fun _ _ _ _=>old) (fun ty p=>cLoad old ty p) (fun ty p y=>cStore old ty p y) (fun _=>old) (fun _=>old) (fun y=>cP (pNil y)) (fun op _ p q _=>cP (pBin op p q)) (fun op _ y=>cP (pUn op y)) (fun s d y=>cConv old s d y) (fun _ _=>old) (fun _ _=>old) (fun _ _ _=>old) (fun _ _=>old) (fun _ _=>old) (fun _ _ _=>old) (fun _ _ _ _ _=>old) (fun ty y k=>cP (pFaddr ty y k)) (fun _ _ _=>old) (fun ty y k=>cP (pIaddr ty y k)) (fun _ _ _=>old) (fun _ _ _ _=>old) (fun _ _ _ _=>old) (fun _ _ _=>old) (fun _ _ _ _=>old) (fun _ _=>old) (fun _ _=>old) (fun _=>old) (fun _ _ _ _=>old) (fun y k=>cP (pExtr y k)) (fun c=>cCall old c) (fun _=>old) (fun _=>old) (fun _=>old) (fun _ _=>old) (fun _ _ _=>old) (fun _ _=>old) op
theorem zim (x:X)(run:RunF)(t:Tr Value)(o:Oper)(h:Hp)(p:PureF)(hp:p x t o=xpure x t o)(hx:xval x (fun k F as h=>xenter x run k F as h) t o h=(match xpure x t o with|some v=>some (v,h)|none=>none)):cP p x run t o h=xval x (fun k F as h=>xenter x run k F as h) t o h:=by
 rw[hx]
 unfold cP
 rw[hp,oh_eq]
theorem zsf (x:X)(run:RunF)(t:Tr Value)(o:Oper)(h:Hp):fOpG cOld o.op x run t o h=xval x (fun k F as h=>xenter x run k F as h) t o h:=by
 have hp:=zox x t o
 obtain ⟨dst,op,ty,pos,after,guard⟩:=o
 cases op with
 |move y=>exact zim x run t _ h _ hp rfl
 |assign y=>exact zim x run t _ h _ hp rfl
 |pick c p q=>exact zim x run t _ h _ hp rfl
 |build ty ps=>exact zim x run t _ h _ hp rfl
 |nilCheck y=>exact zim x run t _ h _ hp rfl
 |binOp op ty p q yt=>exact zim x run t _ h _ hp rfl
 |unOp op ty y=>exact zim x run t _ h _ hp rfl
 |fieldAddr ty y k=>exact zim x run t _ h _ hp rfl
 |indexAddr ty y k=>exact zim x run t _ h _ hp rfl
 |extract y k=>exact zim x run t _ h _ hp rfl
 |alloc e=>exact zsb x.ti h e
 |box e y =>
  show (ob (fev y x.ng t) fun v=>some (Value.pointer (some ⟨h.next,0,none⟩),h.new (.row (newBk e (fcells v)))))=xbox (ev x.ng t) h e y
  rw[zby]
  unfold xbox
  cases ev x.ng t y with
  |none=>rfl
  |some v=>show some (Value.pointer (some ⟨h.next,0,none⟩),h.new (.row (newBk e (fcells v))))=_;rw[zh0]
 |load ty p =>
  show Option.rec (motive:=fun _=>Option (Value×Hp)) (cOld x run t _ h) (fun v=>some (v,h)) (ob (fev p x.ng t) fun pv=>fload x.ti h ty pv)=_
  cases hf:(ob (fev p x.ng t) fun pv=>fload x.ti h ty pv) with
  |none=>rfl
  |some v =>
   obtain ⟨pv,h1,h2⟩:=zak hf
   rw[zby] at h1
   show some (v,h)=(match xload x.ti h ty (ev x.ng t p) with
    |some v=>some (v,h)
    |none=>none)
   rw[h1,zf8 h2]
 |store ty p y =>
  show alt (fstore ty p y x t h) (cOld x run t _ h)=_
  refine zd5 fun r hh=>?_
  replace hh:=zak hh;obtain ⟨pv,h1,hh⟩:=hh
  replace hh:=zak hh;obtain ⟨⟨b,off⟩,h2,hh⟩:=hh
  replace hh:=zak hh;obtain ⟨v,h3,hh⟩:=hh
  replace hh:=zak hh;obtain ⟨i,h4,hh⟩:=hh
  replace hh:=zak hh;obtain ⟨B,h5,hh⟩:=hh
  replace hh:=zbx hh;obtain ⟨h6,hh⟩:=hh
  replace hh:=zbx hh;obtain ⟨h7,hh⟩:=hh
  have:=zcu h2;subst this
  rw[zby] at h1 h3
  rw[zsa] at h5
  show xstore x.ti (ev x.ng t) h ty p y=_
  unfold xstore
  rw[h1,h3,h4]
  simp only
  change h.blk b=some B at h5
  rw[h5]
  simp only
  rw[zh0] at h6 hh
  rw[h6]
  change Nat.ble (off+i.size) B.size=true at h7
  rw[h7]
  simp only[cond_true]
  cases hr:B.ro with
  |true=>rw[hr] at hh;cases hh
  |false =>
   rw[hr] at hh
   replace hh:=zbx (b:=allB one1 (cellsOf v)) hh;obtain ⟨h8,hh⟩:=hh
   rw[zxu] at h8
   rw[h8]
   exact hh
 |convert s d y =>
  show Option.rec (motive:=fun _=>Option (Value×Hp)) (cOld x run t _ h) (fun v=>some (v,h)) (fconv s d y x t)=_
  cases hf:fconv s d y x t with
  |none=>rfl
  |some v =>
   have he:alt (fconv s d y x t) (xpure x t ⟨dst,.convert s d y,ty,pos,after,guard⟩)=xpure x t ⟨dst,.convert s d y,ty,pos,after,guard⟩:=hp
   rw[hf] at he
   have he:some v=xpure x t ⟨dst,.convert s d y,ty,pos,after,guard⟩:=he
   show some (v,h)=(match xpure x t ⟨dst,.convert s d y,ty,pos,after,guard⟩ with
    |some v=>some (v,h)
    |none=>xmem x t ⟨dst,.convert s d y,ty,pos,after,guard⟩ h)
   rw[← he]
 |call c =>
  obtain ⟨callee,args,tys⟩:=c
  cases callee with
  |value g =>
   show Option.rec (motive:=fun _=>Option (Value×Hp)) (cOld x run t _ h) (fun q=>fenter x run q.1 q.2.1 q.2.2 h) (fcallee g args.toList x t)=_
   cases hf:fcallee g args.toList x t with
   |none=>rfl
   |some q =>
    obtain ⟨k,F,as⟩:=q
    obtain ⟨cd,h1,h2,_⟩:=zgs (c:=⟨.value g,args,tys⟩) rfl hf
    show fenter x run k F as h=(match calleeOf x.fn (ev x.ng t) ⟨.value g,args,tys⟩ with
     |some (k,F,as)=>match F.body with
      |some _=>xenter x run k F as h
      |none=>match xext x.P k F as with
       |some v=>some (v,h)
       |none=>none
     |none=>none)
    rw[h1,zsd]
    simp only[h2]
  |invoke r m=>rfl
  |builtin b =>
   show bb (isLen b) (cLen cOld ⟨.builtin b,args,tys⟩) cOld x run t _ h=_
   cases hb:isLen b with
   |false=>rfl
   |true =>
    cases b <;> try cases hb
    show Option.rec (motive:=fun _=>Option (Value×Hp)) (cOld x run t _ h) (fun v=>some (v,h)) (flen ⟨.builtin .len,args,tys⟩ x t)=_
    cases hf:flen ⟨.builtin .len,args,tys⟩ x t with
    |none=>rfl
    |some v =>
     show some (v,h)=(match xlen x.ti (ev x.ng t) ⟨.builtin .len,args,tys⟩ with
      |some v=>some (v,h)
      |none=>xmem x t ⟨dst,.call ⟨.builtin .len,args,tys⟩,ty,pos,after,guard⟩ h)
     rw[zse hf]
 |_=>rfl
theorem zoz {x:X}{run:RunF}{t:Tr Value}{o:Oper}{h:Hp}(hy:yieldOf (ev x.ng t) o=none):xvalN x run t o h=xval x (fun k F as h=>xenter x run k F as h) t o h:=by
 unfold xvalN
 rw[hy]
theorem zvd {old old':CaseF}{x:X}{run:RunF}{t:Tr Value}{o:Oper}{h:Hp}(he:old x run t o h=old' x run t o h)(op:Op):fOpG old op x run t o h=fOpG old' op x run t o h:=by
 cases op with
 |load ty p =>
  show Option.rec (motive:=fun _=>Option (Value×Hp)) (old x run t o h) (fun v=>some (v,h)) (ob (fev p x.ng t) fun pv=>fload x.ti h ty pv)=Option.rec (motive:=fun _=>Option (Value×Hp)) (old' x run t o h) (fun v=>some (v,h)) (ob (fev p x.ng t) fun pv=>fload x.ti h ty pv)
  rw[he]
 |store ty p y =>
  show alt (fstore ty p y x t h) (old x run t o h)=alt (fstore ty p y x t h) (old' x run t o h)
  rw[he]
 |convert s d y =>
  show Option.rec (motive:=fun _=>Option (Value×Hp)) (old x run t o h) (fun v=>some (v,h)) (fconv s d y x t)=Option.rec (motive:=fun _=>Option (Value×Hp)) (old' x run t o h) (fun v=>some (v,h)) (fconv s d y x t)
  rw[he]
 |call c =>
  obtain ⟨callee,args,tys⟩:=c
  cases callee with
  |value g =>
   show Option.rec (motive:=fun _=>Option (Value×Hp)) (old x run t o h) (fun q=>fenter x run q.1 q.2.1 q.2.2 h) (fcallee g args.toList x t)=Option.rec (motive:=fun _=>Option (Value×Hp)) (old' x run t o h) (fun q=>fenter x run q.1 q.2.1 q.2.2 h) (fcallee g args.toList x t)
   rw[he]
  |invoke r m=>exact he
  |builtin b =>
   show bb (isLen b) (cLen old ⟨.builtin b,args,tys⟩) old x run t o h=bb (isLen b) (cLen old' ⟨.builtin b,args,tys⟩) old' x run t o h
   cases isLen b with
   |false=>exact he
   |true =>
    show Option.rec (motive:=fun _=>Option (Value×Hp)) (old x run t o h) (fun v=>some (v,h)) (flen ⟨.builtin b,args,tys⟩ x t)=Option.rec (motive:=fun _=>Option (Value×Hp)) (old' x run t o h) (fun v=>some (v,h)) (flen ⟨.builtin b,args,tys⟩ x t)
    rw[he]
 |_=>first|rfl|exact he
theorem zsg (x:X)(run:RunF)(t:Tr Value)(o:Oper)(h:Hp):fOpG cOldN o.op x run t o h=xvalN x run t o h:=by
 cases hy:yieldOf (ev x.ng t) o with
 |none =>
  have h1:cOldN x run t o h=cOld x run t o h:=zoz hy
  rw[zvd h1,zsf,zoz hy]
 |some q =>
  obtain ⟨i,as⟩:=q
  obtain ⟨dst,op,ty,pos,after,guard⟩:=o
  cases op with
  |call c =>
   obtain ⟨callee,args,tys⟩:=c
   cases callee with
   |value g =>
    show Option.rec (motive:=fun _=>Option (Value×Hp)) (cOldN x run t _ h) (fun q=>fenter x run q.1 q.2.1 q.2.2 h) (fcallee g args.toList x t)=_
    cases hf:fcallee g args.toList x t with
    |none=>rfl
    |some q =>
     obtain ⟨k,F,as'⟩:=q
     obtain ⟨_,_,_,k',fi,ca,h1⟩:=zgs (c:=⟨.value g,args,tys⟩) rfl hf
     unfold yieldOf at hy
     simp only[h1] at hy
     cases hy
   |invoke r m=>cases hy
   |builtin b=>cases hy
  |_=>cases hy
def fputD (n:Nat)(t:Tr Value)(d:Option Tmp)(v:Value):Option (Tr Value) :=
 Option.rec (motive:=fun _=>Option (Tr Value)) (some t) (fun d=>bb (Nat.ble (Nat.succ d) n) (some (t.set v d)) none) d
theorem zcs (n:Nat)(t:Tr Value)(d:Option Tmp)(v:Value):fputD n t d v=putD n t d v:=by
 cases d with
 |none=>rfl
 |some d =>
  show bb (Nat.blt d n) (some (t.set v d)) none=cond (Nat.blt d n) (some (t.set v d)) none
  cases Nat.blt d n <;> rfl
def fput (n:Nat)(t:Tr Value)(d:Option Tmp)(r:Option (Value×Hp)):Option (Tr Value×Hp) :=
 ob r fun q=>ob (fputD n t d q.1) fun t'=>some (t',q.2)
theorem zj7 (n:Nat)(t:Tr Value)(d:Option Tmp)(r:Option (Value×Hp)):fput n t d r=(match r with|some (v,h')=>pairT (putD n t d v) h'|none=>none):=by
 cases r with
 |none=>rfl
 |some p =>
  obtain ⟨v,h⟩:=p
  show (ob (fputD n t d v) fun t'=>some (t',h))=pairT (putD n t d v) h
  rw[zcs]
  cases putD n t d v <;> rfl
def fone (old:CaseF)(slow:X→RunF→Nat→List Oper→Oper→Tr Value→Hp→Option (Tr Value×Hp))(x:X)(run:RunF)(n:Nat)(ops:List Oper)(o:Oper)(t:Tr Value)(h:Hp):Option (Tr Value×Hp) :=
 Option.rec (motive:=fun _=>Option (Tr Value×Hp)) (fput n t o.dst (fOpG old o.op x run t o h)) (fun _=>slow x run n ops o t h) o.guard
def slow0 (x:X)(run:RunF)(n:Nat)(ops:List Oper)(o:Oper)(t:Tr Value)(h:Hp):Option (Tr Value×Hp) :=
 ob (xwant ops t o) fun b=>bb b (fput n t o.dst (fOpG cOld o.op x run t o h)) (ob (fputD n t o.dst undef) fun t'=>some (t',h))
def slowN (x:X)(run:RunF)(n:Nat)(ops:List Oper)(o:Oper)(t:Tr Value)(h:Hp):Option (Tr Value×Hp) :=
 ob (xwant ops t o) fun b=>bb b (fput n t o.dst (fOpG cOldN o.op x run t o h)) (ob (fputD n t o.dst undef) fun t'=>some (t',h))
theorem zve (x:X)(run:RunF)(n:Nat)(ops:List Oper)(o:Oper)(t:Tr Value)(h:Hp):slow0 x run n ops o t h=xone x (fun k F as h=>xenter x run k F as h) n ops o t h:=by
 unfold slow0 xone
 rw[zsf,zj7,zcs]
 cases xwant ops t o with
 |none=>rfl
 |some b =>
  cases b with
  |true=>rfl
  |false=>show (ob (putD n t o.dst undef) fun t'=>some (t',h))=pairT (putD n t o.dst undef) h;cases putD n t o.dst undef <;> rfl
theorem zvf (x:X)(run:RunF)(n:Nat)(ops:List Oper)(o:Oper)(t:Tr Value)(h:Hp):slowN x run n ops o t h=xoneN x run n ops o t h:=by
 unfold slowN xoneN
 rw[zsg,zj7,zcs]
 cases xwant ops t o with
 |none=>rfl
 |some b =>
  cases b with
  |true=>rfl
  |false=>show (ob (putD n t o.dst undef) fun t'=>some (t',h))=pairT (putD n t o.dst undef) h;cases putD n t o.dst undef <;> rfl
theorem zvg (x:X)(run:RunF)(n:Nat)(ops:List Oper)(o:Oper)(t:Tr Value)(h:Hp):fone cOld slow0 x run n ops o t h=xone x (fun k F as h=>xenter x run k F as h) n ops o t h:=by
 unfold fone
 cases hg:o.guard with
 |some g=>exact zve x run n ops o t h
 |none =>
  show fput n t o.dst (fOpG cOld o.op x run t o h)=_
  rw[zsf,zj7]
  unfold xone xwant
  rw[hg]
  rfl
theorem zvh (x:X)(run:RunF)(n:Nat)(ops:List Oper)(o:Oper)(t:Tr Value)(h:Hp):fone cOldN slowN x run n ops o t h=xoneN x run n ops o t h:=by
 unfold fone
 cases hg:o.guard with
 |some g=>exact zvf x run n ops o t h
 |none =>
  show fput n t o.dst (fOpG cOldN o.op x run t o h)=_
  rw[zsg,zj7]
  unfold xoneN xwant
  rw[hg]
  rfl
def fops (x:X)(run:RunF)(n:Nat)(ops:List Oper)(l:List Oper):Tr Value→Hp→Option (Tr Value×Hp) :=
 List.rec (motive:=fun _=>Tr Value→Hp→Option (Tr Value×Hp)) (fun t h=>some (t,h)) (fun o _ ih t h=>ob (fone cOldN slowN x run n ops o t h) fun p=>ih p.1 p.2) l
theorem zsh (x:X)(run:RunF)(n:Nat)(ops:List Oper):∀ (l:List Oper) (t:Tr Value) (h:Hp),fops x run n ops l t h=xopsN x run n ops l t h
 | [],t,h=>rfl
 |o :: l,t,h=>by
  show (ob (fone cOldN slowN x run n ops o t h) fun p=>fops x run n ops l p.1 p.2)=(match xoneN x run n ops o t h with
   |some (t,h)=>xopsN x run n ops l t h
   |none=>none)
  rw[zvh]
  cases xoneN x run n ops o t h with
  |none=>rfl
  |some p=>obtain ⟨t1,h1⟩:=p;exact zsh x run n ops l t1 h1
def asLoad (op:Op):Option (TypeId×Operand):=Op.rec (motive:=fun _=>Option (TypeId×Operand)) (fun _=>none) (fun _=>none) (fun _ _ _=>none) (fun _=>none) (fun _ _=>none) (fun _ _=>none) (fun _ _ _=>none) (fun _ _ _ _=>none) (fun ty p=>some (ty,p)) (fun _ _ _=>none) (fun _=>none) (fun _=>none) (fun _=>none) (fun _ _ _ _ _=>none) (fun _ _ _=>none) (fun _ _ _=>none) (fun _ _=>none) (fun _ _=>none) (fun _ _ _=>none) (fun _ _=>none) (fun _ _=>none) (fun _ _ _=>none) (fun _ _ _ _ _=>none) (fun _ _ _=>none) (fun _ _ _=>none) (fun _ _ _=>none) (fun _ _ _=>none) (fun _ _ _ _=>none) (fun _ _ _ _=>none) (fun _ _ _=>none) (fun _ _ _ _=>none) (fun _ _=>none) (fun _ _=>none) (fun _=>none) (fun _ _ _ _=>none) (fun _ _=>none) (fun _=>none) (fun _=>none) (fun _=>none) (fun _=>none) (fun _ _=>none) (fun _ _ _=>none) (fun _ _=>none) op
def fwant (ops:List Oper)(t:Tr Value)(o:Oper):Option Bool:=Option.rec (motive:=fun _=>Option Bool) (some true) (fun _=>xwant ops t o) o.guard
theorem zvi (ops:List Oper)(t:Tr Value)(o:Oper):fwant ops t o=xwant ops t o:=by
 unfold fwant
 cases hg:o.guard with
 |some g=>rfl
 |none=>unfold xwant;rw[hg]
def memB (j:Nat)(l:List Nat):Bool:=List.rec (motive:=fun _=>Bool) false (fun a _ ih=>bb (Nat.beq j a) true ih) l
theorem zxw (j:Nat)(l:List Nat):memB j l=l.contains j:=by
 induction l with
 |nil=>rfl
 |cons a l ih =>
  show bb (Nat.beq j a) true (memB j l)=_
  rw[ih,List.contains_cons]
  cases h:Nat.beq j a with
  |true=>have:=xB h;subst this;simp[bb]
  |false=>have:j≠a:=Nat.ne_of_beq_eq_false h;simp[bb,this]
def fdropW (j:Nat)(ws:List WE):List WE:=List.rec (motive:=fun _=>List WE) [] (fun e _ ih=>bb (memB j e.D) ih (e :: ih)) ws
theorem zsi (j:Nat)(ws:List WE):fdropW j ws=dropW j ws:=by
 induction ws with
 |nil=>rfl
 |cons e ws ih =>
  show bb (memB j e.D) (fdropW j ws) (e :: fdropW j ws)=dropW j (e :: ws)
  rw[ih,zxw]
  unfold dropW
  rw[List.filter_cons]
  cases e.D.contains j <;> rfl
def quickEq (a b:Value):Bool :=
 Option.rec (motive:=fun _=>Bool) (Option.rec (motive:=fun _=>Bool) false (fun p=>Option.rec (motive:=fun _=>Bool) false (fun q=>bb (Nat.beq p.1 q.1) (Nat.beq p.2 q.2) false) (asPtr b)) (asPtr a))
  (fun p=>Option.rec (motive:=fun _=>Bool) false (fun q=>bb (Nat.beq (kindNo p.1) (kindNo q.1)) (Int.rec (motive:=fun _=>Bool) (fun m=>Int.rec (motive:=fun _=>Bool) (fun n=>Nat.beq m n) (fun _=>false) q.2) (fun _=>false) p.2) false) (asInt b)) (asInt a)
theorem zsj {b c:Bool}(h:bb b c false=true):b=true∧c=true:=by
 cases b with
 |false=>cases h
 |true=>exact ⟨rfl,h⟩
theorem zlr (k:IntKind)(n:Int):eqC (.int k n) (.int k n)=true:=by
 show cond (Nat.beq (kindNo k) (kindNo k)) (eqInt n n) false=true
 rw[Nat.beq_refl]
 show eqInt n n=true
 unfold eqInt
 cases n <;> exact Nat.beq_refl _
theorem zls (b o:Nat):eqC (.pointer (some ⟨b,o,none⟩)) (.pointer (some ⟨b,o,none⟩))=true:=by
 show cond (Nat.beq b b) (cond (Nat.beq o o) true false) false=true
 rw[Nat.beq_refl,Nat.beq_refl];rfl
theorem zlt {a b:Value}(h:quickEq a b=true):eqC a b=true:=by
 unfold quickEq at h
 cases ha:asInt a with
 |none =>
  rw[ha] at h
  cases hp:asPtr a with
  |none=>rw[hp] at h;cases h
  |some p =>
   rw[hp] at h
   cases hq:asPtr b with
   |none=>rw[hq] at h;cases h
   |some q =>
    rw[hq] at h
    obtain ⟨h1,h2⟩:=zsj h
    replace h1:=xB h1
    replace h2:=xB h2
    obtain ⟨p1,p2⟩:=p
    obtain ⟨q1,q2⟩:=q
    change p1=q1 at h1;change p2=q2 at h2
    subst h1;subst h2
    rw[zcu hp,zcu hq]
    exact zls _ _
 |some p =>
  rw[ha] at h
  cases hb:asInt b with
  |none=>rw[hb] at h;cases h
  |some q =>
   rw[hb] at h
   obtain ⟨h1,h2⟩:=zsj h
   have h1:=zf4 h1
   obtain ⟨k,m⟩:=p
   obtain ⟨k',n⟩:=q
   change k=k' at h1;subst h1
   rw[zcv ha,zcv hb]
   cases m with
   |negSucc m=>cases h2
   |ofNat m =>
    cases n with
    |negSucc n=>cases h2
    |ofNat n =>
     have h2:=xB h2
     subst h2
     exact zlr _ _
def feqV (a b:Value):Bool:=bb (quickEq a b) true (eqV a b)
theorem zxx (a b:Value):feqV a b=eqV a b:=by
 unfold feqV
 cases h:quickEq a b with
 |false=>rfl
 |true =>
  have:=zlt h
  have e:=zrw this;subst e
  show true=eqV a a
  unfold eqV
  split
  ·cases this
  ·exact this.symm
def fre1 (ti:Tr TI)(h:Hp)(e:WE):Bool:=Option.rec (motive:=fun _=>Bool) (match xload ti h e.ty (some e.p) with
 |some v=>eqV v e.v
 |none=>false) (fun v=>feqV v e.v) (fload ti h e.ty e.p)
def freOk (ti:Tr TI)(h:Hp)(ws:List WE):Bool:=List.rec (motive:=fun _=>Bool) true (fun e _ ih=>bb (fre1 ti h e) ih false) ws
theorem zxy (ti:Tr TI)(h:Hp)(e:WE):fre1 ti h e=(match xload ti h e.ty (some e.p) with
 |some v=>eqV v e.v
 |none=>false):=by
 unfold fre1
 cases hf:fload ti h e.ty e.p with
 |none=>rfl
 |some v=>show feqV v e.v=_;rw[zf8 hf,zxx]
theorem zo0 (ti:Tr TI)(h:Hp)(ws:List WE):freOk ti h ws=reOk ti h ws:=by
 induction ws with
 |nil=>rfl
 |cons e ws ih =>
  show bb (fre1 ti h e) (freOk ti h ws) false=reOk ti h (e :: ws)
  rw[ih,zxy]
  show _=cond (match xload ti h e.ty (some e.p) with
   |some v=>eqV v e.v
   |none=>false) (reOk ti h ws) false
  generalize (match xload ti h e.ty (some e.p) with
   |some v=>eqV v e.v
   |none=>false)=z
  cases z <;> rfl
abbrev PlF:=List WE→Tr Value→Hp→Option (Tr Value×Hp)
def plPure (x:X)(n:Nat)(o:Oper)(ih:PlF)(ws:List WE)(t:Tr Value)(h:Hp):Option (Tr Value×Hp) :=
 Option.rec (motive:=fun _=>Option (Tr Value×Hp)) (ob (xemp x t o h) fun q=>ob (fputD n t o.dst q.1) fun t'=>ih ws t' q.2) (fun v=>ob (fputD n t o.dst v) fun t'=>ih ws t' h) (fPure o.op x t o)
def plLd (x:X)(n:Nat)(o:Oper)(D:List Nat)(ih:PlF)(ws:List WE)(t:Tr Value)(h:Hp)(q:TypeId×Operand):Option (Tr Value×Hp) :=
 ob (fev q.2 x.ng t) fun pv=>ob (alt (fload x.ti h q.1 pv) (xload x.ti h q.1 (some pv))) fun v=>ob (fputD n t o.dst v) fun t'=>ih ({ D:=D,ty:=q.1,p:=pv,v:=v } :: ws) t' h
def plTake (x:X)(n:Nat)(ops:List Oper)(i:Nat)(D:List Nat)(ih:PlF)(ws:List WE)(t:Tr Value)(h:Hp):Option (Tr Value×Hp) :=
 ob (nth ops i) fun o=>ob (fwant ops t o) fun b=>bb b (Option.rec (motive:=fun _=>Option (Tr Value×Hp)) (plPure x n o ih ws t h) (fun q=>plLd x n o D ih ws t h q) (asLoad o.op)) (ob (fputD n t o.dst undef) fun t'=>ih ws t' h)
def plGo (ti:Tr TI)(ih:PlF)(ws:List WE)(t:Tr Value)(h:Hp):Option (Tr Value×Hp):=bb (freOk ti h ws) (ih ws t h) none
def plChain (x:X)(run:RunF)(n:Nat)(ops:List Oper)(j:Nat)(ih:PlF)(ws:List WE)(t:Tr Value)(h:Hp):Option (Tr Value×Hp) :=
 ob (nth ops j) fun o=>ob (fone cOld slow0 x run n ops o t h) fun q=>plGo x.ti ih (fdropW j ws) q.1 q.2
def plAl (x:X)(n:Nat)(ops:List Oper)(k:Nat)(ih:PlF)(ws:List WE)(t:Tr Value)(h:Hp):Option (Tr Value×Hp) :=
 ob (alOf ops k) fun q=>ob (xmkw x ops t q.1) fun r=>Option.rec (motive:=fun _=>Option (Tr Value×Hp)) (ob (fputD n t (some q.2) undef) fun t'=>ih ws t' h) (fun r=>ob (fputD n t (some q.2) (mkA r.2 h.next)) fun t'=>plGo x.ti ih ws t' (h.new (.row r.1))) r
def fplanR (x:X)(run:RunF)(n:Nat)(ops:List Oper)(pl:List Pl):PlF :=
 List.rec (motive:=fun _=>PlF) (fun _ t h=>some (t,h)) (fun s _ ih=>Pl.rec (motive:=fun _=>PlF) (fun i _ D=>plTake x n ops i D ih) (fun j=>plChain x run n ops j ih) (fun k=>plAl x n ops k ih) s) pl
theorem zfj (x:X)(run:RunF)(n:Nat)(ops:List Oper):∀ (pl:List Pl) (ws:List WE) (t:Tr Value) (h:Hp),fplanR x run n ops pl ws t h=xplan x (fun k F as h=>xenter x run k F as h) n ops pl ws t h
 | [],ws,t,h=>rfl
 | .take i T D :: pl,ws,t,h=>by
  show plTake x n ops i D (fplanR x run n ops pl) ws t h=_
  have ih:fplanR x run n ops pl=xplan x (fun k F as h=>xenter x run k F as h) n ops pl:=by funext ws t h;exact zfj x run n ops pl ws t h
  rw[ih]
  show _=(match nth ops i with
   |some o=>match xwant ops t o with
    |some true=>match o.op with
     | .load ty p=>match ev x.ng t p with
      |some pv=>match xload x.ti h ty (some pv) with
       |some v=>match putD n t o.dst v with
        |some t'=>xplan x (fun k F as h=>xenter x run k F as h) n ops pl ({ D:=D,ty:=ty,p:=pv,v:=v } :: ws) t' h
        |none=>none
       |none=>none
      |none=>none
     |_=>match xpure x t o with
      |some v=>match putD n t o.dst v with
       |some t'=>xplan x (fun k F as h=>xenter x run k F as h) n ops pl ws t' h
       |none=>none
      |none=>match xemp x t o h with
       |some (v,h')=>match putD n t o.dst v with
        |some t'=>xplan x (fun k F as h=>xenter x run k F as h) n ops pl ws t' h'
        |none=>none
       |none=>none
    |some false=>match putD n t o.dst undef with
     |some t'=>xplan x (fun k F as h=>xenter x run k F as h) n ops pl ws t' h
     |none=>none
    |none=>none
   |none=>none)
  generalize xplan x (fun k F as h=>xenter x run k F as h) n ops pl=K
  unfold plTake
  cases nth ops i with
  |none=>rfl
  |some o =>
   show (ob (fwant ops t o) fun b=>bb b (Option.rec (motive:=fun _=>Option (Tr Value×Hp)) (plPure x n o K ws t h) (fun q=>plLd x n o D K ws t h q) (asLoad o.op)) (ob (fputD n t o.dst undef) fun t'=>K ws t' h))=_
   rw[zvi]
   dsimp only
   cases xwant ops t o with
   |none=>rfl
   |some b =>
    cases b with
    |false =>
     show (ob (fputD n t o.dst undef) fun t'=>K ws t' h)=_
     rw[zcs]
     simp only
     cases putD n t o.dst undef <;> rfl
    |true =>
     show Option.rec (motive:=fun _=>Option (Tr Value×Hp)) (plPure x n o K ws t h) (fun q=>plLd x n o D K ws t h q) (asLoad o.op)=_
     have pure:plPure x n o K ws t h=(match xpure x t o with
      |some v=>match putD n t o.dst v with
       |some t'=>K ws t' h
       |none=>none
      |none=>match xemp x t o h with
       |some (v,h')=>match putD n t o.dst v with
        |some t'=>K ws t' h'
        |none=>none
       |none=>none):=by
      unfold plPure
      rw[zox]
      cases xpure x t o with
      |none =>
       show (ob (xemp x t o h) fun q=>ob (fputD n t o.dst q.1) fun t'=>K ws t' q.2)=_
       simp only
       cases xemp x t o h with
       |none=>rfl
       |some q=>obtain ⟨v,h'⟩:=q;show (ob (fputD n t o.dst v) fun t'=>K ws t' h')=_;rw[zcs];simp only;cases putD n t o.dst v <;> rfl
      |some v=>show (ob (fputD n t o.dst v) fun t'=>K ws t' h)=_;rw[zcs];simp only;cases putD n t o.dst v <;> rfl
     have ld:∀ ty p,plLd x n o D K ws t h (ty,p)=(match ev x.ng t p with
      |some pv=>match xload x.ti h ty (some pv) with
       |some v=>match putD n t o.dst v with
        |some t'=>K ({ D:=D,ty:=ty,p:=pv,v:=v } :: ws) t' h
        |none=>none
       |none=>none
      |none=>none):=fun ty p=>by
      unfold plLd
      rw[zby]
      simp only
      cases ev x.ng t p with
      |none=>rfl
      |some pv =>
       show (ob (alt (fload x.ti h ty pv) (xload x.ti h ty (some pv))) fun v=>ob (fputD n t o.dst v) fun t'=>K ({ D:=D,ty:=ty,p:=pv,v:=v } :: ws) t' h)=_
       rw[zd5 fun r hr=>zf8 hr]
       simp only
       cases xload x.ti h ty (some pv) with
       |none=>rfl
       |some v=>show (ob (fputD n t o.dst v) fun t'=>K ({ D:=D,ty:=ty,p:=pv,v:=v } :: ws) t' h)=_;rw[zcs];simp only;cases putD n t o.dst v <;> rfl
     cases hop:o.op with
     |load ty p=>exact ld ty p
     |_=>exact pure
 | .chain j :: pl,ws,t,h=>by
  show plChain x run n ops j (fplanR x run n ops pl) ws t h=_
  have ih:fplanR x run n ops pl=xplan x (fun k F as h=>xenter x run k F as h) n ops pl:=by funext ws t h;exact zfj x run n ops pl ws t h
  rw[ih]
  show _=(match nth ops j with
   |some o=>match xone x (fun k F as h=>xenter x run k F as h) n ops o t h with
    |some (t',h')=>cond (reOk x.ti h' (dropW j ws)) (xplan x (fun k F as h=>xenter x run k F as h) n ops pl (dropW j ws) t' h') none
    |none=>none
   |none=>none)
  generalize xplan x (fun k F as h=>xenter x run k F as h) n ops pl=K
  unfold plChain
  cases nth ops j with
  |none=>rfl
  |some o =>
   show (ob (fone cOld slow0 x run n ops o t h) fun q=>plGo x.ti K (fdropW j ws) q.1 q.2)=_
   rw[zvg,zsi]
   simp only
   cases xone x (fun k F as h=>xenter x run k F as h) n ops o t h with
   |none=>rfl
   |some q =>
    obtain ⟨t',h'⟩:=q
    show plGo x.ti K (dropW j ws) t' h'=_
    unfold plGo
    rw[zo0]
    simp only
    cases reOk x.ti h' (dropW j ws) <;> rfl
 | .al k :: pl,ws,t,h=>by
  show plAl x n ops k (fplanR x run n ops pl) ws t h=_
  have ih:fplanR x run n ops pl=xplan x (fun k F as h=>xenter x run k F as h) n ops pl:=by funext ws t h;exact zfj x run n ops pl ws t h
  rw[ih]
  show _=(match alOf ops k with
   |some (o,d)=>match xmkw x ops t o with
    |some (some (B,q))=>match putD n t (some d) (mkA q h.next) with
     |some t'=>cond (reOk x.ti (h.new (.row B)) ws) (xplan x (fun k F as h=>xenter x run k F as h) n ops pl ws t' (h.new (.row B))) none
     |none=>none
    |some none=>match putD n t (some d) undef with
     |some t'=>xplan x (fun k F as h=>xenter x run k F as h) n ops pl ws t' h
     |none=>none
    |none=>none
   |none=>none)
  generalize xplan x (fun k F as h=>xenter x run k F as h) n ops pl=K
  unfold plAl
  cases alOf ops k with
  |none=>rfl
  |some q =>
   obtain ⟨e,d⟩:=q
   show (ob (xmkw x ops t e) fun r=>Option.rec (motive:=fun _=>Option (Tr Value×Hp)) (ob (fputD n t (some d) undef) fun t'=>K ws t' h) (fun r=>ob (fputD n t (some d) (mkA r.2 h.next)) fun t'=>plGo x.ti K ws t' (h.new (.row r.1))) r)=_
   simp only
   cases xmkw x ops t e with
   |none=>rfl
   |some r =>
    cases r with
    |none =>
     show (ob (fputD n t (some d) undef) fun t'=>K ws t' h)=_
     rw[zcs]
     simp only
     cases putD n t (some d) undef <;> rfl
    |some r =>
     obtain ⟨B,q⟩:=r
     show (ob (fputD n t (some d) (mkA q h.next)) fun t'=>plGo x.ti K ws t' (h.new (.row B)))=_
     rw[zcs]
     simp only
     cases putD n t (some d) (mkA q h.next) with
     |none=>rfl
     |some t' =>
      show plGo x.ti K ws t' (h.new (.row B))=_
      unfold plGo
      rw[zo0]
      simp only
      cases reOk x.ti (h.new (.row B)) ws <;> rfl
def fdraw (x:X)(run:RunF)(n:Nat)(ops:Array Oper)(t:Tr Value)(h:Hp):Option (Tr Value×Hp) :=
 Option.rec (motive:=fun _=>Option (Tr Value×Hp)) (xrd x n ops t h) (fun pl=>bb (allB (alOk1 ops.toList n) (alsOf pl)) (fplanR x run n ops.toList pl [] (delA ops.toList (alsOf pl) t) h) none) (planG ops)
theorem zvj (x:X)(run:RunF)(n:Nat)(ops:Array Oper)(t:Tr Value)(h:Hp):fdraw x run n ops t h=xdraw x (fun k F as h=>xenter x run k F as h) n ops t h:=by
 unfold fdraw xdraw
 cases planG ops with
 |none=>rfl
 |some pl =>
  show bb (allB (alOk1 ops.toList n) (alsOf pl)) (fplanR x run n ops.toList pl [] (delA ops.toList (alsOf pl) t) h) none=_
  rw[zfj]
  simp only
  cases allB (alOk1 ops.toList n) (alsOf pl) <;> rfl
abbrev CodeF:=X→RunF→Bool→Nat→Tr Value→Hp→List Nat→Res
def rthen (ih:RunF)(rm:Bool)(n:Nat)(q:Code)(r:Res):Res :=
 ob r fun p=>XE.rec (motive:=fun _=>Res) (ih rm n q p.2.1 p.2.2.1 p.2.2.2) (fun _=>some p) (some p) p.1
def rblock (id:Nat)(r:Res):Res :=
 ob r fun p=>XE.rec (motive:=fun _=>Res) (some p) (fun i=>bb (Nat.beq i id) (some (.normal,p.2)) (some p)) (some p) p.1
def fnrm (ds:List Nat)(r:Option (Tr Value×Hp)):Res:=ob r fun p=>some (.normal,p.1,p.2,ds)
theorem zsk (ds:List Nat)(r:Option (Tr Value×Hp)):fnrm ds r=nrm ds r:=by cases r <;> rfl
def kSkip:CodeF:=fun _ _ _ _ t h ds=>some (.normal,t,h,ds)
def kRegion (ops:Array Oper)(d:Bool):CodeF:=fun x ih rm n t h ds=>bb d (bb (bb rm (allB noDf ops.toList) true) (fnrm ds (fdraw x ih n ops t h)) none) (fnrm ds (fops x ih n ops.toList ops.toList t h))
def kSeq (p q:Code):CodeF:=fun _ ih rm n t h ds=>rthen ih rm n q (ih rm n p t h ds)
def kCond (c:Operand)(p q:Code):CodeF:=fun x ih rm n t h ds=>ob (fev c x.ng t) fun v=>ob (asBool v) fun b=>bb b (ih rm n p t h ds) (ih rm n q t h ds)
def kBlock (id:Nat)(p:Code):CodeF:=fun _ ih rm n t h ds=>rblock id (ih rm n p t h ds)
def kLoop (p:Code):CodeF:=fun _ ih rm n t h ds=>rthen ih rm n (.loop p) (ih rm n p t h ds)
def kRange (g:Operand)(ps:Array Tmp)(asg bd:Code):CodeF:=fun x ih rm n t h ds=>bb rm none (xrange x ih n g ps asg bd t h ds)
def kScope (p:Code):CodeF:=fun _ ih rm n t h ds=>ih rm n p t h ds
def kExit (id:Nat):CodeF:=fun _ _ _ _ t h ds=>some (.exit id,t,h,ds)
def kRet:CodeF:=fun _ _ _ _ t h ds=>some (.ret,t,h,ds)
def kNone:CodeF:=fun _ _ _ _ _ _ _=>none
def fcode (c:Code):CodeF:=Code.rec (motive:=fun _=>CodeF) kSkip (fun _ ops d=>kRegion ops d) (fun a b _ _=>kSeq a b) (fun c a b _ _=>kCond c a b) (fun id b _=>kBlock id b) (fun b _=>kLoop b)
 (fun g ps a b _ _=>kRange g ps a b) (fun id=>kExit id) (fun b _=>kScope b) (fun _=>kSkip) (fun _=>kNone) kRet (fun _=>kNone) c
def frun (x:X)(fuel:Nat):RunF:=Nat.rec (motive:=fun _=>RunF) (fun _ _ _ _ _ _=>none) (fun _ ih rm n c t h ds=>fcode c x ih rm n t h ds) fuel
theorem zsl (x:X):∀ fuel,frun x fuel=xrun x fuel
 | 0=>rfl
 |fuel+1=>by
  have ih:=zsl x fuel
  funext rm n c t h ds
  show fcode c x (frun x fuel) rm n t h ds=_
  rw[ih]
  cases c with
  |region id ops d =>
   cases d with
   |true =>
    show bb (bb rm (allB noDf ops.toList) true) (fnrm ds (fdraw x (xrun x fuel) n ops t h)) none=cond (cond rm (allB noDf ops.toList) true) (nrm ds (xdraw x (fun k F as h=>xenter x (xrun x fuel) k F as h) n ops t h)) none
    rw[zvj,zsk]
    cases rm with
    |false=>rfl
    |true =>
     show bb (allB noDf ops.toList) _ none=cond (allB noDf ops.toList) _ none
     cases allB noDf ops.toList <;> rfl
   |false =>
    show fnrm ds (fops x (xrun x fuel) n ops.toList ops.toList t h)=nrm ds (xopsN x (xrun x fuel) n ops.toList ops.toList t h)
    rw[zsh,zsk]
  |seq p q =>
   show rthen (xrun x fuel) rm n q (xrun x fuel rm n p t h ds)=(match xrun x fuel rm n p t h ds with
    |some (.normal,t,h,ds)=>xrun x fuel rm n q t h ds
    |r=>r)
   cases xrun x fuel rm n p t h ds with
   |none=>rfl
   |some p=>obtain ⟨e,t1,h1,ds1⟩:=p;cases e <;> rfl
  |cond c p q =>
   show (ob (fev c x.ng t) fun v=>ob (asBool v) fun b=>bb b (xrun x fuel rm n p t h ds) (xrun x fuel rm n q t h ds))=(match ev x.ng t c with
    |some (.bool b)=>xrun x fuel rm n (cond b p q) t h ds
    |_=>none)
   rw[zby]
   cases ev x.ng t c with
   |none=>rfl
   |some v =>
    cases v with
    |bool b=>cases b <;> rfl
    |_=>rfl
  |block id p =>
   show rblock id (xrun x fuel rm n p t h ds)=(match xrun x fuel rm n p t h ds with
    |some (.exit i,t,h,ds)=>cond (Nat.beq i id) (some (.normal,t,h,ds)) (some (.exit i,t,h,ds))
    |r=>r)
   cases xrun x fuel rm n p t h ds with
   |none=>rfl
   |some p =>
    obtain ⟨e,t1,h1,ds1⟩:=p
    cases e with
    |exit i =>
     show bb (Nat.beq i id) (some (XE.normal,t1,h1,ds1)) (some (.exit i,t1,h1,ds1))=cond (Nat.beq i id) (some (.normal,t1,h1,ds1)) (some (.exit i,t1,h1,ds1))
     cases Nat.beq i id <;> rfl
    |_=>rfl
  |loop p =>
   show rthen (xrun x fuel) rm n (.loop p) (xrun x fuel rm n p t h ds)=(match xrun x fuel rm n p t h ds with
    |some (.normal,t,h,ds)=>xrun x fuel rm n (.loop p) t h ds
    |r=>r)
   cases xrun x fuel rm n p t h ds with
   |none=>rfl
   |some p=>obtain ⟨e,t1,h1,ds1⟩:=p;cases e <;> rfl
  |rangeFunc g ps asg bd =>
   show bb rm none (xrange x (xrun x fuel) n g ps asg bd t h ds)=cond rm none (xrange x (xrun x fuel) n g ps asg bd t h ds)
   cases rm <;> rfl
  |_=>rfl
def fcall (x:X)(fuel k:Nat)(as:List Value)(h:Hp):Option (Value×Hp):=ob (x.fn.get k) fun F=>fbody x (frun x fuel) F as h
theorem zei (x:X)(fuel k:Nat)(as:List Value)(h:Hp):fcall x fuel k as h=xcall x fuel k as h:=by
 unfold fcall xcall
 cases x.fn.get k with
 |none=>rfl
 |some F=>show fbody x (frun x fuel) F as h=xbody x (xrun x fuel) F as h;rw[zoy,zsl]
end Go.Proofs.YtemgclnkgieldaaGreatDoor.CX
