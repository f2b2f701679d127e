/- Calls of known outcome (runs of the executor) as contracts over whatever world: what they return stands there, and goes on standing. -/
import Derived.Test.YtmejdkniafjncaaGreatDoorMkd
import Derived.Test.YtmejdkniafjncaaGreatDoorNn
namespace Go.Proofs.YtmejdkniafjncaaGreatDoor.Md
open Go Go.RowKit Dk CX
theorem ObR.ro {E:En}{w:World}{e:Em}{o:Ob}(h:ObR E w e o):ObR E w e (roO o):=by
 cases o with
 |row b =>
  obtain ⟨cs,fr,h1,h2,h3,h4,_,h6⟩:=h
  exact ⟨cs,fr,h1,h2,h3,h4,(fun h=>by cases h),h6⟩
 |map _ _ _=>exact h
 |iter _ _ _ _=>exact h
 |dfr=>exact h
 |loop _ _ _ _ _ _ _=>exact h
structure St1 (E:En)(n:Nat)(l:List (Nat×Ob))(w:World)(far:Nat→Prop):Prop where
 hr:HR E (lay n l .empty) w
 ro:∀ p∈l,p.2.wr=false
 no:∀ i o e,(lay n l .empty).ob i=some o→E i=some e→¬ far e.blk
theorem ze0 {n i:Nat}{o:Ob}{l:List (Nat×Ob)}(h:(lay n l .empty).ob i=some o):(i,o)∈l:=by
 rcases zc1 h with h|⟨h,_⟩
 ·exact h
 ·cases h
theorem ObR.kept {E:En}{w w':World}{e:Em}{o:Ob}(h:ObR E w e o)(hk:w'.heap[e.blk]? = w.heap[e.blk]?):ObR E w' e o:=h.mono (En.le_refl E) hk
theorem St1.alt {E:En}{n:Nat}{l:List (Nat×Ob)}{w w':World}{far far' p:Nat→Prop}(h:St1 E n l w far)(ha:Alt w w' p)(hp:∀ k,k<w.heap.size→p k→far k)(hf:∀ k,k<w.heap.size→far' k→far k):St1 E n l w' far':=by
 refine ⟨⟨h.hr.fresh,fun i o hi=>?_,h.hr.inj⟩,h.ro,fun i o e hi he hfar=>?_⟩
 ·obtain ⟨e,he,ho⟩:=h.hr.obj i o hi
  exact ⟨e,he,ObR.kept ho (ha.block _ ho.lt (fun hpk=>h.no i o e hi he (hp _ ho.lt hpk)))⟩
 ·obtain ⟨e',he',ho⟩:=h.hr.obj i o hi
  rw[he] at he'
  injection he' with he'
  subst he'
  exact h.no i o e hi he (hf _ ho.lt hfar)
theorem St1.noImg {E:En}{n:Nat}{l:List (Nat×Ob)}{w:World}{far:Nat→Prop}(h:St1 E n l w far)(k:Nat):¬ Img E (lay n l .empty) k:=by
 rintro ⟨i,o,e,hi,hw,_⟩
 have:=h.ro _ (ze0 hi)
 rw[this] at hw
 cases hw
theorem zik {x:X}(hx:x.Ok){fuel:Nat}{c:Kn}(hr:runH x fuel c=true){E:En}{w:World}{far:Nat→Prop}{av':List Value}(H:St1 E c.n0 c.pre w far)(hg:GOk x.ng E)(ha:LR E c.av av') :
  Calls x.P c.k ⟨av'⟩ w fun e w'=>∃ E' u h1,e = .returned u∧Below w.heap.size w w'∧Stp E E' (lay c.n0 c.pre .empty) h1 w w'∧VR E' c.v u∧h1.next=c.n1∧(∀ p∈c.post,∃ o',h1.ob p.1=some o'∧subOb p.2 o'=true)∧(∀ p∈c.pre,∃ q∈c.post,q.1=p.1):=by
 unfold runH at hr
 cases hf:fcall x fuel c.k c.av (lay c.n0 c.pre .empty) with
 |none=>rw[hf] at hr;cases hr
 |some p =>
  rw[hf] at hr
  obtain ⟨v1,h1⟩:=p
  change cond (tupV v1 c.v) (cond (Nat.beq h1.next c.n1) (cond (allB (inOb h1) c.post) (allB (fun q=>hasN c.post q.1) c.pre) false) false) false=true at hr
  obtain ⟨g1,hr⟩:=zaa hr
  obtain ⟨g2,hr⟩:=zaa hr
  obtain ⟨g3,g4⟩:=zaa hr
  have g1:=znf g1;subst g1
  have g2:=zaw g2
  have g3:=(zal _ _).1 g3
  have g4:=(zal _ _).1 g4
  rw[zgw] at hf
  refine (zdp hx hf H.hr hg ha).mono ?_
  rintro e w' ⟨E',u,rfl,st,hu⟩
  exact ⟨E',u,h1,rfl,st.below (Nat.le_refl _) (fun k _=>H.noImg k),st,hu,g2,fun p hp=>zcv (g3 p hp),fun p hp=>zdd (g4 p hp)⟩
theorem zxo {ng:Nat}{s:Nat→Value}(one:∀ n,(s n).oneCell'=true){n:Nat}(hn:ng≤n)(w:World)(far:Nat→Prop):St1 (En.zero ng s one) n [] w far :=
 ⟨⟨fun i hi=>if_neg (by have:n≤i:=hi;omega),(fun i o h=>by cases ze0 h),(fun i j o o' e e' h=>by cases ze0 h)⟩,(fun _ h=>by cases h),(fun i o e h=>by cases ze0 h)⟩
theorem zn6 {E E':En}{n:Nat}{l:List (Nat×Ob)}{h1:Hp}{w w':World}(st:Stp E E' (lay n l .empty) h1 w w')(hpre:∀ p∈l,∃ o,h1.ob p.1=some o){i:Nat}{o:Ob}{e:Em}(hi:h1.ob i=some o)(he:E' i=some e)(hno:∀ p∈l,p.1≠i):w.heap.size≤e.blk:=by
 refine Nat.le_of_not_lt fun hlt=>st.keep0 e.blk hlt ?_ ⟨i,o,e,hi,he,rfl⟩
 rintro ⟨j,o',e',hj,hej,hb⟩
 have hm:=ze0 hj
 obtain ⟨o2,ho2⟩:=hpre _ hm
 exact hno _ hm (st.hr.inj j i o2 o e' e ho2 hi (st.le _ _ hej) he hb)
theorem St1.more {E:En}{n n':Nat}{l:List (Nat×Ob)}{w:World}{far:Nat→Prop}(h:St1 E n l w far)(hn:n≤n'):St1 E n' l w far :=
 ⟨⟨fun i hi=>h.hr.fresh i (Nat.le_trans hn hi),fun i o hi=>h.hr.obj i o hi,fun i j o o' e e' h1 h2=>h.hr.inj i j o o' e e' h1 h2⟩,h.ro,fun i o e hi=>h.no i o e hi⟩
def IsM (c:Kn)(w:World)(far:Nat→Prop)(cs:Array Value)(ng:Gb):Prop:=∃ E,St1 E c.n1 (roL c.post) w far∧GOk ng E∧VR E c.v (.agg cs)
theorem IsM.alt {c:Kn}{w w':World}{far far' p:Nat→Prop}{cs:Array Value}{ng:Gb}(h:IsM c w far cs ng)(ha:Alt w w' p)(hp:∀ k,k<w.heap.size→p k→far k)(hf:∀ k,k<w.heap.size→far' k→far k):IsM c w' far' cs ng:=by
 obtain ⟨E,h1,h2,h3⟩:=h
 exact ⟨E,h1.alt ha hp hf,h2,h3⟩
theorem IsM.below {c:Kn}{w w':World}{far:Nat→Prop}{cs:Array Value}{ng:Gb}(h:IsM c w far cs ng)(hb:Below w.heap.size w w'):IsM c w' far cs ng:=h.alt (Oc.alt_of_below (p:=fun _=>False) hb) (fun _ _ h=>h.elim) (fun _ _ h=>h)
theorem zty {x:X}(hx:x.Ok){fuel:Nat}{c d:Kn}(hr:runH x fuel d=true)(hn:c.n1≤d.n0)(hpre:d.pre=roL c.post)(hav:d.av=[c.v]){r:Int}(hv:d.v = .int .i64 r){w:World}{far:Nat→Prop}{cs:Array Value}(h:IsM c w far cs x.ng) :
  Calls x.P d.k #[.agg cs] w fun e w'=>e = .returned (.int .i64 r)∧Below w.heap.size w w':=by
 obtain ⟨E,h1,h2,h3⟩:=h
 have h1':=h1.more hn
 rw[← hpre] at h1'
 refine (zik hx hr h1' h2 (av':=[.agg cs]) (by rw[hav];exact .cons h3 .nil)).mono ?_
 rintro e w' ⟨E',u,_,rfl,hb,_,hu,_⟩
 rw[hv] at hu
 cases hu with
 |plain _=>exact ⟨rfl,hb⟩
theorem zxp {x:X}(hx:x.Ok){fuel:Nat}{c d:Kn}(hr:runH x fuel d=true)(hn:c.n1≤d.n0)(hpre:d.pre=roL c.post)(hav:d.av=[c.v]){ms:List Int}{b cc:Nat}(hv:d.v = .tuple ⟨[.slice (some ⟨b,0,none⟩) ms.length cc,.int .i64 0]⟩)
  (hcc:cc=2*ms.length) (hpost:(b,Ob.row (newBk 5 (ms.map (Value.int .u8))))∈d.post) (hb:∀ p∈d.pre,p.1≠b) {w:World} {far:Nat→Prop} {cs:Array Value} (h:IsM c w far cs x.ng) :
  Calls x.P d.k #[.agg cs] w fun e w'=>∃ ad c',e = .returned (.tuple #[.slice (some ad) ms.length c',.int .i64 0])∧Rb w' (some ad) ms∧Oc.RowR w' ad c' ms∧w.heap.size≤ad.block∧Below w.heap.size w w':=by
 obtain ⟨E,h1,h2,h3⟩:=h
 have h1':=h1.more hn
 rw[← hpre] at h1'
 refine (zik hx hr h1' h2 (av':=[.agg cs]) (by rw[hav];exact .cons h3 .nil)).mono ?_
 rintro e w' ⟨E',u,hp1,rfl,hbl,st,hu,_,hp,hpn⟩
 rw[hv] at hu
 obtain ⟨l',rfl,hl⟩:=hu.tuple_inv
 obtain ⟨u0,hu0,hr0⟩:=F2.get hl (i:=0) rfl
 obtain ⟨u1,hu1,hr1⟩:=F2.get hl (i:=1) rfl
 have hlen:=F2.length hl
 obtain ⟨e0,c',_,he0,rfl,hcap⟩:=hr0.slice_inv
 obtain rfl:u1 = .int .i64 0:=by cases hr1 with|plain _=>rfl
 obtain rfl:l'=[.slice (some ⟨e0.blk,0+e0.d,none⟩) ms.length c',.int .i64 0]:=by
  match l',hlen,hu0,hu1 with
  | [a,b],_,h0,h1=>injection h0 with h0;injection h1 with h1;rw[h0,h1]
 obtain ⟨o',ho',hs⟩:=hp _ hpost
 have hob:=zdc hs (by obtain ⟨e2,he2,hob⟩:=st.hr.obj _ _ ho';rw[he0] at he2;injection he2 with he2;rw[he2];exact hob:ObR E' w' e0 o')
 obtain ⟨cs',fr,hh,hsz,hm,hcells,_⟩:=hob
 have hc':c'=ms.length:=by
  rcases hcap with ⟨_,h⟩|⟨h,_⟩ <;> omega
 have at_:∀ j u,(ms.map (Value.int .u8))[j]? = some u→cs'[j+e0.d]? = some u:=fun j u hj=>by
  obtain ⟨v,hv1,hv2⟩:=hcells j u (by rw[zb4];exact hj)
  have huv:v=u:=by
   rw[List.getElem?_map] at hj
   obtain ⟨y,_,rfl⟩:=Option.map_eq_some_iff.1 hj
   cases hv2 with|plain _=>rfl
  subst huv
  rw[Nat.add_comm]
  exact hv1
 refine ⟨⟨e0.blk,0+e0.d,none⟩,c',rfl,fun hpos=>⟨_,rfl,(Array.getElem?_eq_some_iff.1 hh).1,fun j u hj=>?_⟩,⟨rfl,cs',fr,hh,?_,?_,.inl hc'⟩,?_,hbl⟩
 rotate_left
 ·have h1:len (ms.map (Value.int .u8))≤e0.m:=hm
  rw[zba,List.length_map] at h1
  show 0+e0.d+ms.length≤cs'.size
  omega
 ·refine List.ext_getElem? fun j=>?_
  show ((cs'.toList.drop (0+e0.d)).take ms.length)[j]? = _
  rw[List.getElem?_take]
  split
  ·next hj =>
   have h2:(ms.map (Value.int .u8))[j]? = some ((ms.map (Value.int .u8))[j]'(by simpa using hj)):=List.getElem?_eq_getElem _
   rw[List.getElem?_drop,h2,Array.getElem?_toList,show 0+e0.d+j=j+e0.d by omega]
   exact at_ j _ h2
  ·next hj=>rw[List.getElem?_eq_none (by simp;omega)]
 rotate_left
 ·obtain ⟨v,hv1,hv2⟩:=hcells j u (by rw[zb4];exact hj)
  have huv:v=u:=by
   rw[List.getElem?_map] at hj
   obtain ⟨y,_,rfl⟩:=Option.map_eq_some_iff.1 hj
   cases hv2 with|plain _=>rfl
  subst huv
  have ea:(⟨e0.blk,0+e0.d,none⟩:Addr).add j=⟨e0.blk,j+e0.d,none⟩:=by
   unfold Addr.add
   split
   ·next h0=>subst h0;rfl
   ·simp;omega
  rw[ea]
  unfold World.cell?
  rw[hh]
  show cs'[j+e0.d]? = some v
  rw[Nat.add_comm]
  exact hv1
 ·refine zn6 st (fun p hp'=>?_) ho' he0 (fun p hp'=>hb p hp')
  obtain ⟨q,hq,e1⟩:=hpn p hp'
  obtain ⟨o2,ho2,_⟩:=hp q hq
  exact ⟨o2,by rw[← e1];exact ho2⟩
noncomputable def noName (l:List (Nat×Ob))(b:Nat):Bool:=allB (fun p => !(Nat.beq p.1 b)) l
theorem zds {l:List (Nat×Ob)}{b:Nat}(h:noName l b=true):∀ p∈l,p.1≠b:=fun p hp e=>by
 have:=(zal _ _).1 h p hp
 rw[e] at this
 simp at this
theorem zil {ms:List Int}(h:ms.all (fun y=>decide (0≤y) && decide (y<256))=true):Oc.IsB ms:=fun y hy=>by
 have:=List.all_eq_true.1 h y hy
 simpa using this
def refs (ns:List Nat):Value→Bool
 | .slice (some ⟨b,_,none⟩) _ _=>ns.contains b
 | .pointer (some ⟨b,_,none⟩)=>ns.contains b
 |v=>CX.plainCell v
def good (ns:List Nat)(pl:PL)(vl:List Value):Bool:=pl.all (fun q=>q.2.2.all (refs ns)) && vl.all (refs ns)
theorem ztz {K:Nat}{v:Value}(h:CX.plainCell v=true):shV K v=v:=by
 unfold shV
 split
 ·simp[CX.plainCell] at h
 ·simp[CX.plainCell] at h
 ·rfl
theorem vr_sh {E E':En}{ns:List Nat}{v u:Value}{K:Nat}(h:VR E v u)(hr:refs ns v=true)(he:∀ b∈ns,E' (b+K)=E b):VR E' (shV K v) u:=by
 cases h with
 |plain h=>rw[ztz h];exact .plain h
 |sym=>simp[refs,CX.plainCell] at hr
 |ptr h=>exact .ptr ((he _ (by simpa [refs] using hr)).trans h)
 |slice h hc=>exact .slice ((he _ (by simpa [refs] using hr)).trans h) hc
 |map h=>simp[refs,CX.plainCell] at hr
 |func h1 h2 h3 h4=>simp[refs,CX.plainCell] at hr
 |yld h=>simp[refs,CX.plainCell] at hr
 |iface h=>simp[refs,CX.plainCell] at hr
 |agg h1 h2=>simp[refs,CX.plainCell] at hr
 |tuple h1 h2=>simp[refs,CX.plainCell] at hr
theorem zt0 {E E':En}{ns:List Nat}{v u:Value}(h:VR E v u)(hr:refs ns v=true)(he:∀ b∈ns,E' b=E b):VR E' v u:=by
 cases h with
 |plain h=>exact .plain h
 |sym=>simp[refs,CX.plainCell] at hr
 |ptr h=>exact .ptr ((he _ (by simpa [refs] using hr)).trans h)
 |slice h hc=>exact .slice ((he _ (by simpa [refs] using hr)).trans h) hc
 |map h=>simp[refs,CX.plainCell] at hr
 |func h1 h2 h3 h4=>simp[refs,CX.plainCell] at hr
 |yld h=>simp[refs,CX.plainCell] at hr
 |iface h=>simp[refs,CX.plainCell] at hr
 |agg h1 h2=>simp[refs,CX.plainCell] at hr
 |tuple h1 h2=>simp[refs,CX.plainCell] at hr
theorem agg_sh {E E':En}{ns:List Nat}{vl:List Value}{cs:Array Value}{K:Nat}(h:VR E (.agg ⟨vl⟩) (.agg cs))(hr:∀ v∈vl,refs ns v=true)(he:∀ b∈ns,E' (b+K)=E b):VR E' (.agg ⟨vl.map (shV K)⟩) (.agg cs):=by
 obtain ⟨l',e,hl⟩:=h.agg_inv
 injection e with e
 subst e
 refine .agg (by rw[List.length_map];exact F2.length hl) fun i v v' hv hv'=>?_
 rw[List.getElem?_map] at hv
 obtain ⟨y,hy,rfl⟩:=Option.map_eq_some_iff.1 hv
 obtain ⟨u,hu,hr'⟩:=F2.get hl hy
 rw[hu] at hv'
 injection hv' with hv'
 subst hv'
 exact vr_sh hr' (hr y (List.mem_of_getElem? hy)) he
theorem zkz {E E':En}{ns:List Nat}{vl:List Value}{cs:Array Value}(h:VR E (.agg ⟨vl⟩) (.agg cs))(hr:∀ v∈vl,refs ns v=true)(he:∀ b∈ns,E' b=E b):VR E' (.agg ⟨vl⟩) (.agg cs):=by
 obtain ⟨l',e,hl⟩:=h.agg_inv
 injection e with e
 subst e
 refine .agg (F2.length hl) fun i v v' hv hv'=>?_
 obtain ⟨u,hu,hr'⟩:=F2.get hl hv
 rw[hu] at hv'
 injection hv' with hv'
 subst hv'
 exact zt0 hr' (hr v (List.mem_of_getElem? hv)) he
theorem ob_sh {E E':En}{w:World}{e:Em}{ns:List Nat}{K a t:Nat}{l:List Value}(h:ObR E w e (roO (.row (newBk t l))))(hr:∀ v∈l,refs ns v=true)(he:∀ b∈ns,E' (b+K)=E b):ObR E' w e (roO (pW (a,t,l.map (shV K))).2):=by
 obtain ⟨cs,fr,h1,h2,h3,h4,h5,h6⟩:=h
 refine ⟨cs,fr,h1,h2,?_,fun j v hj=>?_,(fun h=>by cases h),(fun h=>by cases h)⟩
 ·have h3':len l≤e.m:=h3
  show len (l.map (shV K))≤e.m
  rw[zba] at h3' ⊢
  rw[List.length_map];exact h3'
 ·have hj':(l.map (shV K))[j]? = some v:=by
   have:=zb4 t (l.map (shV K)) j
   rw[← this];exact hj
  rw[List.getElem?_map] at hj'
  obtain ⟨y,hy,rfl⟩:=Option.map_eq_some_iff.1 hj'
  obtain ⟨u,hu,hv⟩:=h4 j y ((zb4 t l j).trans hy)
  exact ⟨u,hu,vr_sh hv (hr y (List.mem_of_getElem? hy)) he⟩
theorem zn7 {E E':En}{w:World}{e:Em}{ns:List Nat}{q:Nat×Nat×List Value}(h:ObR E w e (roO (pW q).2))(hr:∀ v∈q.2.2,refs ns v=true)(he:∀ b∈ns,E' b=E b):ObR E' w e (roO (pW q).2):=by
 obtain ⟨cs,fr,h1,h2,h3,h4,h5⟩:=h
 refine ⟨cs,fr,h1,h2,h3,fun j v hj=>?_,h5⟩
 obtain ⟨u,hu,hv⟩:=h4 j v hj
 have hj':q.2.2[j]? = some v:=by
  have:=zb4 q.2.1 q.2.2 j
  rw[← this];exact hj
 exact ⟨u,hu,zt0 hv (hr v (List.mem_of_getElem? hj')) he⟩
theorem zv3 {pl:PL}{p:Nat×Ob}(h:p∈rl pl):∃ q∈pl,p=(q.1,roO (pW q).2):=by
 obtain ⟨p',hp',rfl⟩:=List.mem_map.1 h
 obtain ⟨q,hq,rfl⟩:=List.mem_map.1 hp'
 exact ⟨q,hq,rfl⟩
theorem zk0 {ns:List Nat}{pl:PL}{vl:List Value}(h:good ns pl vl=true):(∀ q∈pl,∀ v∈q.2.2,refs ns v=true)∧∀ v∈vl,refs ns v=true:=by
 unfold good at h
 rw[Bool.and_eq_true] at h
 refine ⟨fun q hq v hv=>?_,fun v hv=>List.all_eq_true.1 h.2 v hv⟩
 exact List.all_eq_true.1 (List.all_eq_true.1 h.1 q hq) v hv
structure Pl0 (E:En)(pl:PL)(n:Nat)(w:World)(far:Nat→Prop):Prop where
 fresh:∀ i,n≤i→E i=none
 ob:∀ q∈pl,∃ e,E q.1=some e∧ObR E w e (roO (pW q).2)∧¬ far e.blk
 inj:∀ q∈pl,∀ q'∈pl,∀ e e',E q.1=some e→E q'.1=some e'→e.blk=e'.blk→q.1=q'.1
theorem Pl0.st1 {E:En}{pl:PL}{n N:Nat}{w:World}{far:Nat→Prop}(h:Pl0 E pl n w far)(hN:n≤N):St1 E N (rl pl) w far:=by
 have hm:∀ i o,(lay N (rl pl) .empty).ob i=some o→∃ q∈pl,i=q.1∧o=roO (pW q).2:=fun i o hi=>by
  obtain ⟨q,hq,e⟩:=zv3 (ze0 hi)
  injection e with e1 e2
  exact ⟨q,hq,e1,e2⟩
 refine ⟨⟨fun i hi=>h.fresh i (Nat.le_trans hN hi),fun i o hi=>?_,fun i j o o' e e' hi hj he he' hb=>?_⟩,fun p hp=>?_,fun i o e hi he=>?_⟩
 ·obtain ⟨q,hq,rfl,rfl⟩:=hm i o hi
  obtain ⟨e,h1,h2,_⟩:=h.ob q hq
  exact ⟨e,h1,h2⟩
 ·obtain ⟨q,hq,rfl,rfl⟩:=hm i o hi
  obtain ⟨q',hq',rfl,rfl⟩:=hm j o' hj
  exact h.inj q hq q' hq' e e' he he' hb
 ·obtain ⟨q,hq,rfl⟩:=zv3 hp
  rfl
 ·obtain ⟨q,hq,rfl,rfl⟩:=hm i o hi
  obtain ⟨e',h1,_,h3⟩:=h.ob q hq
  rw[he] at h1
  injection h1 with h1
  rw[h1];exact h3
theorem pl_of {E':En}{h1:Hp}{w':World}(H:HR E' h1 w'){n:Nat}(hn:h1.next≤n){pl:PL}(hp:∀ q∈pl,∃ o',h1.ob q.1=some o'∧subOb (pW q).2 o'=true){far:Nat→Prop}(hfar:∀ q∈pl,∀ o e,h1.ob q.1=some o→E' q.1=some e→¬ far e.blk):Pl0 E' pl n w' far:=by
 refine ⟨fun i hi=>H.fresh i (Nat.le_trans hn hi),fun q hq=>?_,fun q hq q' hq' e e' he he' hb=>?_⟩
 ·obtain ⟨o',ho',hs⟩:=hp q hq
  obtain ⟨e,he,hob⟩:=H.obj _ _ ho'
  exact ⟨e,he,ObR.ro (zdc hs hob),hfar q hq o' e ho' he⟩
 ·obtain ⟨o1,h1',_⟩:=hp q hq
  obtain ⟨o2,h2',_⟩:=hp q' hq'
  exact H.inj _ _ o1 o2 e e' h1' h2' he he' hb
def IsP (pl:PL)(vl:List Value)(n:Nat)(w:World)(far:Nat→Prop)(cs:Array Value)(ng:Gb):Prop:=∃ E,Pl0 E pl n w far∧GOk ng E∧VR E (.agg ⟨vl⟩) (.agg cs)
noncomputable def knP (pl:PL)(vl:List Value)(n:Nat):Kn:=⟨0,[],0,[],.agg ⟨vl⟩,n,pl.map pW⟩
section
variable {pl:PL}{vl:List Value}{n:Nat}{w w':World}{far far' p:Nat→Prop}{cs:Array Value}{ng:Gb}
theorem IsP.isM (h:IsP pl vl n w far cs ng):IsM (knP pl vl n) w far cs ng:=by
 obtain ⟨E,h1,h2,h3⟩:=h
 exact ⟨E,h1.st1 (Nat.le_refl _),h2,h3⟩
theorem IsP.size (h:IsP pl vl n w far cs ng):cs.size=vl.length:=by
 obtain ⟨E,_,_,h3⟩:=h
 obtain ⟨la,e,hla⟩:=h3.agg_inv
 injection e with e
 subst e
 exact (F2.length hla).symm
def tys (pl:PL):Bool:=pl.all fun q => !(q.2.1 == 5 || q.2.1 == 96 || q.2.1 == 93 || q.2.1 == 155)
theorem IsP.stays (h:IsP pl vl n w far cs ng)(ht:tys pl=true)(ha:Alt w w' p)(hp:∀ k,k<w.heap.size→p k→far k∨Oc.TB w k)(hf:∀ k,k<w.heap.size→far' k→far k):IsP pl vl n w' far' cs ng:=by
 obtain ⟨E,h1,h2,h3⟩:=h
 refine ⟨E,⟨h1.fresh,fun q hq=>?_,h1.inj⟩,h2,h3⟩
 obtain ⟨e,he,ho,hno⟩:=h1.ob q hq
 refine ⟨e,he,ObR.kept ho (ha.block _ ho.lt (fun hpk=>?_)),fun h5=>hno (hf _ ho.lt h5)⟩
 rcases hp _ ho.lt hpk with h4|h4
 ·exact hno h4
 ·have ht':=List.all_eq_true.1 ht q hq
  obtain ⟨cs',fr,hh,_⟩:=ho
  rcases h4 with ⟨es,m,hm⟩|⟨cs2,t,fr2,hm,ht2⟩
  ·rw[hh] at hm;cases hm
  ·rw[hh] at hm
   injection hm with hm
   injection hm with _ hm
   have hm':q.2.1=t:=hm
   subst hm'
   rcases ht2 with h5|h5|h5|h5 <;> rw[h5] at ht' <;> simp at ht'
theorem IsP.alt (h:IsP pl vl n w far cs ng)(ha:Alt w w' p)(hp:∀ k,k<w.heap.size→p k→far k)(hf:∀ k,k<w.heap.size→far' k→far k):IsP pl vl n w' far' cs ng:=by
 obtain ⟨E,h1,h2,h3⟩:=h
 refine ⟨E,⟨h1.fresh,fun q hq=>?_,h1.inj⟩,h2,h3⟩
 obtain ⟨e,he,ho,hno⟩:=h1.ob q hq
 exact ⟨e,he,ObR.kept ho (ha.block _ ho.lt (fun hpk=>hno (hp _ ho.lt hpk))),fun h5=>hno (hf _ ho.lt h5)⟩
theorem IsP.below (h:IsP pl vl n w far cs ng)(hb:Below w.heap.size w w'):IsP pl vl n w' far cs ng:=h.alt (Oc.alt_of_below (p:=fun _=>False) hb) (fun _ _ h=>h.elim) (fun _ _ h=>h)
theorem IsP.resym {s':Nat→Value}(one:∀ n,(s' n).oneCell'=true)(g:good (nms pl) pl vl=true)(h:IsP pl vl n w far cs ng):IsP pl vl n w far cs ⟨ng.n,s'⟩:=by
 obtain ⟨E,h1,h2,h3⟩:=h
 obtain ⟨g1,g2⟩:=zk0 g
 refine ⟨⟨E.f,s',one⟩,⟨h1.fresh,fun q hq=>?_,h1.inj⟩,⟨h2.1,rfl⟩,zkz h3 g2 fun _ _=>rfl⟩
 obtain ⟨e,he,ho,hno⟩:=h1.ob q hq
 exact ⟨e,he,zn7 ho (g1 q hq) (fun _ _=>rfl),hno⟩
theorem IsP.shift {K:Nat}(g:good (nms pl) pl vl=true)(_hg:(nms pl).all (fun b=>decide (ng.n≤b))=true)(hK:ng.n≤K)(h:IsP pl vl n w far cs ng):IsP (shP K pl) (vl.map (shV K)) (n+K) w far cs ng:=by
 obtain ⟨E,h1,h2,h3⟩:=h
 obtain ⟨g1,g2⟩:=zk0 g
 let E':En:=⟨fun i=>if i<K then (if i<ng.n then E i else none) else E (i - K),E.s,E.one⟩
 have eK:∀ b,E' (b+K)=E b:=fun b=>by
  show (if b+K<K then _ else E (b+K - K))=_
  rw[if_neg (by omega),Nat.add_sub_cancel]
 have e0:∀ b,b<ng.n→E' b=E b:=fun b hb=>by
  show (if b<K then (if b<ng.n then E b else none) else _)=_
  rw[if_pos (by omega),if_pos hb]
 have hmem:∀ q∈shP K pl,∃ q0∈pl,q=(q0.1+K,q0.2.1,q0.2.2.map (shV K)):=fun q hq=>by
  obtain ⟨q0,h0,rfl⟩:=List.mem_map.1 hq
  exact ⟨q0,h0,rfl⟩
 refine ⟨E',⟨fun i hi=>?_,fun q hq=>?_,fun q hq q' hq' e e' he he' hb=>?_⟩,⟨fun b hb=>?_,h2.2⟩,agg_sh h3 g2 fun b _=>eK b⟩
 ·show (if i<K then _ else E (i - K))=none
  rw[if_neg (by omega)]
  exact h1.fresh _ (by omega)
 ·obtain ⟨q0,h0,rfl⟩:=hmem q hq
  obtain ⟨e,he,ho,hno⟩:=h1.ob q0 h0
  exact ⟨e,(eK _).trans he,ob_sh ho (g1 q0 h0) (fun b _=>eK b),hno⟩
 ·obtain ⟨q0,h0,rfl⟩:=hmem q hq
  obtain ⟨q0',h0',rfl⟩:=hmem q' hq'
  have:=h1.inj q0 h0 q0' h0' e e' ((eK _).symm.trans he) ((eK _).symm.trans he') hb
  show q0.1+K=q0'.1+K
  rw[this]
 ·rw[e0 b hb]
  exact h2.1 b hb
theorem IsP.join {pl2:PL}{vl2:List Value}{n2 N lo:Nat}{w0:World}{cs2:Array Value}(h:IsP pl vl n w0 far cs ng)(h2:IsP pl2 vl2 n2 w (fun k=>k<lo) cs2 ng)(hb:Below w0.heap.size w0 w)(hlo:w0.heap.size≤lo)
  (g1:good (nms pl) pl vl=true) (g2:good (nms pl2) pl2 vl2=true) (hd:(nms pl2).all (fun b => !(nms pl).contains b)=true) (hg:(nms pl2).all (fun b=>decide (ng.n≤b))=true) (hl2:(nms pl2).all (fun b=>decide (b<N))=true) (hN:n≤N) :
  ∃ E,Pl0 E (pl++pl2) N w (fun _=>False)∧GOk ng E∧VR E (.agg ⟨vl⟩) (.agg cs)∧VR E (.agg ⟨vl2⟩) (.agg cs2):=by
 obtain ⟨E1,a1,a2,a3⟩:=h
 obtain ⟨E2,b1,b2,b3⟩:=h2
 obtain ⟨p1,p2⟩:=zk0 g1
 obtain ⟨q1,q2⟩:=zk0 g2
 have hdis:∀ b,(nms pl2).contains b=true→(nms pl).contains b=true→False:=fun b h1 h3=>by
  have:=List.all_eq_true.1 hd b (by simpa using h1)
  rw[h3] at this;cases this
 let E:En:=⟨fun i=>if (nms pl2).contains i=true then E2 i else E1 i,E1.s,E1.one⟩
 have e1:∀ b∈nms pl,E b=E1 b:=fun b hb=>if_neg (fun h=>hdis b h (by simpa using hb))
 have e2:∀ b∈nms pl2,E b=E2 b:=fun b hb=>if_pos (by simpa using hb)
 have m1:∀ q∈pl,q.1∈nms pl:=fun q hq=>List.mem_map.2 ⟨q,hq,rfl⟩
 have m2:∀ q∈pl2,q.1∈nms pl2:=fun q hq=>List.mem_map.2 ⟨q,hq,rfl⟩
 have lt1:∀ q∈pl,∀ e,E q.1=some e→e.blk<lo:=fun q hq e he=>by
  obtain ⟨e',he',ho,_⟩:=a1.ob q hq
  rw[e1 _ (m1 q hq),he'] at he
  injection he with he
  subst he
  exact Nat.lt_of_lt_of_le ho.lt hlo
 have ge2:∀ q∈pl2,∀ e,E q.1=some e→¬ e.blk<lo:=fun q hq e he=>by
  obtain ⟨e',he',ho,hno⟩:=b1.ob q hq
  rw[e2 _ (m2 q hq),he'] at he
  injection he with he
  subst he
  exact hno
 refine ⟨E,⟨fun i hi=>?_,fun q hq=>?_,fun q hq q' hq' e e' he he' hbk=>?_⟩,⟨fun b hb=>?_,a2.2⟩,zkz a3 p2 e1,zkz b3 q2 e2⟩
 ·refine (if_neg (fun h=>?_)).trans (a1.fresh i (Nat.le_trans hN hi))
  have:=List.all_eq_true.1 hl2 i (by simpa using h)
  simp at this
  omega
 ·rcases List.mem_append.1 hq with h|h
  ·obtain ⟨e,he,ho,_⟩:=a1.ob q h
   exact ⟨e,(e1 _ (m1 q h)).trans he,zn7 (ObR.kept ho (hb.block _ ho.lt)) (p1 q h) e1,fun h=>h⟩
  ·obtain ⟨e,he,ho,_⟩:=b1.ob q h
   exact ⟨e,(e2 _ (m2 q h)).trans he,zn7 ho (q1 q h) e2,fun h=>h⟩
 ·rcases List.mem_append.1 hq with h|h <;> rcases List.mem_append.1 hq' with h'|h'
  ·exact a1.inj q h q' h' e e' ((e1 _ (m1 q h)).symm.trans he) ((e1 _ (m1 q' h')).symm.trans he') hbk
  ·exact absurd (hbk ▸ lt1 q h e he) (ge2 q' h' e' he')
  ·exact absurd (hbk ▸ lt1 q' h' e' he') (ge2 q h e he)
  ·exact b1.inj q h q' h' e e' ((e2 _ (m2 q h)).symm.trans he) ((e2 _ (m2 q' h')).symm.trans he') hbk
 ·have:E b=E1 b:=if_neg (fun h=>by
   have:=List.all_eq_true.1 hg b (by simpa using h)
   simp at this
   omega)
  rw[this]
  exact a2.1 b hb
end
theorem zt1 {E:En}{vl:List Value}{cs:Array Value}(h:VR E (.agg ⟨vl⟩) (.agg cs))(h1:allB oneB vl=true):Oc.AllOne cs:=by
 obtain ⟨la,e,hla⟩:=h.agg_inv
 injection e with e
 subst e
 show (Array.all ⟨la⟩ _)=true
 rw[← Array.all_toList]
 exact List.all_eq_true.2 (zhe hla h1)
theorem IsP.ones {pl:PL}{vl:List Value}{n:Nat}{w:World}{far:Nat→Prop}{cs:Array Value}{ng:Gb}(h:IsP pl vl n w far cs ng)(h1:allB oneB vl=true):Oc.AllOne cs:=by
 obtain ⟨E,_,_,h3⟩:=h
 exact zt1 h3 h1
theorem zmp {x:X}(hx:x.Ok)(one:∀ n,(x.ng.s n).oneCell'=true){fuel:Nat}{c:Kn}(hr:runH x fuel c=true)(hn:x.ng.n≤c.n0)(hpre:c.pre=[]){a:Int}(hav:c.av=[.float .f64 0])(hs:x.ng.s 0 = .int .i64 a){pl:PL}{vl:List Value}(hv:c.v = .agg ⟨vl⟩)(hpost:c.post=pl.map pW)(hg:good (nms pl) pl vl=true)(w:World) :
  Calls x.P c.k #[.int .i64 a] w fun e w'=>∃ cs,e = .returned (.agg cs)∧IsP pl vl c.n1 w' (fun k=>k<w.heap.size) cs ⟨x.ng.n,noSym⟩∧Below w.heap.size w w':=by
 have H:=zxo one hn w (fun _=>False)
 rw[← hpre] at H
 refine (zik hx hr H (GOk.zero _ _ one) (av':=[.int .i64 a]) (by rw[hav, ← hs];exact .cons (VR.sym (E:=En.zero x.ng.n x.ng.s one)) .nil)).mono ?_
 rintro e w' ⟨E',u,h1,rfl,hb,st,hu,hn1,hp,_⟩
 rw[hv] at hu
 obtain ⟨l',rfl,_⟩:=hu.agg_inv
 rw[hpre] at st
 refine ⟨_,rfl,IsP.resym noSym_one hg ⟨E',pl_of st.hr (by rw[hn1];exact Nat.le_refl _) (fun q hq=>?_) (fun q hq o e hi he hlt=>?_),(GOk.zero _ _ one).mono st.le,hu⟩,hb⟩
 ·exact hp (pW q) (by rw[hpost];exact List.mem_map.2 ⟨q,hq,rfl⟩)
 ·have:=zn6 st (fun p hp=>by cases hp) hi he (fun p hp=>by cases hp)
  omega
theorem readP {x:X}(hx:x.Ok)(one:∀ n,(x.ng.s n).oneCell'=true){fuel:Nat}{d:Kn}(hr:runH x fuel d=true){ms:List Int}{b:Nat}(hb:x.ng.n≤b)(hn:b<d.n0){code:Nat}(hav:d.av=[.slice (some ⟨b,0,none⟩) ms.length code])(hpre:d.pre=[(b,roO (.row (newBk 5 (ms.map (Value.int .u8)))))])
  {pl:PL} {vl:List Value} (hv:d.v = .tuple ⟨[.agg ⟨vl⟩,.int .i64 0]⟩) (hpost:d.post=(b,roO (.row (newBk 5 (ms.map (Value.int .u8))))) :: pl.map pW) (hbn:(nms pl).all (fun i => !(Nat.beq i b))=true) (hl:vl.length=59) (h1:allB oneB vl=true)
  {W:World} {ad:Addr} {c m:Nat} (had:ad=⟨ad.block,ad.off,none⟩) {cur:Array Value} {fr:Nat×Nat} (hh:W.heap[ad.block]? = some (.cells cur 5 fr)) (hsz:cur.size=ad.off+m) (hm:ms.length≤m) (htk:(cur.toList.drop ad.off).take ms.length=ms.map (Value.int .u8)) (hcap:CapR ⟨ad.block,ad.off,m⟩ 0 code c) :
  Calls x.P d.k #[.slice (some ad) ms.length c] W fun e w'=>∃ cs:Array Value,e = .returned (.tuple #[.agg cs,.int .i64 0])∧cs.size=59∧Oc.AllOne cs∧IsP pl vl d.n1 w' (fun k=>k<W.heap.size) cs x.ng∧Below W.heap.size W w':=by
 have hself:=En.add_self (En.zero x.ng.n x.ng.s one) b ⟨ad.block,ad.off,m⟩
 have hle:(En.zero x.ng.n x.ng.s one).le ((En.zero x.ng.n x.ng.s one).add b ⟨ad.block,ad.off,m⟩):=En.le_add (if_neg (by omega))
 have hob1:∀ i o,(lay d.n0 d.pre .empty).ob i=some o→i=b∧o=roO (.row (newBk 5 (ms.map (Value.int .u8)))):=fun i o hi=>by
  have:=ze0 hi
  rw[hpre,List.mem_singleton] at this
  injection this with h1 h2
  exact ⟨h1,h2⟩
 have H:St1 ((En.zero x.ng.n x.ng.s one).add b ⟨ad.block,ad.off,m⟩) d.n0 d.pre W (fun _=>False):=by
  refine ⟨⟨fun i hi=>?_,fun i o hi=>?_,fun i j o o' e e' hi hj _ _ _=>?_⟩,fun p hp=>?_,fun _ _ _ _ _ h=>h⟩
  ·have hi':d.n0≤i:=hi
   rw[En.add_ne _ _ (by omega)]
   exact if_neg (by omega)
  ·obtain ⟨rfl,rfl⟩:=hob1 i o hi
   refine ⟨_,hself,cur,fr,hh,hsz,?_,fun j v hj=>?_,(fun h=>by cases h),(fun h=>by cases h)⟩
   ·show len (ms.map (Value.int .u8))≤m
    rw[zba,List.length_map];exact hm
   ·have hj':(ms.map (Value.int .u8))[j]? = some v:=by
     have:=zb4 5 (ms.map (Value.int .u8)) j
     rw[← this];exact hj
    have h3:=hj'
    rw[← htk,List.getElem?_take] at h3
    split at h3
    ·rw[List.getElem?_drop] at h3
     refine ⟨v,by simpa using h3,?_⟩
     rw[List.getElem?_map] at hj'
     obtain ⟨y,_,rfl⟩:=Option.map_eq_some_iff.1 hj'
     exact .plain rfl
    ·cases h3
  ·rw[(hob1 i o hi).1,(hob1 j o' hj).1]
  ·rw[hpre,List.mem_singleton] at hp
   subst hp;rfl
 have hG:GOk x.ng ((En.zero x.ng.n x.ng.s one).add b ⟨ad.block,ad.off,m⟩):=(GOk.zero _ _ one).mono hle
 have:=zik hx hr H hG (av':=[.slice (some ad) ms.length c]) (by
  rw[hav]
  refine .cons ?_ .nil
  have:=VR.slice (E:=(En.zero x.ng.n x.ng.s one).add b ⟨ad.block,ad.off,m⟩) (b:=b) (o:=0) (n:=ms.length) hself hcap
  rw[had]
  simpa using this)
 refine this.mono ?_
 rintro e w' ⟨E',u,hp1,rfl,hbl,st,hu,hn1,hp,hpn⟩
 rw[hv] at hu
 obtain ⟨l',rfl,hl'⟩:=hu.tuple_inv
 obtain ⟨u0,hu0,hr0⟩:=F2.get hl' (i:=0) rfl
 obtain ⟨u1,hu1,hr1⟩:=F2.get hl' (i:=1) rfl
 have hlen:=F2.length hl'
 have hr0':=hr0
 obtain ⟨la,rfl,hla⟩:=hr0.agg_inv
 obtain rfl:u1 = .int .i64 0:=by cases hr1 with|plain _=>rfl
 obtain rfl:l'=[.agg ⟨la⟩,.int .i64 0]:=by
  match l',hlen,hu0,hu1 with
  | [a,b],_,h0,h1=>injection h0 with h0;injection h1 with h1;rw[h0,h1]
 refine ⟨⟨la⟩,rfl,?_,zt1 hr0' h1,⟨E',pl_of st.hr (by rw[hn1];exact Nat.le_refl _) (fun q hq=>?_) (fun q hq o e hi he hlt=>?_),hG.mono st.le,hr0'⟩,hbl⟩
 ·show la.length=59
  rw[← F2.length hla];exact hl
 ·exact hp (pW q) (by rw[hpost];exact List.mem_cons_of_mem _ (List.mem_map.2 ⟨q,hq,rfl⟩))
 ·have:=zn6 st (fun p hp'=>by
   obtain ⟨q',hq',e1⟩:=hpn p hp'
   obtain ⟨o2,ho2,_⟩:=hp q' hq'
   exact ⟨o2,by rw[← e1];exact ho2⟩) hi he (fun p hp' e2=>by
   rw[hpre,List.mem_singleton] at hp'
   subst hp'
   have h5:=List.all_eq_true.1 hbn q.1 (List.mem_map.2 ⟨q,hq,rfl⟩)
   have e2':q.1=b:=e2.symm
   rw[e2'] at h5
   simp at h5)
  omega
theorem zxq {x:X}(hx:x.Ok)(one:∀ n,(x.ng.s n).oneCell'=true)(hP:x.P=Tryz.prog){f1 f2:Nat}{d d2:Kn}(hr:runH x f1 d=true)(hr2:runH x f2 d2=true){ms:List Int}{b:Nat}(hb:x.ng.n≤b)(hn:b<d.n0)
  {pl:PL} {vl:List Value} (hk:d.k=87) (hav:d.av=[.slice (some ⟨b,0,none⟩) ms.length (ms.length*131072+3)]) (hpre:d.pre=[(b,roO (.row (newBk 5 (ms.map (Value.int .u8)))))]) (hv:d.v = .tuple ⟨[.agg ⟨vl⟩,.int .i64 0]⟩) (hpost:d.post=(b,roO (.row (newBk 5 (ms.map (Value.int .u8))))) :: pl.map pW)
  (hd2:d2={ d with av:=[.slice (some ⟨b,0,none⟩) ms.length (2*ms.length)] }) (hbn:(nms pl).all (fun i => !(Nat.beq i b))=true) (hl:vl.length=59) (h1:allB oneB vl=true) :
  Oc.ReadIs ms (fun W W' cs=>IsP pl vl d.n1 W' (fun k=>k<W.heap.size) cs x.ng):=by
 intro W ad c hrow hpos
 obtain ⟨had,cur,fr,hh,hsz,htk,hc⟩:=hrow
 rw[← hP, ← hk]
 rcases hc with hc|hc
 ·subst hc
  have:=readP hx one hr2 (ms:=ms) (b:=b) hb (by rw[hd2];exact hn) (code:=2*ms.length) (by rw[hd2]) (by rw[hd2];exact hpre) (by rw[hd2];exact hv) (by rw[hd2];exact hpost) hbn hl h1 (c:=ms.length) (m:=cur.size - ad.off) had hh (by omega) (by omega) htk (Or.inl ⟨by omega,by omega⟩)
  rw[hd2] at this
  exact this
 ·exact readP hx one hr (ms:=ms) (b:=b) hb hn hav hpre hv hpost hbn hl h1 (c:=c) (m:=c) had hh hc (by omega) htk (Or.inr ⟨by omega,by omega,by have h1:(ms.length*131072+3) / 2 % 65536=1:=(by omega);rw[h1];show 0+c*1=c;omega,by omega⟩)
theorem sameP {x:X}(hx:x.Ok)(hP:x.P=Tryz.prog){fuel:Nat}{d:Kn}(hr:runH x fuel d=true){pl pl2:PL}{vl vl2:List Value}{n n2 lo:Nat}{w0 w:World}{far:Nat→Prop}{cs cs2:Array Value}(hk:d.k=42)(hpre:d.pre=rl (pl++pl2))(hav:d.av=[.agg ⟨vl2⟩,.agg ⟨vl⟩])(hv:d.v = .bool true)
  (h:IsP pl vl n w0 far cs x.ng) (h2:IsP pl2 vl2 n2 w (fun k=>k<lo) cs2 x.ng) (hb:Below w0.heap.size w0 w) (hlo:w0.heap.size≤lo)
  (g1:good (nms pl) pl vl=true) (g2:good (nms pl2) pl2 vl2=true) (hd:(nms pl2).all (fun b => !(nms pl).contains b)=true) (hg:(nms pl2).all (fun b=>decide (x.ng.n≤b))=true) (hl2:(nms pl2).all (fun b=>decide (b<d.n0))=true) (hN:n≤d.n0) :
  Calls Tryz.prog 42 #[.agg cs2,.agg cs] w fun e w'=>e = .returned (.bool true)∧Below w.heap.size w w':=by
 obtain ⟨E,e1,e2,e3,e4⟩:=h.join h2 hb hlo g1 g2 hd hg hl2 hN
 have h1':=e1.st1 (Nat.le_refl _)
 rw[← hpre] at h1'
 have:=zik hx hr h1' e2 (av':=[.agg cs2,.agg cs]) (by rw[hav];exact .cons e4 (.cons e3 .nil))
 rw[hP,hk] at this
 refine this.mono ?_
 rintro e w' ⟨E',u,_,rfl,hb,_,hu,_⟩
 rw[hv] at hu
 cases hu with
 |plain _=>exact ⟨rfl,hb⟩
structure MdC (ng:Gb)(i:Int)(pm:PL)(vm:List Value)(nm:Nat)(pr:PL)(vr:List Value)(nr:Nat)(ms:List Int):Prop where
 size:vm.length=59
 one:allB oneB vm=true
 ty:tys pm=true
 by_:Oc.IsB ms∧0<ms.length∧ms.length≤12000∧Oc.ReadOk ms
 make:∀ n:Int,n % 8=i→∀ W,Calls Tryz.prog 17 #[.int .i64 n] W fun e w'=>∃ cs,e = .returned (.agg cs)∧IsP pm vm nm w' (fun k=>k<W.heap.size) cs ng∧Below W.heap.size W w'
 chk:∀ (w:World) (far:Nat→Prop) (cs:Array Value),IsP pm vm nm w far cs ng→Calls Tryz.prog 28 #[.agg cs] w fun e w'=>e = .returned (.int .i64 0)∧Below w.heap.size w w'
 how:∀ (w:World) (far:Nat→Prop) (cs:Array Value),IsP pm vm nm w far cs ng→Calls Tryz.prog 51 #[.agg cs] w fun e w'=>e = .returned (.int .i64 0)∧Below w.heap.size w w'
 lay:∀ (w:World) (far:Nat→Prop) (cs:Array Value),IsP pm vm nm w far cs ng→Calls Tryz.prog 31 #[.agg cs] w fun e w'=>∃ ad c',e = .returned (.tuple #[.slice (some ad) ms.length c',.int .i64 0])∧Rb w' (some ad) ms∧Oc.RowR w' ad c' ms∧w.heap.size≤ad.block∧Below w.heap.size w w'
 read:Oc.ReadIs ms (fun W W' cs=>IsP pr vr nr W' (fun k=>k<W.heap.size) cs ng)
 sm:∀ (w0 w:World) (lo:Nat) (far:Nat→Prop) (c1 c2:Array Value),IsP pm vm nm w0 far c2 ng→Below w0.heap.size w0 w→w0.heap.size≤lo→IsP pr vr nr w (fun k=>k<lo) c1 ng→Calls Tryz.prog 42 #[.agg c1,.agg c2] w fun e w'=>e = .returned (.bool true)∧Below w.heap.size w w'
 ss:∀ (w0 w:World) (lo1 lo2:Nat) (c1 c2:Array Value),IsP pr vr nr w0 (fun k=>k<lo1) c1 ng→Below w0.heap.size w0 w→w0.heap.size≤lo2→IsP pr vr nr w (fun k=>k<lo2) c2 ng→Calls Tryz.prog 42 #[.agg c2,.agg c1] w fun e w'=>e = .returned (.bool true)∧Below w.heap.size w w'
structure MdN (ng:Gb)(i:Int)(pm:PL)(vm:List Value)(nm:Nat):Prop where
 size:vm.length=59
 make:∀ n:Int,n % 8=i→∀ W,Calls Tryz.prog 17 #[.int .i64 n] W fun e w'=>∃ cs,e = .returned (.agg cs)∧IsP pm vm nm w' (fun k=>k<W.heap.size) cs ng∧Below W.heap.size W w'
 chk:∃ r:Int,r≠0∧∀ (w:World) (far:Nat→Prop) (cs:Array Value),IsP pm vm nm w far cs ng→Calls Tryz.prog 28 #[.agg cs] w fun e w'=>e = .returned (.int .i64 r)∧Below w.heap.size w w'
 how:∃ r:Int,r≠0∧∀ (w:World) (far:Nat→Prop) (cs:Array Value),IsP pm vm nm w far cs ng→Calls Tryz.prog 51 #[.agg cs] w fun e w'=>e = .returned (.int .i64 r)∧Below w.heap.size w w'
theorem mdlBad {ng:Gb}{i:Int}{pm:PL}{vm:List Value}{nm:Nat}(h:MdN ng i pm vm nm){n:Int}(hn:n % 8=i):Oc.MdlBad n:=by
 intro W
 refine (h.make n hn W).mono ?_
 rintro e w' ⟨cs,rfl,hm,hb⟩
 obtain ⟨r1,hr1,h1⟩:=h.chk
 obtain ⟨r2,hr2,h2⟩:=h.how
 exact ⟨cs,rfl,hm.size.trans h.size,⟨r1,hr1,fun W' hb'=>h1 W' _ cs (hm.below hb')⟩,⟨r2,hr2,fun W' hb'=>h2 W' _ cs (hm.below hb')⟩,hb⟩
section
variable (ng:Gb)(pmF:Nat→PL)(vmF:Nat→List Value)(nmF:Nat→Nat)(prF:Nat→PL)(vrF:Nat→List Value)(nrF:Nat→Nat)(msF:Nat→List Int)
def PMo:Oc.PMod:=fun w far ms cs=>∃ i,i<7∧ms=msF i∧IsP (pmF i) (vmF i) (nmF i) w far cs ng
def PRo (lo:Nat)(w:World)(ms:List Int)(cs:Array Value):Prop:=∃ i,i<7∧ms=msF i∧IsP (prF i) (vrF i) (nrF i) w (fun k=>k<lo) cs ng
def Mo (ms:List Int):Prop:=∃ i,i<7∧ms=msF i
theorem zt2 {i:Nat}(hi:i<7){n:Int}(hn:n % 8=(i:Int)){pr:PL}{vr:List Value}{nr:Nat}(hd:MdC ng (i:Int) (pmF i) (vmF i) (nmF i) pr vr nr (msF i)):Oc.MdlOk (PMo ng pmF vmF nmF msF) (Mo msF) n (msF i):=by
 refine ⟨hd.by_,⟨i,hi,rfl⟩,fun W=>(hd.make n hn W).mono ?_⟩
 rintro e w' ⟨cs,rfl,hm,hb⟩
 exact ⟨cs,rfl,⟨hm.size.trans hd.size,fun w2 hb2=>hd.chk w2 _ cs (hm.below hb2),fun w2 hb2=>hd.lay w2 _ cs (hm.below hb2)⟩,⟨hm.size.trans hd.size,hm.ones hd.one,i,hi,rfl,hm⟩,fun W' hb'=>hd.how W' _ cs (hm.below hb'),hb⟩
theorem zxr (hc:∀ i:Nat,i<7→MdC ng (i:Int) (pmF i) (vmF i) (nmF i) (prF i) (vrF i) (nrF i) (msF i)){pm:PL}{vm:List Value}{nm:Nat}(hbad:MdN ng 7 pm vm nm)(inj:∀ i:Nat,i<7→∀ j:Nat,j<7→msF i=msF j→i=j)
  (is:∀ n,n<3→Oc.IsOk (Oc.nmOf n)) (no:∀ W:World,Calls Tryz.prog 27 #[.string Oc.nm1] W fun e w'=>e = .returned (.bool false)∧Below W.heap.size W w') :
  Oc.LawH (PMo ng pmF vmF nmF msF) (PRo ng prF vrF nrF msF) (Mo msF):=by
 refine ⟨⟨?_,?_,?_,?_,?_⟩,is,no,fun n=>?_,fun w=>Oc.know_of (is 0 (by decide)) (zt2 ng pmF vmF nmF msF (i:=1) (by decide) rfl (hc 1 (by decide))) (zt2 ng pmF vmF nmF msF (i:=3) (by decide) rfl (hc 3 (by decide))) w⟩
 ·rintro w w' far far' p ms cs ⟨i,hi,rfl,h⟩ ha hp hf
  exact ⟨i,hi,rfl,h.stays (hc i hi).ty ha hp hf⟩
 ·rintro lo w w' p ms cs ⟨i,hi,rfl,h⟩ ha hp
  exact ⟨i,hi,rfl,h.alt ha hp (fun k hk h=>h)⟩
 ·rintro ms ⟨i,hi,rfl⟩
  intro W ad c hrow hpos
  refine ((hc i hi).read W ad c hrow hpos).mono ?_
  rintro e w' ⟨cs,h1,h2,h3,h4,h5⟩
  exact ⟨cs,h1,h2,h3,⟨i,hi,rfl,h4⟩,h5⟩
 ·rintro w0 w lo far ms c1 c2 _ ⟨i,hi,rfl,h⟩ hb hlo ⟨j,hj,e,h'⟩
  obtain rfl:=inj i hi j hj e
  exact (hc i hi).sm w0 w lo far c1 c2 h hb hlo h'
 ·rintro w0 w lo1 lo2 ms c1 c2 _ ⟨i,hi,rfl,h⟩ hb hlo ⟨j,hj,e,h'⟩
  obtain rfl:=inj i hi j hj e
  exact (hc i hi).ss w0 w lo1 lo2 c1 c2 h hb hlo h'
 ·by_cases h7:n % 8=7
  ·exact .inr (mdlBad hbad h7)
  ·obtain ⟨i,hi,hn⟩:∃ i:Nat,i<7∧n % 8=(i:Int):=⟨(n % 8).toNat,by omega,by omega⟩
   exact .inl ⟨msF i,zt2 ng pmF vmF nmF msF hi hn (hc i hi)⟩
end
def sN (a0:Int):Nat→Value:=fun i=>match i with
 | 0 => .int .i64 a0
 |_ => .bool false
theorem zgm (a0:Int)(n:Nat):(sN a0 n).oneCell'=true:=by unfold sN;split <;> rfl
theorem zc7 {ng:Nat}(a v:Int)(hv:a % 8=v):OrcOk Tryz.prog ⟨ng,sN a⟩ (orcP 6 [.float .f64 0,.int .i64 8] (.int .i64 v)):=by
 refine zwl rfl (u0 := .int .i64 v) (fun E _ => .plain rfl) (fun W=>?_)
 show Calls Tryz.prog 6 #[.int .i64 a,.int .i64 8] W _
 refine (Oc.pick_any a 8 W (by decide) (by decide)).mono ?_
 rintro e w' ⟨rfl,rfl⟩
 exact ⟨by rw[hv],Below.refl _ _⟩
theorem zpn {x:X}(hx:x.Ok)(hP:x.P=Tryz.prog){fuel k:Nat}{d:Kn}(hr:runH x fuel d=true){pm:PL}{vm:List Value}{nm:Nat}(dk:d.k=k)(dn:nm≤d.n0)(dpre:d.pre=rl pm)(dav:d.av=[.agg ⟨vm⟩]){r:Int}(dv:d.v = .int .i64 r)(w:World)(far:Nat→Prop)(cs:Array Value)(h:IsP pm vm nm w far cs x.ng) :
  Calls Tryz.prog k #[.agg cs] w fun e w'=>e = .returned (.int .i64 r)∧Below w.heap.size w w':=by
 have:=zty hx hr (c:=knP pm vm nm) dn dpre dav dv h.isM
 rw[hP,dk] at this
 exact this
theorem zim {x0:X}{i:Int}{pm:PL}{vm:List Value}{nm:Nat}{pr:PL}{vr:List Value}{ms:List Int}{c h l r r2 s t:Kn}{f1 f2 f3 f4 f5 f6 f7 b cc b2 K:Nat}(hx0:x0.Ok)(hP:x0.P=Tryz.prog)(hs:x0.ng.s=noSym)
  (mk:∀ n:Int,n % 8=i→∀ W,Calls Tryz.prog 17 #[.int .i64 n] W fun e w'=>∃ cs,e = .returned (.agg cs)∧IsP pm vm nm w' (fun k=>k<W.heap.size) cs x0.ng∧Below W.heap.size W w')
  (g1:good (nms pm) pm vm=true) (g2:good (nms pr) pr vr=true) (g3:good (nms (shP K pr)) (shP K pr) (vr.map (shV K))=true) (vl:vm.length=59) (v1:allB oneB vm=true) (ty:tys pm=true) (m1:Oc.IsB ms) (m2:0<ms.length) (m3:ms.length≤12000)
  (rc:runH x0 f1 c=true) (ck:c.k=28) (cn:nm≤c.n0) (cpre:c.pre=rl pm) (cav:c.av=[.agg ⟨vm⟩]) (cv:c.v = .int .i64 0)
  (rh:runH x0 f2 h=true) (hk:h.k=51) (hn:nm≤h.n0) (hpre:h.pre=rl pm) (hav:h.av=[.agg ⟨vm⟩]) (hv:h.v = .int .i64 0)
  (rl_:runH x0 f3 l=true) (lk:l.k=31) (ln:nm≤l.n0) (lpre:l.pre=rl pm) (lav:l.av=[.agg ⟨vm⟩]) (lv:l.v = .tuple ⟨[.slice (some ⟨b,0,none⟩) ms.length cc,.int .i64 0]⟩) (lcc:cc=2*ms.length) (lpost:(b,Ob.row (newBk 5 (ms.map (Value.int .u8))))∈l.post) (lb:∀ p∈l.pre,p.1≠b)
  (rr:runH x0 f4 r=true) (rr2:runH x0 f5 r2=true) (rb:x0.ng.n≤b2) (rn:b2<r.n0) (rk:r.k=87) (rav:r.av=[.slice (some ⟨b2,0,none⟩) ms.length (ms.length*131072+3)]) (rpre:r.pre=[(b2,roO (.row (newBk 5 (ms.map (Value.int .u8)))))]) (rv:r.v = .tuple ⟨[.agg ⟨vr⟩,.int .i64 0]⟩) (rpost:r.post=(b2,roO (.row (newBk 5 (ms.map (Value.int .u8))))) :: pr.map pW)
  (rd2:r2={ r with av:=[.slice (some ⟨b2,0,none⟩) ms.length (2*ms.length)] }) (rbn:(nms pr).all (fun i => !(Nat.beq i b2))=true) (rl:vr.length=59) (r1:allB oneB vr=true)
  (rs:runH x0 f6 s=true) (sk:s.k=42) (spre:s.pre=Md.rl (pm++pr)) (sav:s.av=[.agg ⟨vr⟩,.agg ⟨vm⟩]) (sv:s.v = .bool true) (sd:(nms pr).all (fun b => !(nms pm).contains b)=true) (sg:(nms pr).all (fun b=>decide (x0.ng.n≤b))=true) (sl:(nms pr).all (fun b=>decide (b<s.n0))=true) (sn:nm≤s.n0)
  (rt:runH x0 f7 t=true) (tk:t.k=42) (tpre:t.pre=Md.rl (pr++shP K pr)) (tav:t.av=[.agg ⟨vr.map (shV K)⟩,.agg ⟨vr⟩]) (tv:t.v = .bool true) (td:(nms (shP K pr)).all (fun b => !(nms pr).contains b)=true) (tg:(nms (shP K pr)).all (fun b=>decide (x0.ng.n≤b))=true) (tl:(nms (shP K pr)).all (fun b=>decide (b<t.n0))=true) (tn:r.n1≤t.n0) (hK:x0.ng.n≤K) :
  MdC x0.ng i pm vm nm pr vr r.n1 ms:=by
 have one:∀ n,(x0.ng.s n).oneCell'=true:=fun n=>by rw[hs];exact noSym_one n
 have read:=zxq hx0 one hP rr rr2 rb rn rk rav rpre rv rpost rd2 rbn rl r1
 refine ⟨vl,v1,ty,⟨m1,m2,m3,fun W g c' hrow hpos=>(read W ⟨g,0,none⟩ c' hrow.row hpos).mono ?_⟩,mk,zpn hx0 hP rc ck cn cpre cav cv,zpn hx0 hP rh hk hn hpre hav hv,fun w far cs hm=>?_,read,fun w0 w lo far c1 c2 h1 hb hlo h2=>?_,fun w0 w lo1 lo2 c1 c2 h1 hb hlo h2=>?_⟩
 ·rintro e w' ⟨cs,h1,h2,h3,_,h5⟩
  exact ⟨cs,h1,h2,h3,h5⟩
 ·have:=zxp hx0 rl_ (c:=knP pm vm nm) ln lpre lav lv lcc lpost lb hm.isM
  rw[hP,lk] at this
  exact this
 ·exact sameP hx0 hP rs sk spre sav sv h1 h2 hb hlo g1 g2 sd sg sl sn
 ·exact sameP hx0 hP rt tk tpre tav tv h1 (h2.shift g2 sg hK) hb hlo g2 g3 td tg tl tn
end Go.Proofs.YtmejdkniafjncaaGreatDoor.Md
