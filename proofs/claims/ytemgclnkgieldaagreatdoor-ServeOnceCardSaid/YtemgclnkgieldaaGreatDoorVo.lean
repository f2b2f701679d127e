/- Calls of known outcome (runs of the executor) as contracts over whatever world: what they return stands there, and goes on standing. -/
import Derived.Test.YtemgclnkgieldaaGreatDoorMkd
import Derived.Test.YtemgclnkgieldaaGreatDoorVe
namespace Go.Proofs.YtemgclnkgieldaaGreatDoor.Md
open Go Go.RowKit Dk CX
theorem ObR.ro {E:En}{w:World}{e:Em}{o:Ob}(h:ObR E w e o):ObR E w e (roO o):=by
 cases o with
 |row b =>
  obtain ⟨cs,fr,h1,h2,h3,h4,_,h6⟩:=h
  exact ⟨cs,fr,h1,h2,h3,h4,(fun h=>by cases h),h6⟩
 |map _ _ _=>exact h
 |iter _ _ _ _=>exact h
 |dfr=>exact h
 |loop _ _ _ _ _ _ _=>exact h
structure St1 (E:En)(n:Nat)(l:List (Nat×Ob))(w:World)(far:Nat→Prop):Prop where
 hr:HR E (lay n l .empty) w
 ro:∀ p∈l,p.2.wr=false
 no:∀ i o e,(lay n l .empty).ob i=some o→E i=some e→¬ far e.blk
theorem zec {n i:Nat}{o:Ob}{l:List (Nat×Ob)}(h:(lay n l .empty).ob i=some o):(i,o)∈l:=by
 rcases zc5 h with h|⟨h,_⟩
 ·exact h
 ·cases h
theorem ObR.kept {E:En}{w w':World}{e:Em}{o:Ob}(h:ObR E w e o)(hk:w'.heap[e.blk]? = w.heap[e.blk]?):ObR E w' e o:=h.mono (En.le_refl E) hk
theorem St1.alt {E:En}{n:Nat}{l:List (Nat×Ob)}{w w':World}{far far' p:Nat→Prop}(h:St1 E n l w far)(ha:Alt w w' p)(hp:∀ k,k<w.heap.size→p k→far k)(hf:∀ k,k<w.heap.size→far' k→far k):St1 E n l w' far':=by
 refine ⟨⟨h.hr.fresh,fun i o hi=>?_,h.hr.inj⟩,h.ro,fun i o e hi he hfar=>?_⟩
 ·obtain ⟨e,he,ho⟩:=h.hr.obj i o hi
  exact ⟨e,he,ObR.kept ho (ha.block _ ho.lt (fun hpk=>h.no i o e hi he (hp _ ho.lt hpk)))⟩
 ·obtain ⟨e',he',ho⟩:=h.hr.obj i o hi
  rw[he] at he'
  injection he' with he'
  subst he'
  exact h.no i o e hi he (hf _ ho.lt hfar)
theorem St1.noImg {E:En}{n:Nat}{l:List (Nat×Ob)}{w:World}{far:Nat→Prop}(h:St1 E n l w far)(k:Nat):¬ Img E (lay n l .empty) k:=by
 rintro ⟨i,o,e,hi,hw,_⟩
 have:=h.ro _ (zec hi)
 rw[this] at hw
 cases hw
theorem zkw {x:X}(hx:x.Ok){fuel:Nat}{c:Kn}(hr:runH x fuel c=true){E:En}{w:World}{far:Nat→Prop}{av':List Value}(H:St1 E c.n0 c.pre w far)(hg:GOk x.ng E)(ha:LR E c.av av') :
  Calls x.P c.k ⟨av'⟩ w fun e w'=>∃ E' u h1,e = .returned u∧Below w.heap.size w w'∧Stp E E' (lay c.n0 c.pre .empty) h1 w w'∧VR E' c.v u∧h1.next=c.n1∧(∀ p∈c.post,∃ o',h1.ob p.1=some o'∧subOb p.2 o'=true)∧(∀ p∈c.pre,∃ q∈c.post,q.1=p.1):=by
 unfold runH at hr
 cases hf:fcall x fuel c.k c.av (lay c.n0 c.pre .empty) with
 |none=>rw[hf] at hr;cases hr
 |some p =>
  rw[hf] at hr
  obtain ⟨v1,h1⟩:=p
  change cond (tupV v1 c.v) (cond (Nat.beq h1.next c.n1) (cond (allB (inOb h1) c.post) (allB (fun q=>hasN c.post q.1) c.pre) false) false) false=true at hr
  obtain ⟨g1,hr⟩:=zaa hr
  obtain ⟨g2,hr⟩:=zaa hr
  obtain ⟨g3,g4⟩:=zaa hr
  have g1:=zj8 g1;subst g1
  have g2:=zay g2
  have g3:=(zag _ _).1 g3
  have g4:=(zag _ _).1 g4
  rw[zei] at hf
  refine (zcg hx hf H.hr hg ha).mono ?_
  rintro e w' ⟨E',u,rfl,st,hu⟩
  exact ⟨E',u,h1,rfl,st.below (Nat.le_refl _) (fun k _=>H.noImg k),st,hu,g2,fun p hp=>zcw (g3 p hp),fun p hp=>zdg (g4 p hp)⟩
theorem zzx {ng:Nat}{s:Nat→Value}(one:∀ n,(s n).oneCell'=true){n:Nat}(hn:ng≤n)(w:World)(far:Nat→Prop):St1 (En.zero ng s one) n [] w far :=
 ⟨⟨fun i hi=>if_neg (by have:n≤i:=hi;omega),(fun i o h=>by cases zec h),(fun i j o o' e e' h=>by cases zec h)⟩,(fun _ h=>by cases h),(fun i o e h=>by cases zec h)⟩
theorem zob {E E':En}{n:Nat}{l:List (Nat×Ob)}{h1:Hp}{w w':World}(st:Stp E E' (lay n l .empty) h1 w w')(hpre:∀ p∈l,∃ o,h1.ob p.1=some o){i:Nat}{o:Ob}{e:Em}(hi:h1.ob i=some o)(he:E' i=some e)(hno:∀ p∈l,p.1≠i):w.heap.size≤e.blk:=by
 refine Nat.le_of_not_lt fun hlt=>st.keep0 e.blk hlt ?_ ⟨i,o,e,hi,he,rfl⟩
 rintro ⟨j,o',e',hj,hej,hb⟩
 have hm:=zec hj
 obtain ⟨o2,ho2⟩:=hpre _ hm
 exact hno _ hm (st.hr.inj j i o2 o e' e ho2 hi (st.le _ _ hej) he hb)
theorem St1.more {E:En}{n n':Nat}{l:List (Nat×Ob)}{w:World}{far:Nat→Prop}(h:St1 E n l w far)(hn:n≤n'):St1 E n' l w far :=
 ⟨⟨fun i hi=>h.hr.fresh i (Nat.le_trans hn hi),fun i o hi=>h.hr.obj i o hi,fun i j o o' e e' h1 h2=>h.hr.inj i j o o' e e' h1 h2⟩,h.ro,fun i o e hi=>h.no i o e hi⟩
def IsM (c:Kn)(w:World)(far:Nat→Prop)(cs:Array Value)(ng:Gb):Prop:=∃ E,St1 E c.n1 (roL c.post) w far∧GOk ng E∧VR E c.v (.agg cs)
theorem IsM.alt {c:Kn}{w w':World}{far far' p:Nat→Prop}{cs:Array Value}{ng:Gb}(h:IsM c w far cs ng)(ha:Alt w w' p)(hp:∀ k,k<w.heap.size→p k→far k)(hf:∀ k,k<w.heap.size→far' k→far k):IsM c w' far' cs ng:=by
 obtain ⟨E,h1,h2,h3⟩:=h
 exact ⟨E,h1.alt ha hp hf,h2,h3⟩
theorem IsM.below {c:Kn}{w w':World}{far:Nat→Prop}{cs:Array Value}{ng:Gb}(h:IsM c w far cs ng)(hb:Below w.heap.size w w'):IsM c w' far cs ng:=h.alt (Oc.alt_of_below (p:=fun _=>False) hb) (fun _ _ h=>h.elim) (fun _ _ h=>h)
theorem zuw {x:X}(hx:x.Ok){fuel:Nat}{c d:Kn}(hr:runH x fuel d=true)(hn:c.n1≤d.n0)(hpre:d.pre=roL c.post)(hav:d.av=[c.v]){r:Int}(hv:d.v = .int .i64 r){w:World}{far:Nat→Prop}{cs:Array Value}(h:IsM c w far cs x.ng) :
  Calls x.P d.k #[.agg cs] w fun e w'=>e = .returned (.int .i64 r)∧Below w.heap.size w w':=by
 obtain ⟨E,h1,h2,h3⟩:=h
 have h1':=h1.more hn
 rw[← hpre] at h1'
 refine (zkw hx hr h1' h2 (av':=[.agg cs]) (by rw[hav];exact .cons h3 .nil)).mono ?_
 rintro e w' ⟨E',u,_,rfl,hb,_,hu,_⟩
 rw[hv] at hu
 cases hu with
 |plain _=>exact ⟨rfl,hb⟩
theorem zgj {x:X}(hx:x.Ok){fuel:Nat}{c d:Kn}(hr:runH x fuel d=true)(hn:c.n1≤d.n0)(hpre:d.pre=roL c.post)(hav:d.av=[c.v]){ms:List Int}{b cc:Nat}(hv:d.v = .tuple ⟨[.slice (some ⟨b,0,none⟩) ms.length cc,.int .i64 0]⟩)
  (hcc:cc=2*ms.length) (hpost:(b,Ob.row (newBk 5 (ms.map (Value.int .u8))))∈d.post) (hb:∀ p∈d.pre,p.1≠b) {w:World} {far:Nat→Prop} {cs:Array Value} (h:IsM c w far cs x.ng) :
  Calls x.P d.k #[.agg cs] w fun e w'=>∃ ad c',e = .returned (.tuple #[.slice (some ad) ms.length c',.int .i64 0])∧Rb w' (some ad) ms∧Oc.RowR w' ad c' ms∧w.heap.size≤ad.block∧Below w.heap.size w w':=by
 obtain ⟨E,h1,h2,h3⟩:=h
 have h1':=h1.more hn
 rw[← hpre] at h1'
 refine (zkw hx hr h1' h2 (av':=[.agg cs]) (by rw[hav];exact .cons h3 .nil)).mono ?_
 rintro e w' ⟨E',u,hp1,rfl,hbl,st,hu,_,hp,hpn⟩
 rw[hv] at hu
 obtain ⟨l',rfl,hl⟩:=hu.tuple_inv
 obtain ⟨u0,hu0,hr0⟩:=F2.get hl (i:=0) rfl
 obtain ⟨u1,hu1,hr1⟩:=F2.get hl (i:=1) rfl
 have hlen:=F2.length hl
 obtain ⟨e0,c',_,he0,rfl,hcap⟩:=hr0.slice_inv
 obtain rfl:u1 = .int .i64 0:=by cases hr1 with|plain _=>rfl
 obtain rfl:l'=[.slice (some ⟨e0.blk,0+e0.d,none⟩) ms.length c',.int .i64 0]:=by
  match l',hlen,hu0,hu1 with
  | [a,b],_,h0,h1=>injection h0 with h0;injection h1 with h1;rw[h0,h1]
 obtain ⟨o',ho',hs⟩:=hp _ hpost
 have hob:=zdf hs (by obtain ⟨e2,he2,hob⟩:=st.hr.obj _ _ ho';rw[he0] at he2;injection he2 with he2;rw[he2];exact hob:ObR E' w' e0 o')
 obtain ⟨cs',fr,hh,hsz,hm,hcells,_⟩:=hob
 have hc':c'=ms.length:=by
  rcases hcap with ⟨_,h⟩|⟨h,_⟩ <;> omega
 have at_:∀ j u,(ms.map (Value.int .u8))[j]? = some u→cs'[j+e0.d]? = some u:=fun j u hj=>by
  obtain ⟨v,hv1,hv2⟩:=hcells j u (by rw[zcm];exact hj)
  have huv:v=u:=by
   rw[List.getElem?_map] at hj
   obtain ⟨y,_,rfl⟩:=Option.map_eq_some_iff.1 hj
   cases hv2 with|plain _=>rfl
  subst huv
  rw[Nat.add_comm]
  exact hv1
 refine ⟨⟨e0.blk,0+e0.d,none⟩,c',rfl,fun hpos=>⟨_,rfl,(Array.getElem?_eq_some_iff.1 hh).1,fun j u hj=>?_⟩,⟨rfl,cs',fr,hh,?_,?_,.inl hc'⟩,?_,hbl⟩
 rotate_left
 ·have h1:len (ms.map (Value.int .u8))≤e0.m:=hm
  rw[za9,List.length_map] at h1
  show 0+e0.d+ms.length≤cs'.size
  omega
 ·refine List.ext_getElem? fun j=>?_
  show ((cs'.toList.drop (0+e0.d)).take ms.length)[j]? = _
  rw[List.getElem?_take]
  split
  ·next hj =>
   have h2:(ms.map (Value.int .u8))[j]? = some ((ms.map (Value.int .u8))[j]'(by simpa using hj)):=List.getElem?_eq_getElem _
   rw[List.getElem?_drop,h2,Array.getElem?_toList,show 0+e0.d+j=j+e0.d by omega]
   exact at_ j _ h2
  ·next hj=>rw[List.getElem?_eq_none (by simp;omega)]
 rotate_left
 ·obtain ⟨v,hv1,hv2⟩:=hcells j u (by rw[zcm];exact hj)
  have huv:v=u:=by
   rw[List.getElem?_map] at hj
   obtain ⟨y,_,rfl⟩:=Option.map_eq_some_iff.1 hj
   cases hv2 with|plain _=>rfl
  subst huv
  have ea:(⟨e0.blk,0+e0.d,none⟩:Addr).add j=⟨e0.blk,j+e0.d,none⟩:=by
   unfold Addr.add
   split
   ·next h0=>subst h0;rfl
   ·simp;omega
  rw[ea]
  unfold World.cell?
  rw[hh]
  show cs'[j+e0.d]? = some v
  rw[Nat.add_comm]
  exact hv1
 ·refine zob st (fun p hp'=>?_) ho' he0 (fun p hp'=>hb p hp')
  obtain ⟨q,hq,e1⟩:=hpn p hp'
  obtain ⟨o2,ho2,_⟩:=hp q hq
  exact ⟨o2,by rw[← e1];exact ho2⟩
noncomputable def noName (l:List (Nat×Ob))(b:Nat):Bool:=allB (fun p => !(Nat.beq p.1 b)) l
theorem zet {l:List (Nat×Ob)}{b:Nat}(h:noName l b=true):∀ p∈l,p.1≠b:=fun p hp e=>by
 have:=(zag _ _).1 h p hp
 rw[e] at this
 simp at this
theorem zux {ms:List Int}(h:ms.all (fun y=>decide (0≤y) && decide (y<256))=true):Oc.IsB ms:=fun y hy=>by
 have:=List.all_eq_true.1 h y hy
 simpa using this
def refs (ns:List Nat):Value→Bool
 | .slice (some ⟨b,_,none⟩) _ _=>ns.contains b
 | .pointer (some ⟨b,_,none⟩)=>ns.contains b
 |v=>CX.plainCell v
def good (ns:List Nat)(pl:PL)(vl:List Value):Bool:=pl.all (fun q=>q.2.2.all (refs ns)) && vl.all (refs ns)
theorem zuy {E E':En}{ns:List Nat}{v u:Value}(h:VR E v u)(hr:refs ns v=true)(he:∀ b∈ns,E' b=E b):VR E' v u:=by
 cases h with
 |plain h=>exact .plain h
 |sym=>simp[refs,CX.plainCell] at hr
 |ptr h=>exact .ptr ((he _ (by simpa [refs] using hr)).trans h)
 |slice h hc=>exact .slice ((he _ (by simpa [refs] using hr)).trans h) hc
 |map h=>simp[refs,CX.plainCell] at hr
 |func h1 h2 h3 h4=>simp[refs,CX.plainCell] at hr
 |yld h=>simp[refs,CX.plainCell] at hr
 |iface h=>simp[refs,CX.plainCell] at hr
 |agg h1 h2=>simp[refs,CX.plainCell] at hr
 |tuple h1 h2=>simp[refs,CX.plainCell] at hr
theorem zpt {E E':En}{ns:List Nat}{vl:List Value}{cs:Array Value}(h:VR E (.agg ⟨vl⟩) (.agg cs))(hr:∀ v∈vl,refs ns v=true)(he:∀ b∈ns,E' b=E b):VR E' (.agg ⟨vl⟩) (.agg cs):=by
 obtain ⟨l',e,hl⟩:=h.agg_inv
 injection e with e
 subst e
 refine .agg (F2.length hl) fun i v v' hv hv'=>?_
 obtain ⟨u,hu,hr'⟩:=F2.get hl hv
 rw[hu] at hv'
 injection hv' with hv'
 subst hv'
 exact zuy hr' (hr v (List.mem_of_getElem? hv)) he
theorem zzy {E E':En}{w:World}{e:Em}{ns:List Nat}{q:Nat×Nat×List Value}(h:ObR E w e (roO (pW q).2))(hr:∀ v∈q.2.2,refs ns v=true)(he:∀ b∈ns,E' b=E b):ObR E' w e (roO (pW q).2):=by
 obtain ⟨cs,fr,h1,h2,h3,h4,h5⟩:=h
 refine ⟨cs,fr,h1,h2,h3,fun j v hj=>?_,h5⟩
 obtain ⟨u,hu,hv⟩:=h4 j v hj
 have hj':q.2.2[j]? = some v:=by
  have:=zcm q.2.1 q.2.2 j
  rw[← this];exact hj
 exact ⟨u,hu,zuy hv (hr v (List.mem_of_getElem? hj')) he⟩
theorem zpu {pl:PL}{p:Nat×Ob}(h:p∈rl pl):∃ q∈pl,p=(q.1,roO (pW q).2):=by
 obtain ⟨p',hp',rfl⟩:=List.mem_map.1 h
 obtain ⟨q,hq,rfl⟩:=List.mem_map.1 hp'
 exact ⟨q,hq,rfl⟩
theorem zuz {ns:List Nat}{pl:PL}{vl:List Value}(h:good ns pl vl=true):(∀ q∈pl,∀ v∈q.2.2,refs ns v=true)∧∀ v∈vl,refs ns v=true:=by
 unfold good at h
 rw[Bool.and_eq_true] at h
 refine ⟨fun q hq v hv=>?_,fun v hv=>List.all_eq_true.1 h.2 v hv⟩
 exact List.all_eq_true.1 (List.all_eq_true.1 h.1 q hq) v hv
structure Pl0 (E:En)(pl:PL)(n:Nat)(w:World)(far:Nat→Prop):Prop where
 fresh:∀ i,n≤i→E i=none
 ob:∀ q∈pl,∃ e,E q.1=some e∧ObR E w e (roO (pW q).2)∧¬ far e.blk
 inj:∀ q∈pl,∀ q'∈pl,∀ e e',E q.1=some e→E q'.1=some e'→e.blk=e'.blk→q.1=q'.1
theorem Pl0.st1 {E:En}{pl:PL}{n N:Nat}{w:World}{far:Nat→Prop}(h:Pl0 E pl n w far)(hN:n≤N):St1 E N (rl pl) w far:=by
 have hm:∀ i o,(lay N (rl pl) .empty).ob i=some o→∃ q∈pl,i=q.1∧o=roO (pW q).2:=fun i o hi=>by
  obtain ⟨q,hq,e⟩:=zpu (zec hi)
  injection e with e1 e2
  exact ⟨q,hq,e1,e2⟩
 refine ⟨⟨fun i hi=>h.fresh i (Nat.le_trans hN hi),fun i o hi=>?_,fun i j o o' e e' hi hj he he' hb=>?_⟩,fun p hp=>?_,fun i o e hi he=>?_⟩
 ·obtain ⟨q,hq,rfl,rfl⟩:=hm i o hi
  obtain ⟨e,h1,h2,_⟩:=h.ob q hq
  exact ⟨e,h1,h2⟩
 ·obtain ⟨q,hq,rfl,rfl⟩:=hm i o hi
  obtain ⟨q',hq',rfl,rfl⟩:=hm j o' hj
  exact h.inj q hq q' hq' e e' he he' hb
 ·obtain ⟨q,hq,rfl⟩:=zpu hp
  rfl
 ·obtain ⟨q,hq,rfl,rfl⟩:=hm i o hi
  obtain ⟨e',h1,_,h3⟩:=h.ob q hq
  rw[he] at h1
  injection h1 with h1
  rw[h1];exact h3
theorem pl_of {E':En}{h1:Hp}{w':World}(H:HR E' h1 w'){n:Nat}(hn:h1.next≤n){pl:PL}(hp:∀ q∈pl,∃ o',h1.ob q.1=some o'∧subOb (pW q).2 o'=true){far:Nat→Prop}(hfar:∀ q∈pl,∀ o e,h1.ob q.1=some o→E' q.1=some e→¬ far e.blk):Pl0 E' pl n w' far:=by
 refine ⟨fun i hi=>H.fresh i (Nat.le_trans hn hi),fun q hq=>?_,fun q hq q' hq' e e' he he' hb=>?_⟩
 ·obtain ⟨o',ho',hs⟩:=hp q hq
  obtain ⟨e,he,hob⟩:=H.obj _ _ ho'
  exact ⟨e,he,ObR.ro (zdf hs hob),hfar q hq o' e ho' he⟩
 ·obtain ⟨o1,h1',_⟩:=hp q hq
  obtain ⟨o2,h2',_⟩:=hp q' hq'
  exact H.inj _ _ o1 o2 e e' h1' h2' he he' hb
def IsP (pl:PL)(vl:List Value)(n:Nat)(w:World)(far:Nat→Prop)(cs:Array Value)(ng:Gb):Prop:=∃ E,Pl0 E pl n w far∧GOk ng E∧VR E (.agg ⟨vl⟩) (.agg cs)
noncomputable def knP (pl:PL)(vl:List Value)(n:Nat):Kn:=⟨0,[],0,[],.agg ⟨vl⟩,n,pl.map pW⟩
section
variable {pl:PL}{vl:List Value}{n:Nat}{w w':World}{far far' p:Nat→Prop}{cs:Array Value}{ng:Gb}
theorem IsP.isM (h:IsP pl vl n w far cs ng):IsM (knP pl vl n) w far cs ng:=by
 obtain ⟨E,h1,h2,h3⟩:=h
 exact ⟨E,h1.st1 (Nat.le_refl _),h2,h3⟩
theorem IsP.size (h:IsP pl vl n w far cs ng):cs.size=vl.length:=by
 obtain ⟨E,_,_,h3⟩:=h
 obtain ⟨la,e,hla⟩:=h3.agg_inv
 injection e with e
 subst e
 exact (F2.length hla).symm
def tys (pl:PL):Bool:=pl.all fun q => !(q.2.1 == 5 || q.2.1 == 157 || q.2.1 == 154 || q.2.1 == 240)
theorem IsP.stays (h:IsP pl vl n w far cs ng)(ht:tys pl=true)(ha:Alt w w' p)(hp:∀ k,k<w.heap.size→p k→far k∨Oc.TB w k)(hf:∀ k,k<w.heap.size→far' k→far k):IsP pl vl n w' far' cs ng:=by
 obtain ⟨E,h1,h2,h3⟩:=h
 refine ⟨E,⟨h1.fresh,fun q hq=>?_,h1.inj⟩,h2,h3⟩
 obtain ⟨e,he,ho,hno⟩:=h1.ob q hq
 refine ⟨e,he,ObR.kept ho (ha.block _ ho.lt (fun hpk=>?_)),fun h5=>hno (hf _ ho.lt h5)⟩
 rcases hp _ ho.lt hpk with h4|h4
 ·exact hno h4
 ·have ht':=List.all_eq_true.1 ht q hq
  obtain ⟨cs',fr,hh,_⟩:=ho
  rcases h4 with ⟨es,m,hm⟩|⟨cs2,t,fr2,hm,ht2⟩
  ·rw[hh] at hm;cases hm
  ·rw[hh] at hm
   injection hm with hm
   injection hm with _ hm
   have hm':q.2.1=t:=hm
   subst hm'
   rcases ht2 with h5|h5|h5|h5 <;> rw[h5] at ht' <;> simp at ht'
theorem IsP.alt (h:IsP pl vl n w far cs ng)(ha:Alt w w' p)(hp:∀ k,k<w.heap.size→p k→far k)(hf:∀ k,k<w.heap.size→far' k→far k):IsP pl vl n w' far' cs ng:=by
 obtain ⟨E,h1,h2,h3⟩:=h
 refine ⟨E,⟨h1.fresh,fun q hq=>?_,h1.inj⟩,h2,h3⟩
 obtain ⟨e,he,ho,hno⟩:=h1.ob q hq
 exact ⟨e,he,ObR.kept ho (ha.block _ ho.lt (fun hpk=>hno (hp _ ho.lt hpk))),fun h5=>hno (hf _ ho.lt h5)⟩
theorem IsP.below (h:IsP pl vl n w far cs ng)(hb:Below w.heap.size w w'):IsP pl vl n w' far cs ng:=h.alt (Oc.alt_of_below (p:=fun _=>False) hb) (fun _ _ h=>h.elim) (fun _ _ h=>h)
theorem IsP.resym {s':Nat→Value}(one:∀ n,(s' n).oneCell'=true)(g:good (nms pl) pl vl=true)(h:IsP pl vl n w far cs ng):IsP pl vl n w far cs ⟨ng.n,s'⟩:=by
 obtain ⟨E,h1,h2,h3⟩:=h
 obtain ⟨g1,g2⟩:=zuz g
 refine ⟨⟨E.f,s',one⟩,⟨h1.fresh,fun q hq=>?_,h1.inj⟩,⟨h2.1,rfl⟩,zpt h3 g2 fun _ _=>rfl⟩
 obtain ⟨e,he,ho,hno⟩:=h1.ob q hq
 exact ⟨e,he,zzy ho (g1 q hq) (fun _ _=>rfl),hno⟩
end
theorem zu0 {E:En}{vl:List Value}{cs:Array Value}(h:VR E (.agg ⟨vl⟩) (.agg cs))(h1:allB oneB vl=true):Oc.AllOne cs:=by
 obtain ⟨la,e,hla⟩:=h.agg_inv
 injection e with e
 subst e
 show (Array.all ⟨la⟩ _)=true
 rw[← Array.all_toList]
 exact List.all_eq_true.2 (zhm hla h1)
theorem IsP.ones {pl:PL}{vl:List Value}{n:Nat}{w:World}{far:Nat→Prop}{cs:Array Value}{ng:Gb}(h:IsP pl vl n w far cs ng)(h1:allB oneB vl=true):Oc.AllOne cs:=by
 obtain ⟨E,_,_,h3⟩:=h
 exact zu0 h3 h1
theorem zzz {x:X}(hx:x.Ok)(one:∀ n,(x.ng.s n).oneCell'=true){fuel:Nat}{c:Kn}(hr:runH x fuel c=true)(hn:x.ng.n≤c.n0)(hpre:c.pre=[]){a:Int}(hav:c.av=[.float .f64 0])(hs:x.ng.s 0 = .int .i64 a){pl:PL}{vl:List Value}(hv:c.v = .agg ⟨vl⟩)(hpost:c.post=pl.map pW)(hg:good (nms pl) pl vl=true)(w:World) :
  Calls x.P c.k #[.int .i64 a] w fun e w'=>∃ cs,e = .returned (.agg cs)∧IsP pl vl c.n1 w' (fun k=>k<w.heap.size) cs ⟨x.ng.n,noSym⟩∧Below w.heap.size w w':=by
 have H:=zzx one hn w (fun _=>False)
 rw[← hpre] at H
 refine (zkw hx hr H (GOk.zero _ _ one) (av':=[.int .i64 a]) (by rw[hav, ← hs];exact .cons (VR.sym (E:=En.zero x.ng.n x.ng.s one)) .nil)).mono ?_
 rintro e w' ⟨E',u,h1,rfl,hb,st,hu,hn1,hp,_⟩
 rw[hv] at hu
 obtain ⟨l',rfl,_⟩:=hu.agg_inv
 rw[hpre] at st
 refine ⟨_,rfl,IsP.resym zc3 hg ⟨E',pl_of st.hr (by rw[hn1];exact Nat.le_refl _) (fun q hq=>?_) (fun q hq o e hi he hlt=>?_),(GOk.zero _ _ one).mono st.le,hu⟩,hb⟩
 ·exact hp (pW q) (by rw[hpost];exact List.mem_map.2 ⟨q,hq,rfl⟩)
 ·have:=zob st (fun p hp=>by cases hp) hi he (fun p hp=>by cases hp)
  omega
theorem readP {x:X}(hx:x.Ok)(one:∀ n,(x.ng.s n).oneCell'=true){fuel:Nat}{d:Kn}(hr:runH x fuel d=true){ms:List Int}{b:Nat}(hb:x.ng.n≤b)(hn:b<d.n0){code:Nat}(hav:d.av=[.slice (some ⟨b,0,none⟩) ms.length code])(hpre:d.pre=[(b,roO (.row (newBk 5 (ms.map (Value.int .u8)))))])
  {pl:PL} {vl:List Value} (hv:d.v = .tuple ⟨[.agg ⟨vl⟩,.int .i64 0]⟩) (hpost:d.post=(b,roO (.row (newBk 5 (ms.map (Value.int .u8))))) :: pl.map pW) (hbn:(nms pl).all (fun i => !(Nat.beq i b))=true) (hl:vl.length=59) (h1:allB oneB vl=true)
  {W:World} {ad:Addr} {c m:Nat} (had:ad=⟨ad.block,ad.off,none⟩) {cur:Array Value} {fr:Nat×Nat} (hh:W.heap[ad.block]? = some (.cells cur 5 fr)) (hsz:cur.size=ad.off+m) (hm:ms.length≤m) (htk:(cur.toList.drop ad.off).take ms.length=ms.map (Value.int .u8)) (hcap:CapR ⟨ad.block,ad.off,m⟩ 0 code c) :
  Calls x.P d.k #[.slice (some ad) ms.length c] W fun e w'=>∃ cs:Array Value,e = .returned (.tuple #[.agg cs,.int .i64 0])∧cs.size=59∧Oc.AllOne cs∧IsP pl vl d.n1 w' (fun k=>k<W.heap.size) cs x.ng∧Below W.heap.size W w':=by
 have hself:=En.add_self (En.zero x.ng.n x.ng.s one) b ⟨ad.block,ad.off,m⟩
 have hle:(En.zero x.ng.n x.ng.s one).le ((En.zero x.ng.n x.ng.s one).add b ⟨ad.block,ad.off,m⟩):=En.le_add (if_neg (by omega))
 have hob1:∀ i o,(lay d.n0 d.pre .empty).ob i=some o→i=b∧o=roO (.row (newBk 5 (ms.map (Value.int .u8)))):=fun i o hi=>by
  have:=zec hi
  rw[hpre,List.mem_singleton] at this
  injection this with h1 h2
  exact ⟨h1,h2⟩
 have H:St1 ((En.zero x.ng.n x.ng.s one).add b ⟨ad.block,ad.off,m⟩) d.n0 d.pre W (fun _=>False):=by
  refine ⟨⟨fun i hi=>?_,fun i o hi=>?_,fun i j o o' e e' hi hj _ _ _=>?_⟩,fun p hp=>?_,fun _ _ _ _ _ h=>h⟩
  ·have hi':d.n0≤i:=hi
   rw[En.add_ne _ _ (by omega)]
   exact if_neg (by omega)
  ·obtain ⟨rfl,rfl⟩:=hob1 i o hi
   refine ⟨_,hself,cur,fr,hh,hsz,?_,fun j v hj=>?_,(fun h=>by cases h),(fun h=>by cases h)⟩
   ·show len (ms.map (Value.int .u8))≤m
    rw[za9,List.length_map];exact hm
   ·have hj':(ms.map (Value.int .u8))[j]? = some v:=by
     have:=zcm 5 (ms.map (Value.int .u8)) j
     rw[← this];exact hj
    have h3:=hj'
    rw[← htk,List.getElem?_take] at h3
    split at h3
    ·rw[List.getElem?_drop] at h3
     refine ⟨v,by simpa using h3,?_⟩
     rw[List.getElem?_map] at hj'
     obtain ⟨y,_,rfl⟩:=Option.map_eq_some_iff.1 hj'
     exact .plain rfl
    ·cases h3
  ·rw[(hob1 i o hi).1,(hob1 j o' hj).1]
  ·rw[hpre,List.mem_singleton] at hp
   subst hp;rfl
 have hG:GOk x.ng ((En.zero x.ng.n x.ng.s one).add b ⟨ad.block,ad.off,m⟩):=(GOk.zero _ _ one).mono hle
 have:=zkw hx hr H hG (av':=[.slice (some ad) ms.length c]) (by
  rw[hav]
  refine .cons ?_ .nil
  have:=VR.slice (E:=(En.zero x.ng.n x.ng.s one).add b ⟨ad.block,ad.off,m⟩) (b:=b) (o:=0) (n:=ms.length) hself hcap
  rw[had]
  simpa using this)
 refine this.mono ?_
 rintro e w' ⟨E',u,hp1,rfl,hbl,st,hu,hn1,hp,hpn⟩
 rw[hv] at hu
 obtain ⟨l',rfl,hl'⟩:=hu.tuple_inv
 obtain ⟨u0,hu0,hr0⟩:=F2.get hl' (i:=0) rfl
 obtain ⟨u1,hu1,hr1⟩:=F2.get hl' (i:=1) rfl
 have hlen:=F2.length hl'
 have hr0':=hr0
 obtain ⟨la,rfl,hla⟩:=hr0.agg_inv
 obtain rfl:u1 = .int .i64 0:=by cases hr1 with|plain _=>rfl
 obtain rfl:l'=[.agg ⟨la⟩,.int .i64 0]:=by
  match l',hlen,hu0,hu1 with
  | [a,b],_,h0,h1=>injection h0 with h0;injection h1 with h1;rw[h0,h1]
 refine ⟨⟨la⟩,rfl,?_,zu0 hr0' h1,⟨E',pl_of st.hr (by rw[hn1];exact Nat.le_refl _) (fun q hq=>?_) (fun q hq o e hi he hlt=>?_),hG.mono st.le,hr0'⟩,hbl⟩
 ·show la.length=59
  rw[← F2.length hla];exact hl
 ·exact hp (pW q) (by rw[hpost];exact List.mem_cons_of_mem _ (List.mem_map.2 ⟨q,hq,rfl⟩))
 ·have:=zob st (fun p hp'=>by
   obtain ⟨q',hq',e1⟩:=hpn p hp'
   obtain ⟨o2,ho2,_⟩:=hp q' hq'
   exact ⟨o2,by rw[← e1];exact ho2⟩) hi he (fun p hp' e2=>by
   rw[hpre,List.mem_singleton] at hp'
   subst hp'
   have h5:=List.all_eq_true.1 hbn q.1 (List.mem_map.2 ⟨q,hq,rfl⟩)
   have e2':q.1=b:=e2.symm
   rw[e2'] at h5
   simp at h5)
  omega
theorem zoc {x:X}(hx:x.Ok)(one:∀ n,(x.ng.s n).oneCell'=true)(hP:x.P=Tryz.prog){f1 f2:Nat}{d d2:Kn}(hr:runH x f1 d=true)(hr2:runH x f2 d2=true){ms:List Int}{b:Nat}(hb:x.ng.n≤b)(hn:b<d.n0)
  {pl:PL} {vl:List Value} (hk:d.k=35) (hav:d.av=[.slice (some ⟨b,0,none⟩) ms.length (ms.length*131072+3)]) (hpre:d.pre=[(b,roO (.row (newBk 5 (ms.map (Value.int .u8)))))]) (hv:d.v = .tuple ⟨[.agg ⟨vl⟩,.int .i64 0]⟩) (hpost:d.post=(b,roO (.row (newBk 5 (ms.map (Value.int .u8))))) :: pl.map pW)
  (hd2:d2={ d with av:=[.slice (some ⟨b,0,none⟩) ms.length (2*ms.length)] }) (hbn:(nms pl).all (fun i => !(Nat.beq i b))=true) (hl:vl.length=59) (h1:allB oneB vl=true) :
  Oc.ReadIs ms (fun W W' cs=>IsP pl vl d.n1 W' (fun k=>k<W.heap.size) cs x.ng):=by
 intro W ad c hrow hpos
 obtain ⟨had,cur,fr,hh,hsz,htk,hc⟩:=hrow
 rw[← hP, ← hk]
 rcases hc with hc|hc
 ·subst hc
  have:=readP hx one hr2 (ms:=ms) (b:=b) hb (by rw[hd2];exact hn) (code:=2*ms.length) (by rw[hd2]) (by rw[hd2];exact hpre) (by rw[hd2];exact hv) (by rw[hd2];exact hpost) hbn hl h1 (c:=ms.length) (m:=cur.size - ad.off) had hh (by omega) (by omega) htk (Or.inl ⟨by omega,by omega⟩)
  rw[hd2] at this
  exact this
 ·exact readP hx one hr (ms:=ms) (b:=b) hb hn hav hpre hv hpost hbn hl h1 (c:=c) (m:=c) had hh hc (by omega) htk (Or.inr ⟨by omega,by omega,by have h1:(ms.length*131072+3) / 2 % 65536=1:=(by omega);rw[h1];show 0+c*1=c;omega,by omega⟩)
def sN (a0:Int):Nat→Value:=fun i=>match i with
 | 0 => .int .i64 a0
 |_ => .bool false
theorem zu1 (a0:Int)(n:Nat):(sN a0 n).oneCell'=true:=by unfold sN;split <;> rfl
theorem zkx {ng:Nat}(a v:Int)(hv:a % 8=v):OrcOk Tryz.prog ⟨ng,sN a⟩ (orcP 4 [.float .f64 0,.int .i64 8] (.int .i64 v)):=by
 refine zsn rfl (u0 := .int .i64 v) (fun E _ => .plain rfl) (fun W=>?_)
 show Calls Tryz.prog 4 #[.int .i64 a,.int .i64 8] W _
 refine (Oc.pick_any a 8 W (by decide) (by decide)).mono ?_
 rintro e w' ⟨rfl,rfl⟩
 exact ⟨by rw[hv],Below.refl _ _⟩
theorem zjm {x:X}(hx:x.Ok)(hP:x.P=Tryz.prog){fuel k:Nat}{d:Kn}(hr:runH x fuel d=true){pm:PL}{vm:List Value}{nm:Nat}(dk:d.k=k)(dn:nm≤d.n0)(dpre:d.pre=rl pm)(dav:d.av=[.agg ⟨vm⟩]){r:Int}(dv:d.v = .int .i64 r)(w:World)(far:Nat→Prop)(cs:Array Value)(h:IsP pm vm nm w far cs x.ng) :
  Calls Tryz.prog k #[.agg cs] w fun e w'=>e = .returned (.int .i64 r)∧Below w.heap.size w w':=by
 have:=zuw hx hr (c:=knP pm vm nm) dn dpre dav dv h.isM
 rw[hP,dk] at this
 exact this
end Go.Proofs.YtemgclnkgieldaaGreatDoor.Md
