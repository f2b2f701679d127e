/- The plain shelf with what it keeps; Find. -/
import Derived.Test.YtmejdkniafjncaaGreatDoorNg
import Derived.Deep.RegionHeldLaw
set_option maxHeartbeats 1000000
set_option maxRecDepth 100000
namespace Go.Proofs.YtmejdkniafjncaaGreatDoor.Oc
open Go Go.RowKit Dk
structure Tr where
 v:Nat
 ms:List Int
 cs:Array Value
structure Pe where
 o:On
 ts:List Tr
def Pe.s (p:Pe):Sh:=⟨p.o.name,p.o.next,p.o.live,p.ts.map fun t=>(t.v,t.ms)⟩
def Pe.own (p:Pe)(k:Nat):Prop:=p.o.vv.ownBlock=some k∨p.o.mv.ownBlock=some k
def versT (ts:List Tr):List Int:=ts.map fun t=>(t.v:Int)
def flatT (ts:List Tr):List Value:=(ts.map fun t=>t.cs.toList).flatten
abbrev PMod:=World→(Nat→Prop)→List Int→Array Value→Prop
def Stays (PM:PMod):Prop:=∀ (w w':World) (far far' p:Nat→Prop) (ms:List Int) (cs:Array Value),PM w far ms cs→Alt w w' p→(∀ k,k<w.heap.size→p k→far k∨TB w k)→(∀ k,k<w.heap.size→far' k→far k)→PM w' far' ms cs
structure PeOk (PM:PMod)(w:World)(B:Nat)(far:Nat→Prop)(p:Pe):Prop where
 n:p.o.vn=p.ts.length
 vr:IntRow w B p.o.vv (versT p.ts)
 mr:w.ownsRow B 88 59 p.o.mv p.ts.length (flatT p.ts)
 md:∀ t∈p.ts,t.cs.size=59∧AllOne t.cs∧PM w far t.ms t.cs
structure Ps (PM:PMod)(w:World)(B:Nat)(far:Nat→Prop)(v:Value)(ps:List Pe):Prop where
 row:OnRow w B v (ps.map Pe.o)
 each:∀ p∈ps,PeOk PM w B far p
 ap:ps.Pairwise fun p q=>∀ k,p.own k→¬ q.own k
 fo:∀ k,v.ownBlock=some k→far k
 fp:∀ p∈ps,∀ k,p.own k→far k
def Small (ps:List Pe):Prop:=ps.length≤1000∧∀ p∈ps,p.o.next≤100000∧p.o.live≤100000∧p.ts.length≤1000
theorem zkt {a b:ByteArray}:(a.toList == b.toList)=decide (a=b):=by
 by_cases h:a=b
 ·rw[decide_eq_true h,h];simp
 ·rw[decide_eq_false h,beq_eq_false_iff_ne]
  exact fun e=>h (zjk e)
theorem zmi (name:ByteArray):∀ ps:List Pe,(fndC (ps.map Pe.s) name=none∧fndO (ps.map Pe.o) name=none)∨∃ (j:Nat) (p:Pe),ps[j]? = some p∧fndC (ps.map Pe.s) name=some p.s∧fndO (ps.map Pe.o) name=some p.o∧p.o.name=name∧∀ i,atL (ps.map Pe.o) name i=((i+j:Nat):Int)
 | [] => .inl ⟨rfl,rfl⟩
 |p :: ps=>by
  by_cases h:p.o.name=name
  ·refine .inr ⟨0,p,rfl,?_,?_,h,fun i=>?_⟩
   ·unfold fndC;rw[List.map_cons,List.find?_cons,show decide (p.s.name=name)=true from decide_eq_true h]
   ·unfold fndO;rw[List.map_cons,List.find?_cons,zkt,decide_eq_true h]
   ·rw[List.map_cons,atL,if_pos (by rw[zkt];exact decide_eq_true h)];rfl
  ·have e1:fndC ((p :: ps).map Pe.s) name=fndC (ps.map Pe.s) name:=by unfold fndC;rw[List.map_cons,List.find?_cons,show decide (p.s.name=name)=false from decide_eq_false h]
   have e2:fndO ((p :: ps).map Pe.o) name=fndO (ps.map Pe.o) name:=by unfold fndO;rw[List.map_cons,List.find?_cons,zkt,decide_eq_false h]
   rw[e1,e2]
   rcases zmi name ps with ⟨h1,h2⟩|⟨j,q,h1,h2,h3,h4,h5⟩
   ·exact .inl ⟨h1,h2⟩
   ·refine .inr ⟨j+1,q,h1,h2,h3,h4,fun i=>?_⟩
    rw[List.map_cons,atL,if_neg (by rw[zkt,decide_eq_false h];decide),h5]
    congr 1;omega
theorem zjp {n:Int}:∀ {zs:List Int} {i:Nat},(∀ z∈zs,z≠n)→placeL zs n i = -1
 | [],_,_=>rfl
 |z :: zs,i,h=>by
  rw[placeL,if_neg (h z (List.mem_cons_self ..))]
  exact zjp fun z hz=>h z (List.mem_cons_of_mem _ hz)
theorem zjq (n:Nat):∀ {ts:List Tr} {i:Nat},(∃ t∈ts,t.v=n)→∃ (k:Nat) (t:Tr),ts[k]? = some t∧t.v=n∧placeL (versT ts) (n:Int) i=((i+k:Nat):Int)
 | [],_,h=>by obtain ⟨t,ht,_⟩:=h;cases ht
 |t :: ts,i,h=>by
  by_cases e:t.v=n
  ·exact ⟨0,t,rfl,e,by unfold versT;rw[List.map_cons,placeL,if_pos (by omega)];rfl⟩
  ·obtain ⟨k,t',h1,h2,h3⟩:=zjq n (ts:=ts) (i:=i+1) (by
    obtain ⟨t',ht',e'⟩:=h
    rcases List.mem_cons.1 ht' with rfl|h'
    ·exact absurd e' e
    ·exact ⟨t',h',e'⟩)
   refine ⟨k+1,t',h1,h2,?_⟩
   unfold versT at h3 ⊢
   rw[List.map_cons,placeL,if_neg (by omega),h3]
   congr 1;omega
theorem za7 {ps:List Pe}{j:Nat}{p:Pe}(h:ps[j]? = some p):p∈ps:=by
 obtain ⟨hj,e⟩:=List.getElem?_eq_some_iff.1 h
 rw[← e];exact List.getElem_mem hj
theorem ztc (p:Pe)(v:Nat):hasV p.s v=true↔∃ t∈p.ts,t.v=v:=by
 unfold hasV Pe.s
 rw[List.any_map,List.any_eq_true]
 constructor
 ·rintro ⟨t,ht,e⟩
  exact ⟨t,ht,by simpa using e⟩
 ·rintro ⟨t,ht,e⟩
  exact ⟨t,ht,by simpa using e⟩
theorem zbn {PM:PMod}{w:World}{B:Nat}{far:Nat→Prop}{v:Value}{ps:List Pe}(h:Ps PM w B far v ps):∃ A c,v = .slice A ps.length c:=by
 have h0:=h.row
 unfold OnRow at h0
 rw[List.length_map] at h0
 rcases h0.2 with ⟨rfl,hn⟩|⟨g,cap,cur,rfl,_⟩
 ·exact ⟨none,0,by rw[hn]⟩
 ·exact ⟨_,_,rfl⟩
theorem ztd {PM:PMod}{w:World}{B:Nat}{far:Nat→Prop}{v:Value}{ps:List Pe}(h:Ps PM w B far v ps)(hs:Small ps)(name:ByteArray)(ver:Nat) :
  Calls Tryz.prog 50 #[.agg #[v],.string name,.int .i64 (ver:Int)] w fun e w'=>((refC (ps.map Pe.s) 2 name ver≠0∧e = .returned (.tuple #[.int .i64 0,.int .i64 0,.int .i64 (refC (ps.map Pe.s) 2 name ver)]))∨(refC (ps.map Pe.s) 2 name ver=0∧∃ (j k:Nat) (p:Pe) (t:Tr),ps[j]? = some p∧p.ts[k]? = some t∧t.v=ver∧fndC (ps.map Pe.s) name=some p.s∧p.o.name=name∧e = .returned (.tuple #[.int .i64 (j:Int),.int .i64 (k:Int),.int .i64 0])))∧Below w.heap.size w w':=by
 obtain ⟨A,c,rfl⟩:=zbn h
 have hl:(ps.map Pe.o).length≤100000:=by rw[List.length_map];have:=hs.1;omega
 rcases zmi name ps with ⟨h1,h2⟩|⟨j,p,h1,h2,h3,h4,h5⟩
 ·have hr:refC (ps.map Pe.s) 2 name ver=11:=by unfold refC;rw[h1]
  refine (zta h.row hl name (ver:Int) h2).mono ?_
  rintro e w' ⟨rfl,hb⟩
  exact ⟨.inl ⟨by rw[hr];decide,by rw[hr]⟩,hb⟩
 ·have hp:=za7 h1
  have hk:=h.each p hp
  have hvl:p.s.vs.length=p.ts.length:=List.length_map _
  rcases Nat.eq_zero_or_pos p.ts.length with h0|h0
  ·have hr:refC (ps.map Pe.s) 2 name ver=11:=by unfold refC;rw[h2];simp only;rw[if_pos (by rw[hvl];exact h0)]
   refine (zql h.row hl name (ver:Int) h3 (by rw[hk.n];exact h0)).mono ?_
   rintro e w' ⟨rfl,hb⟩
   exact ⟨.inl ⟨by rw[hr];decide,by rw[hr]⟩,hb⟩
  ·refine (ztb h.row hl name (ver:Int) h3 hk.vr (by rw[hk.n];exact h0) (by unfold versT;rw[List.length_map];have:=(hs.2 p hp).2.2;omega)).mono ?_
   rintro e w' ⟨⟨j',hj',he',ha',rfl⟩,hb⟩
   have hjj:j'=j:=by have:=h5 0;rw[ha'] at this;omega
   subst hjj
   refine ⟨?_,hb⟩
   cases hh:hasV p.s ver with
   |false =>
    have hr:refC (ps.map Pe.s) 2 name ver=16:=by unfold refC;rw[h2];simp only;rw[if_neg (by rw[hvl];omega),if_pos hh]
    have hpl:placeL (versT p.ts) (ver:Int) 0 = -1:=zjp fun z hz e=>by
     obtain ⟨t,ht,rfl⟩:=List.mem_map.1 hz
     have:hasV p.s ver=true:=(ztc p ver).2 ⟨t,ht,by omega⟩
     rw[hh] at this;cases this
    rw[hpl,if_pos (by decide)]
    exact .inl ⟨by rw[hr];decide,by rw[hr]⟩
   |true =>
    have hr:refC (ps.map Pe.s) 2 name ver=0:=by unfold refC;rw[h2];simp only;rw[if_neg (by rw[hvl];omega),if_neg (by rw[hh];decide),if_neg (by rintro ⟨e,_⟩;cases e)]
    obtain ⟨k,t,k1,k2,k3⟩:=zjq ver (i:=0) ((ztc p ver).1 hh)
    rw[k3,if_neg (by omega)]
    exact .inr ⟨hr,j',k,p,t,h1,k1,k2,h2,h4,by simp⟩
theorem zny {PM:PMod}{w:World}{B:Nat}{far:Nat→Prop}{v:Value}{ps:List Pe}(h:Ps PM w B far v ps)(hs:Small ps)(name:ByteArray)(ver:Nat)(hr:refC (ps.map Pe.s) 2 name ver=0) :
  Calls Tryz.prog 50 #[.agg #[v],.string name,.int .i64 (ver:Int)] w fun e w'=>(∃ (j k:Nat) (p:Pe) (t:Tr),ps[j]? = some p∧p.ts[k]? = some t∧t.v=ver∧fndC (ps.map Pe.s) name=some p.s∧p.o.name=name∧e = .returned (.tuple #[.int .i64 (j:Int),.int .i64 (k:Int),.int .i64 0]))∧Below w.heap.size w w':=by
 refine (ztd h hs name ver).mono ?_
 rintro e w' ⟨hd,hb⟩
 rcases hd with ⟨hd1,_⟩|⟨_,hd⟩
 ·exact absurd hr hd1
 ·exact ⟨hd,hb⟩
theorem zte {PM:PMod}{w:World}{B:Nat}{far:Nat→Prop}{v:Value}{ps:List Pe}(h:Ps PM w B far v ps)(hs:Small ps)(name:ByteArray)(ver:Nat)(hr:refC (ps.map Pe.s) 2 name ver≠0) :
  Calls Tryz.prog 50 #[.agg #[v],.string name,.int .i64 (ver:Int)] w fun e w'=>e = .returned (.tuple #[.int .i64 0,.int .i64 0,.int .i64 (refC (ps.map Pe.s) 2 name ver)])∧Below w.heap.size w w':=by
 refine (ztd h hs name ver).mono ?_
 rintro e w' ⟨hd,hb⟩
 rcases hd with ⟨_,hd⟩|⟨hd1,_⟩
 ·exact ⟨hd,hb⟩
 ·exact absurd hd1 hr
theorem zan {w w':World}{base n size:Nat}{e:TypeId}{v:Value}{xs:List Value}{p:Nat→Prop}(h:w.ownsRow base e size v n xs)(ha:Alt w w' p)(hp:∀ g,v.ownBlock=some g→¬ p g):w'.ownsRow base e size v n xs:=by
 refine ⟨h.1,?_⟩
 rcases h.2 with h0|⟨g,cap,cur,rfl,h1,h2,h3⟩
 ·exact .inl h0
 ·exact .inr ⟨g,cap,cur,rfl,h1,(ha.block g (lt_of_block h2) (hp g rfl)).trans h2,h3⟩
theorem zax {w w':World}{base n size:Nat}{e:TypeId}{v:Value}{xs:List Value}(h:w.ownsRow base e size v n xs)(hb:Below w.heap.size w w'):w'.ownsRow base e size v n xs:=zan h (alt_of_below (p:=fun _=>False) hb) (fun _ _ h=>h)
def So (gp:Nat)(v:Value)(ps:List Pe)(k:Nat):Prop:=k=gp∨v.ownBlock=some k∨∃ p∈ps,p.own k
structure SP (PM:PMod)(w:World)(B:Nat)(far:Nat→Prop)(gp:Nat)(v:Value)(ps:List Pe):Prop where
 pt:Blk w gp 34 #[v]
 ps:Ps PM w B far v ps
 bg:B≤gp
 fg:far gp
theorem PeOk.below {PM:PMod}(hst:Stays PM){w w':World}{B:Nat}{far:Nat→Prop}{p:Pe}(h:PeOk PM w B far p)(hb:Below w.heap.size w w'):PeOk PM w' B far p :=
 ⟨h.n,h.vr.below hb,zax h.mr hb,fun t ht=>by
  obtain ⟨h1,h2,h3⟩:=h.md t ht
  exact ⟨h1,h2,hst _ _ _ _ _ _ _ h3 (alt_of_below (p:=fun _=>False) hb) (fun _ _ h=>h.elim) (fun _ _ h=>h)⟩⟩
theorem OnRow.below {w w':World}{B:Nat}{v:Value}{os:List On}(h:OnRow w B v os)(hb:Below w.heap.size w w'):OnRow w' B v os:=zax h hb
theorem Ps.below {PM:PMod}(hst:Stays PM){w w':World}{B:Nat}{far:Nat→Prop}{v:Value}{ps:List Pe}(h:Ps PM w B far v ps)(hb:Below w.heap.size w w'):Ps PM w' B far v ps :=
 ⟨h.row.below hb,fun p hp=>(h.each p hp).below hst hb,h.ap,h.fo,h.fp⟩
theorem SP.below {PM:PMod}(hst:Stays PM){w w':World}{B gp:Nat}{far:Nat→Prop}{v:Value}{ps:List Pe}(h:SP PM w B far gp v ps)(hb:Below w.heap.size w w'):SP PM w' B far gp v ps :=
 ⟨zac h.pt hb,h.ps.below hst hb,h.bg,h.fg⟩
theorem zie {name:ByteArray}{s':Sh}:∀ {C:Con} {j:Nat} {s:Sh},(C.map Sh.name).Nodup→C[j]? = some s→s.name=name→updC C name s'=C.set j s'
 | [],j,s,_,h,_=>by cases h
 |x :: C,0,s,hn,h,e=>by
  injection h with h
  subst h
  rw[List.map_cons,List.nodup_cons] at hn
  have:updC C name s'=C:=by
   unfold updC
   conv=>rhs;rw[← List.map_id C]
   refine List.map_congr_left fun y hy=>?_
   rw[if_neg];rfl
   intro e2
   exact hn.1 (List.mem_map.2 ⟨y,hy,by rw[e2,e]⟩)
  show (if x.name=name then s' else x) :: updC C name s'=_
  rw[if_pos e,this];rfl
 |x :: C,j+1,s,hn,h,e=>by
  rw[List.map_cons,List.nodup_cons] at hn
  have hs:s∈C:=by
   obtain ⟨hj,e2⟩:=List.getElem?_eq_some_iff.1 (show C[j]? = some s from h)
   rw[← e2];exact List.getElem_mem hj
  have hx:x.name≠name:=fun e2=>hn.1 (List.mem_map.2 ⟨s,hs,by rw[e,e2]⟩)
  show (if x.name=name then s' else x) :: updC C name s'=_
  rw[if_neg hx,zie hn.2 (show C[j]? = some s from h) e];rfl
def liveP (p:Pe)(v:Nat):Pe:={ p with o:={ p.o with live:=v } }
theorem zcm {w:World}{B Bv t n:Nat}{sz:Nat}{v u:Value}{os:List On}{xs:List Value}(h:OnRow w B v os)(hu:w.ownsRow Bv t sz u n xs)(hne:102≠t):∀ k,v.ownBlock=some k→u.ownBlock≠some k:=by
 intro k hk
 rcases h.2 with ⟨rfl,_⟩|⟨g',cap,cur,rfl,_,hh,_⟩
 ·cases hk
 ·have:g'=k:=by simpa [Value.ownBlock] using hk
  subst this
  rcases hu.2 with ⟨rfl,_⟩|⟨g2,cap2,cur2,rfl,_,hh2,_⟩
  ·simp[Value.ownBlock]
  ·intro he
   have:g2=g':=by simpa [Value.ownBlock] using he
   subst this
   rw[hh] at hh2
   injection hh2 with hh2
   injection hh2 with _ ht
   exact hne ht
theorem PeOk.alt {PM:PMod}(hst:Stays PM){w w':World}{B:Nat}{far far' q:Nat→Prop}{p:Pe}(h:PeOk PM w B far p)(ha:Alt w w' q)(hq:∀ k,k<w.heap.size→q k→far k∨TB w k)(hno:∀ k,p.own k→¬ q k)(hf:∀ k,k<w.heap.size→far' k→far k):PeOk PM w' B far' p:=by
 refine ⟨h.n,?_,zan h.mr ha (fun g hg=>hno g (.inr hg)),fun t ht=>?_⟩
 ·exact zan h.vr ha (fun g hg=>hno g (.inl hg))
 ·obtain ⟨h1,h2,h3⟩:=h.md t ht
  exact ⟨h1,h2,hst _ _ _ _ _ _ _ h3 ha hq hf⟩
theorem zbx {w:World}{B g:Nat}{t:TypeId}{cs:Array Value}{v:Value}{os:List On}(h:OnRow w B v os)(hg:Blk w g t cs)(hne:102≠t):¬ v.ownBlock=some g:=by
 intro hk
 rcases h.2 with ⟨rfl,_⟩|⟨g',cap,cur,rfl,_,hh,_⟩
 ·cases hk
 ·have:g'=g:=by simpa [Value.ownBlock] using hk
  subst this
  exact Blk.ne_ (show Blk w g' 102 cur from hh) hg hne rfl
theorem zao {w:World}{B g n sz:Nat}{t t':TypeId}{cs:Array Value}{v:Value}{xs:List Value}(h:w.ownsRow B t' sz v n xs)(hg:Blk w g t cs)(hne:t'≠t):¬ v.ownBlock=some g:=by
 intro hk
 rcases h.2 with ⟨rfl,_⟩|⟨g',cap,cur,rfl,_,hh,_⟩
 ·cases hk
 ·have:g'=g:=by simpa [Value.ownBlock] using hk
  subst this
  exact Blk.ne_ (show Blk w g' t' cur from hh) hg hne rfl
theorem Ps.set {PM:PMod}(hst:Stays PM){w:World}{B g n c:Nat}{far:Nat→Prop}{ps:List Pe}(h:Ps PM w B far (.slice (some ⟨g,0,none⟩) n c) ps){j t:Nat}{p p':Pe}(hj:ps[j]? = some p)(ht:t<5){u:Value}(he:cellsO p'.o=(cellsO p.o).set t u)(hown:∀ k,p'.own k→p.own k)(hok:∀ W,PeOk PM W B far p→PeOk PM W B far p') :
  Ps PM (w.setCell ⟨g,j*5+t,none⟩ u) B far (.slice (some ⟨g,0,none⟩) n c) (ps.set j p'):=by
 obtain ⟨hjl,hje⟩:=List.getElem?_eq_some_iff.1 hj
 have ha:Alt w (w.setCell ⟨g,j*5+t,none⟩ u) (fun k=>k=g):=(Alt.refl w (fun k=>k=g)).set_ (a:=⟨g,j*5+t,none⟩) rfl u
 have hgf:far g:=h.fo g rfl
 have hrow:OnRow (w.setCell ⟨g,j*5+t,none⟩ u) B (.slice (some ⟨g,0,none⟩) n c) ((ps.map Pe.o).set j p'.o):=OnRow.set h.row (by rw[List.length_map];exact hjl) ht (by rw[List.getElem_map,hje];exact he)
 have hno:∀ q∈ps,∀ k,q.own k→¬ k=g:=by
  rintro q hq k (hk|hk) rfl
  ·exact zcm h.row (h.each q hq).vr (by decide) k rfl hk
  ·exact zcm h.row (h.each q hq).mr (by decide) k rfl hk
 have hold:∀ q∈ps,PeOk PM (w.setCell ⟨g,j*5+t,none⟩ u) B far q:=fun q hq=>(h.each q hq).alt hst ha (fun k _ e => .inl (by rw[e];exact hgf)) (hno q hq) (fun _ _ h=>h)
 refine ⟨by rw[List.map_set];exact hrow,fun q hq=>?_,?_,h.fo,fun q hq k hk=>?_⟩
 ·rcases List.mem_or_eq_of_mem_set hq with hq|rfl
  ·exact hold q hq
  ·exact hok _ (hold p (za7 hj))
 ·rw[List.pairwise_iff_getElem]
  have h0:=List.pairwise_iff_getElem.1 h.ap
  intro a b ha' hb' hab k
  rw[List.length_set] at ha' hb'
  rw[List.getElem_set,List.getElem_set]
  split
  ·next e1 =>
   subst e1
   rw[if_neg (by omega)]
   intro hk
   have:=h0 _ _ ha' hb' hab k
   rw[hje] at this
   exact this (hown k hk)
  ·split
   ·next _ e2 =>
    subst e2
    intro hk hk2
    have:=h0 _ _ ha' hb' hab k hk
    rw[hje] at this
    exact this (hown k hk2)
   ·exact h0 _ _ ha' hb' hab k
 ·rcases List.mem_or_eq_of_mem_set hq with hq|rfl
  ·exact h.fp q hq k hk
  ·exact h.fp p (za7 hj) k (hown k hk)
theorem Ps.live {PM:PMod}{w:World}{B n c:Nat}{A:Option Addr}{far:Nat→Prop}{ps:List Pe}(h:Ps PM w B far (.slice A n c) ps){j:Nat}{p:Pe}(hj:ps[j]? = some p):∃ g,A=some ⟨g,0,none⟩∧(∀ t u,t<5→(cellsO p.o)[t]? = some u→w.cell? ⟨g,j*5+t,none⟩=some u)∧(∀ i,w.frozen? ⟨g,i,none⟩=false)∧B≤g:=by
 obtain ⟨hjl,hje⟩:=List.getElem?_eq_some_iff.1 hj
 have hjl':j<(ps.map Pe.o).length:=by rw[List.length_map];exact hjl
 have h0:=h.row
 have hn:n=(ps.map Pe.o).length:=by
  rcases h0.2 with ⟨e,h0⟩|⟨g,cap,cur,e,_⟩
  ·injection e with _ e2 _
   omega
  ·injection e with _ e2 _
 subst hn
 obtain ⟨g,rfl,hB,hg,hc⟩:=OnRow.cell h0 hjl'
 refine ⟨g,rfl,fun t u ht hu=>hc w (fun _=>False) (Alt.refl _ _) (fun h=>h) t u ht (by rw[List.getElem_map,hje];exact hu),fun i=>?_,hB⟩
 rcases h0.2 with ⟨e,_⟩|⟨g',cap,cur,e,_,hh,_⟩
 ·cases e
 ·injection e with e1
  injection e1 with e1
  injection e1 with e1
  subst e1
  exact Blk.frozen (show Blk w g 102 cur from hh) i
theorem zqm {PM:PMod}(hst:Stays PM){w:World}{B gp:Nat}{far:Nat→Prop}{v:Value}{ps:List Pe}(h:SP PM w B far gp v ps)(hs:Small ps)(hnd:((ps.map Pe.s).map Sh.name).Nodup)(name:ByteArray)(ver:Nat){r:Int}(hr:refC (ps.map Pe.s) 2 name ver=r) :
  Calls Tryz.prog 22 #[.pointer (some ⟨gp,0,none⟩),.string name,.int .i64 (ver:Int)] w fun e w'=>e = .returned (.int .i64 r)∧∃ ps',SP PM w' B far gp v ps'∧ps'.map Pe.s=stepK (ps.map Pe.s) ⟨2,name,ver,[]⟩∧(∀ k,So gp v ps' k→So gp v ps k)∧Alt w w' (So gp v ps):=by
 obtain ⟨A,c,rfl⟩:=zbn h.ps
 have HP:=hid h
 have HS:=hid hs
 have HND:=hid hnd
 have HF:=hid (zny h.ps hs name ver)
 have HG:=hid (zte h.ps hs name ver)
 have c0:w.cell? ⟨gp,0,none⟩=some (.slice A ps.length c):=h.pt.cell 0
 clear h hs hnd
 by_cases hr0:r=0
 ·subst hr0
  have HR:=hid hr
  clear hr HG
  go_enter Tryz.func22,Tryz.ntmps22
  go_wp2_with (first
   |(go_at_call 50;refine (HF.out HR.out).mono ?_;rintro e w2 ⟨⟨j,k,p,t,hj,hk,htv,hfn,hnm,rfl⟩,hb⟩;have HP2:=hid (HP.out.below hst hb);obtain ⟨g,rfl,hgc,hgf,hgb⟩:=HP2.out.ps.live hj;have q2:=hgc 2 _ (by decide) rfl;have hjn:(j:Int)<(ps.length:Int):=(by have:=(List.getElem?_eq_some_iff.1 hj).1;omega);have c2:w2.cell? ⟨gp,0,none⟩=some (.slice (some ⟨g,0,none⟩) ps.length c):=HP2.out.pt.cell 0;have HB:=hid hb;have HJ:=hid hj;have HFN:=hid hfn;have HNM:=hid hnm;clear hb hj hk htv hfn hnm))
  go_ret
  have hpt:=HP2.out.pt
  refine ⟨rfl,ps.set j (liveP p ver),⟨hpt.far (p:=⟨g,j*5+2,none⟩) (fun e=>?_) _,HP2.out.ps.set hst HJ.out (by decide) (On.set_live p.o ver) (fun _ h=>h) (fun W h=>⟨h.n,h.vr,h.mr,h.md⟩),HP2.out.bg,HP2.out.fg⟩,?_,?_,?_⟩
  ·exact zbx HP2.out.ps.row hpt (by decide) (by rw[show gp=g from e];rfl)
  ·unfold stepK
   rw[if_pos HR.out]
   unfold pfC
   rw[if_neg (show ¬ (2:Int)=1 by decide),HFN.out,List.map_set]
   simp only
   rw[if_pos trivial]
   exact (zie HND.out (by rw[List.getElem?_map,HJ.out];rfl) HNM.out).symm
  ·rintro k (e|e|⟨q,hq,e⟩)
   ·exact .inl e
   ·exact .inr (.inl e)
   ·rcases List.mem_or_eq_of_mem_set hq with hq|rfl
    ·exact .inr (.inr ⟨q,hq,e⟩)
    ·exact .inr (.inr ⟨p,za7 HJ.out,e⟩)
  ·exact (alt_of_below HB.out).set_ (.inr (.inl rfl)) _
 ·have HR:=hid hr
  have HN0:=hid hr0
  have hr1:(r == 0)=false:=by simpa using hr0
  have HG2:=hid (HG.out (by rw[hr];exact hr0))
  rw[hr] at HG2
  clear hr HF HG hr0
  go_enter Tryz.func22,Tryz.ntmps22
  go_wp2_with (first
   |(go_at_call 50;refine HG2.out.mono ?_;rintro e w2 ⟨rfl,hb⟩;have HB:=hid hb;clear hb))
  go_ret
  refine ⟨rfl,ps,HP.out.below hst HB.out,?_,fun _ h=>h,alt_of_below HB.out⟩
  unfold stepK
  rw[if_neg (by have h1:=HN0.out;have h2:=HR.out;rw[h2];exact h1)]
theorem zw7 {C:Con}{name:ByteArray}{ver:Nat}(h:refC C 2 name ver≠0):refC C 3 name ver=refC C 2 name ver:=by
 unfold refC at h ⊢
 split
 ·rfl
 ·next s hs =>
  rw[hs] at h
  simp only at h
  split
  ·rfl
  ·next h1 =>
   rw[if_neg h1] at h
   split
   ·rfl
   ·next h2 =>
    rw[if_neg h2,if_neg (by rintro ⟨e,_⟩;cases e)] at h
    exact absurd rfl h
theorem ztf {C:Con}{name:ByteArray}{ver:Nat}{s:Sh}(h:refC C 2 name ver=0)(hs:fndC C name=some s):refC C 3 name ver=if ver=s.live∧1<s.vs.length then 17 else 0:=by
 unfold refC at h ⊢
 rw[hs] at h ⊢
 simp only at h ⊢
 split
 ·next h1=>rw[if_pos h1] at h;cases h
 ·next h1 =>
  rw[if_neg h1] at h
  split
  ·next h2=>rw[if_pos h2] at h;cases h
  ·by_cases h3:ver=s.live∧1<s.vs.length
   ·rw[if_pos h3,if_pos ⟨trivial,h3⟩]
   ·rw[if_neg h3,if_neg (fun h4=>h3 h4.2)]
section
variable {PM:PMod}(hst:Stays PM){w:World}{B gp:Nat}{far:Nat→Prop}{v:Value}{ps:List Pe}
theorem zu5 (h:SP PM w B far gp v ps)(hs:Small ps)(name:ByteArray)(ver:Nat){r:Int}(hr:refC (ps.map Pe.s) 2 name ver=r)(hr0:r≠0) :
  Calls Tryz.prog 23 #[.pointer (some ⟨gp,0,none⟩),.string name,.int .i64 (ver:Int)] w fun e w'=>e = .returned (.int .i64 r)∧Below w.heap.size w w':=by
 obtain ⟨A,c,rfl⟩:=zbn h.ps
 have hr1:(r == 0)=false:=by simpa using hr0
 have HG:=hid (zte h.ps hs name ver (by rw[hr];exact hr0))
 rw[hr] at HG
 have c0:w.cell? ⟨gp,0,none⟩=some (.slice A ps.length c):=h.pt.cell 0
 clear h hs hr hr0
 go_enter Tryz.func23,Tryz.ntmps23
 go_wp2_with (first
  |(go_at_call 50;refine HG.out.mono ?_;rintro e w2 ⟨rfl,hb⟩;have HB:=hid hb;clear hb))
 go_ret
 exact ⟨rfl,HB.out⟩
include hst in
theorem zqn (h:SP PM w B far gp v ps)(hs:Small ps)(name:ByteArray)(ver:Nat)(hr:refC (ps.map Pe.s) 2 name ver=0){s:Sh}(hf:fndC (ps.map Pe.s) name=some s)(hl:ver=s.live∧1<s.vs.length) :
  Calls Tryz.prog 23 #[.pointer (some ⟨gp,0,none⟩),.string name,.int .i64 (ver:Int)] w fun e w'=>e = .returned (.int .i64 17)∧Below w.heap.size w w':=by
 obtain ⟨A,c,rfl⟩:=zbn h.ps
 have HF:=hid (zny h.ps hs name ver hr)
 have HP:=hid h
 have HL:=hid hl
 have HFC:=hid hf
 have HS:=hid hs
 have c0:w.cell? ⟨gp,0,none⟩=some (.slice A ps.length c):=h.pt.cell 0
 clear h hs hr hl hf
 go_enter Tryz.func23,Tryz.ntmps23
 go_wp2_with (first
  |(go_at_call 50;refine HF.out.mono ?_;rintro e w2 ⟨⟨j,k,p,t,hj,hk,htv,hfn,hnm,rfl⟩,hb⟩;have HP2:=hid (HP.out.below hst hb);obtain ⟨g,rfl,hgc,hgf,hgb⟩:=HP2.out.ps.live hj;have q2:=hgc 2 (.int .i64 (p.o.live:Int)) (by decide) rfl;have q3:=hgc 3 (.slice p.o.vA p.o.vn p.o.vc) (by decide) rfl;have hjn:(j:Int)<(ps.length:Int):=(by have:=(List.getElem?_eq_some_iff.1 hj).1;omega);have c2:w2.cell? ⟨gp,0,none⟩=some (.slice (some ⟨g,0,none⟩) ps.length c):=HP2.out.pt.cell 0;have HB:=hid hb;have hlv:ver=p.o.live:=(by have h1:=HL.out.1;have h2:=HFC.out;rw[hfn] at h2;injection h2 with h2;rw[← h2] at h1;exact h1);have hln:(1:Int)<(p.o.vn:Int):=(by have h1:=HL.out.2;have h2:=HFC.out;rw[hfn] at h2;injection h2 with h2;rw[← h2] at h1;have h3:=(HP2.out.ps.each p (za7 hj)).n;have h4:p.s.vs.length=p.ts.length:=List.length_map _;omega);rw[← hlv] at q2;clear hb hj hk htv hfn hnm hlv hgc))
 go_ret
 exact ⟨rfl,HB.out⟩
end
end Go.Proofs.YtmejdkniafjncaaGreatDoor.Oc
namespace Go.Proofs.YtmejdkniafjncaaGreatDoor.Hl
open Go
section
variable {P:Program}{ops:Array Oper}{Q:Exit→Act→World→Prop}{md:Region.Mode}{S:World→Prop}{last:Nat}
def wpAnyL (P:Program)(md:Region.Mode)(ops:Array Oper)(Q:Exit→Act→World→Prop)(S:World→Prop)(last:Nat):Nat→Array Bool→Act→World→Prop
 | 0,listed,a,w=>Region.ready md ops listed=[]∧Q .normal a w
 |fuel+1,listed,a,w =>
  (Region.ready md ops listed=[]→Q .normal a w) ∧
  ∀ i∈Region.ready md ops listed,wpOp P ops Q i (fun a' w'=>(i≠last→S w')∧wpAnyL P md ops Q S last fuel (listed.setIfInBounds i true) a' w') a w
theorem zjr:∀ (fuel:Nat) (listed:Array Bool) (a:Act) (w:World),wpAnyL P md ops Q S last fuel listed a w→wpAny P md ops Q fuel listed a w
 | 0,_,_,_,h=>h
 |fuel+1,_,_,_,h=>⟨h.1,fun i hi=>wpOp_mono (fun a' w' h'=>zjr fuel _ a' w' h'.2) (h.2 i hi)⟩
def waits (md:Region.Mode)(ops:Array Oper)(last i:Nat):Bool:=(ops[last]?).any fun o=>o.after.any fun e=>Region.binds md e && e.on == i
theorem zqo {i:Nat}(h:waits md ops last i=true):∀ oj,ops[last]? = some oj→¬ (∀ e∈oj.after,Region.binds md e=true→e.on≠i):=by
 intro oj hoj hno
 unfold waits at h
 rw[hoj] at h
 simp only[Option.any_some,Array.any_eq_true,Bool.and_eq_true,beq_iff_eq] at h
 obtain ⟨k,hk,h1,h2⟩:=h
 exact hno _ (Array.getElem_mem hk) h1 h2
theorem zmj {i:Nat}{oi:Oper}{v:Value}(hi:ops[i]? = some oi)(hsel:∀ (j:Nat) (o:Oper) cs b,ops[j]? = some o→o.op ≠ .select cs b)
  (hQ:∀ c a w,Q (.panic c) (a.put oi.dst v) w→Q (.panic c) a w) (hlast:∀ oj,ops[last]? = some oj→¬ (∀ e∈oj.after,Region.binds md e=true→e.on≠i)) :
  ∀ (fuel:Nat) (listed:Array Bool) (a:Act) (w:World),
   (∀ j oj,ops[j]? = some oj→j≠i→listed.getD j true=false→(∀ e∈oj.after,Region.binds md e=true→e.on≠i)→oi.apart ops oj=true) →
   i∈Region.ready md ops listed→YieldsIf P ops S oi v a→S w →
   wpAnyL P md ops Q S last fuel (listed.setIfInBounds i true) (a.put oi.dst v) w→wpAnyL P md ops Q S last (fuel+1) listed a w:=by
 intro fuel
 induction fuel with
 |zero =>
  intro listed a w _ hr hy hS H
  refine ⟨fun h=>(by rw[h] at hr;cases hr),fun j hj=>?_⟩
  by_cases hji:j=i
  ·subst hji;exact hy.wpOp hi hS ⟨fun _=>hS,H⟩
  ·have:=ready_mono hj hji
   rw[H.1] at this
   cases this
 |succ fuel ih =>
  intro listed a w hfree hr hy hS H
  refine ⟨fun h=>(by rw[h] at hr;cases hr),fun j hj=>?_⟩
  by_cases hji:j=i
  ·subst hji;exact hy.wpOp hi hS ⟨fun _=>hS,H⟩
  ·have h1:=H.2 j (ready_mono hj hji)
   obtain ⟨hjun,oj,hoj,hall⟩:=mem_ready.1 hj
   have hnot:∀ e∈oj.after,Region.binds md e=true→e.on≠i:=fun e he hb heq=>by
    have h1:=hall e he hb
    have h0:=(mem_ready.1 hr).1
    rw[heq] at h1
    rcases Nat.lt_or_ge i listed.size with h'|h'
    ·simp[h'] at h0 h1;rw[h0] at h1;cases h1
    ·simp[Array.getElem?_eq_none h'] at h1
   have hjl:j≠last:=fun e=>by subst e;exact hlast oj hoj hnot
   have h2:=wpOp_putIf hoj (hfree j oj hoj hji hjun hnot) (fun cs b=>hsel i oi cs b hi) (fun cs b=>hsel j oj cs b hoj) hQ hy h1
   have hfree':∀ k ok,ops[k]? = some ok→k≠i→(listed.setIfInBounds j true).getD k true=false →
     (∀ e∈ok.after,Region.binds md e=true→e.on≠i)→oi.apart ops ok=true:=fun k ok hk hki hun hno=>by
    refine hfree k ok hk hki ?_ hno
    by_cases hjk:j=k
    ·subst hjk;exact hjun
    ·rw[getD_set_ne true hjk] at hun;exact hun
   refine wpOp_mono (fun a' w' h3=>⟨h3.2.1,ih (listed.setIfInBounds j true) a' w' hfree' (ready_mono hr (Ne.symm hji)) h3.1 (h3.2.1 hjl) ?_⟩) h2
   rw[Array.setIfInBounds_comm _ _ hji]
   exact h3.2.2
theorem wpAnyL_take {i:Nat}{oi:Oper}{v:Value}{fuel:Nat}{listed:Array Bool}{a:Act}{w:World}(hi:ops[i]? = some oi)
  (hs:Region.noSelect ops=true) (hf:Region.free md ops listed i=true) (hr:(Region.ready md ops listed).contains i=true) (hl:waits md ops last i=true)
  (hQ:∀ c a w,Q (.panic c) (a.put oi.dst v) w→Q (.panic c) a w) (hy:YieldsIf P ops S oi v a) (hS:S w)
  (h:wpAnyL P md ops Q S last fuel (listed.setIfInBounds i true) (a.put oi.dst v) w):wpAnyL P md ops Q S last (fuel+1) listed a w :=
 zmj hi (Region.noSelect_spec hs) hQ (zqo hl) fuel listed a w (Region.free_spec hi hf) (by simpa using hr) hy hS h
theorem wpAnyL_done {listed:Array Bool}{a:Act}{w:World}(hr:Region.ready md ops listed=[])(h:Q .normal a w) :
  ∀ fuel,wpAnyL P md ops Q S last fuel listed a w
 | 0=>⟨hr,h⟩
 |_+1=>⟨fun _=>h,by rw[hr];simp⟩
theorem wpAnyL_one {i:Nat}{o:Oper}{fuel:Nat}{listed:Array Bool}{a:Act}{w:World}(hr:Region.ready md ops listed=[i])(ho:ops[i]? = some o)
  (h:∀ K':Act→World→Prop,Shut (∀ a w,(i≠last→S w)→((i≠last→S w)→wpAnyL P md ops Q S last fuel (listed.setIfInBounds i true) a w)→K' a w)→if Region.wanted o (yielded ops a.tmps)=true then Oper.wp P o a w K' Q else K' (a.put o.dst undef) w):wpAnyL P md ops Q S last (fuel+1) listed a w :=
 ⟨fun h0=>(by rw[hr] at h0;cases h0),fun j hj=>by
  rw[hr,List.mem_singleton] at hj
  subst hj
  exact wpOp_step ho (fun K' hK=>h K' (fun a w hS hW=>hK a w ⟨hS,hW hS⟩))⟩
theorem wp_region_L {id:Nat}(last:Nat){a:Act}{w:World}(hm:P.follows .mixedOrders=true)(hS:S w.drew)
  (h:S w.drew→wpAnyL P .any ops Q S last ops.size (Array.replicate ops.size false) a w.drew):(Code.region id ops true).wp P Q a w :=
 wp_region_any hm (zjr _ _ _ _ (h hS))
end
end Go.Proofs.YtmejdkniafjncaaGreatDoor.Hl
namespace Go.Proofs.YtmejdkniafjncaaGreatDoor.Oc
open Go Go.RowKit Dk
theorem zdv {w:World}{base n size:Nat}{e:TypeId}{v:Value}{xs:List Value}(h:w.ownsRow base e size v n xs):∃ A c,v = .slice A n c:=by
 rcases h.2 with ⟨rfl,hn⟩|⟨g,cap,cur,rfl,_⟩
 ·exact ⟨none,0,by rw[hn]⟩
 ·exact ⟨_,_,rfl⟩
theorem zcn {ops:Array Oper}{o:Oper}{a:Act}{K:Act→World→Prop}{Q:Exit→Act→World→Prop}{E:Prop}(w:World)(hgd:o.guard=none)(s x:Operand)(t:TypeId)
  (ho:o.op = .call { callee := .builtin .append,args:=#[s,x],argTypes:=#[t,t] })
  (base:Nat) (e:TypeId) (i:TypeInfo) (z:Value) (size bytes:Nat) (ht:Tryz.prog.underlying t=some (.slice e)) (hi:Tryz.prog.info? e=some i) (hz:i.zero=some z)
  (hsize:i.size=size) (hby:i.bytes=bytes) (hzs:z.cells.size=size) (hsz:0<size)
  (v:Value) (n:Nat) (xs:List Value) (hs:a.eval s=v) (hown:w.ownsRow base e size v n xs)
  (ad:Addr) (m c:Nat) (news:List Value) (hx:a.eval x = .slice (some ad) m c) (hl:news.length=m*size) (hnews:∀ j u,news[j]? = some u→w.cell? (ad.add j)=some u) (h1:∀ u∈news,u.oneCell'=true)
  (h63:n+m≤maxLen) (hbytes:(n+m)*bytes≤140737488355328) (hbase:base≤w.heap.size)
  (h:∀ v' w',w'.ownsRow base e size v' (n+m) (xs++news)→w.grownBy w' v.ownBlock→K (a.put o.dst v') w'):if Region.wanted o (yielded ops a.tmps)=true then Oper.wp Tryz.prog o a w K Q else E:=by
 have hw:Region.wanted o (yielded ops a.tmps)=true:=by simp[Region.wanted,hgd]
 rw[if_pos hw]
 exact wp_append_own w s x t ho base e i z size bytes ht hi hz hsize hby hzs hsz v n xs hs hown ad m c news hx hl hnews h1 h63 hbytes hbase (fun v' w' h1 h2 _=>h v' w' h1 h2)
theorem zaq (w:World){g:Nat}(a b:Nat)(v:Value)(h:a≠b):(w.setCell ⟨g,a,none⟩ v).cell? ⟨g,b,none⟩=w.cell? ⟨g,b,none⟩:=by
 unfold World.cell? World.setCell
 simp only[Array.getElem?_modify,if_pos]
 cases w.heap[g]? with
 |none=>rfl
 |some o=>cases o <;> simp[h]
theorem zc6 {w W:World}{B n c sz g:Nat}{t:TypeId}{xs:List Value}(h:w.ownsRow B t sz (.slice (some ⟨g,0,none⟩) n c) n xs)(hb:Below w.heap.size w W){i:Nat}{u:Value}(hu:xs[i]? = some u):W.cell? ⟨g,i,none⟩=some u:=by
 rcases h.2 with ⟨e,_⟩|⟨g',cap,cur,e,_,hh,_,_,_,h6⟩
 ·cases e
 ·injection e with e1
  injection e1 with e1
  injection e1 with e1
  subst e1
  refine (cell_of_row _ _ i cur t _ ((hb.block g (lt_of_block hh)).trans hh)).trans ?_
  rw[← h6,List.getElem?_take] at hu
  split at hu
  ·simpa using hu
  ·cases hu
theorem add0 (g i:Nat):(⟨g,0,none⟩:Addr).add i=⟨g,i,none⟩:=by
 unfold Addr.add
 by_cases h:i=0 <;> simp[h]
theorem addk (g k i:Nat):(⟨g,k,none⟩:Addr).add i=⟨g,k+i,none⟩:=by
 unfold Addr.add
 by_cases h:i=0 <;> simp[h]
theorem zu6 {w:World}{B n c sz g:Nat}{t:TypeId}{xs:List Value}(h:w.ownsRow B t sz (.slice (some ⟨g,0,none⟩) n c) n xs)(m:Nat):∀ W,Below w.heap.size w W→∀ i u,(xs.take m)[i]? = some u→W.cell? ((⟨g,0,none⟩:Addr).add i)=some u:=fun W hb i u hu=>by
 rw[add0]
 rw[List.getElem?_take] at hu
 split at hu
 ·exact zc6 h hb hu
 ·cases hu
theorem zu7 {w:World}{B n c sz g:Nat}{t:TypeId}{xs:List Value}(h:w.ownsRow B t sz (.slice (some ⟨g,0,none⟩) n c) n xs)(k:Nat){ad:Addr}(had:(if c=k then (some ⟨g,0,none⟩:Option Addr) else some ⟨g,k*sz,none⟩)=some ad):∀ W,Below w.heap.size w W→∀ i u,(xs.drop (k*sz))[i]? = some u→W.cell? (ad.add i)=some u:=fun W hb i u hu=>by
 rw[List.getElem?_drop] at hu
 split at had
 ·next e =>
  exfalso
  have h1:=(List.getElem?_eq_some_iff.1 hu).1
  rw[h.1] at h1
  have h2:n≤c:=by
   rcases h.2 with ⟨e,_⟩|⟨g',cap,cur,e,_,hh,h3,_⟩
   ·cases e
   ·injection e with _ _ e3;omega
  have h4:n*sz≤k*sz:=Nat.mul_le_mul_right _ (by omega)
  omega
 ·injection had with had
  subst had
  rw[addk]
  exact zc6 h hb hu
theorem zb2 {w:World}{B n c sz g i:Nat}{t:TypeId}{xs:List Value}{u:Value}(h:w.ownsRow B t sz (.slice (some ⟨g,0,none⟩) n c) n xs):(w.setCell ⟨g,i,none⟩ u).ownsRow B t sz (.slice (some ⟨g,0,none⟩) n c) n (xs.set i u):=by
 refine ⟨by rw[List.length_set];exact h.1,?_⟩
 rcases h.2 with ⟨e,_⟩|⟨g',cap,cur,e,h1,h2,h3,h4,h5,h6⟩
 ·cases e
 ·injection e with e1 e2 e3
  injection e1 with e1
  injection e1 with e1
  subst e1
  refine .inr ⟨g,cap,cur.setIfInBounds i u,by rw[e3],h1,heap_setCell_same w g _ cur _ u h2,h3,h4,by simpa using h5,?_⟩
  rw[Array.toList_setIfInBounds,List.take_set,h6]
theorem za8:∀ (ls:List (List Value)) (j t:Nat) (c:List Value) (u:Value),(∀ l∈ls,l.length=5)→ls[j]? = some c→t<5→(ls.set j (c.set t u)).flatten=ls.flatten.set (j*5+t) u
 | [],j,_,_,_,_,h,_=>by cases h
 |x :: ls,0,t,c,u,h5,h,ht=>by
  injection h with h
  subst h
  simp only[kD,List.flatten_cons,Nat.zero_mul,Nat.zero_add]
  rw[List.set_append_left _ _ (by rw[h5 x (List.mem_cons_self ..)];exact ht)]
 |x :: ls,j+1,t,c,u,h5,h,ht=>by
  have hx:=h5 x (List.mem_cons_self ..)
  simp only[kE,List.flatten_cons]
  have e:(j+1)*5+t - x.length=j*5+t:=by rw[hx];omega
  rw[List.set_append_right _ _ (by rw[hx];omega),e,za8 ls j t c u (fun l hl=>h5 l (List.mem_cons_of_mem _ hl)) h ht]
def farN (w w':World)(far:Nat→Prop)(k:Nat):Prop:=far k∨(w.heap.size≤k∧k<w'.heap.size)
theorem zdh {w:World}{B n sz:Nat}{t:TypeId}{v:Value}{xs:List Value}(h:w.ownsRow B t sz v n xs):∀ k,v.ownBlock=some k→k<w.heap.size:=fun k hk=>(World.ownsRow.lt h k hk).2
theorem PeOk.lt {PM:PMod}{w:World}{B:Nat}{far:Nat→Prop}{p:Pe}(h:PeOk PM w B far p):∀ k,p.own k→k<w.heap.size:=fun k hk=>hk.elim (zdh h.vr k) (zdh h.mr k)
theorem Ps.anew {PM:PMod}(hst:Stays PM){w w':World}{B g n c:Nat}{far:Nat→Prop}{ps:List Pe}(h:Ps PM w B far (.slice (some ⟨g,0,none⟩) n c) ps){j:Nat}{p p':Pe}(hj:ps[j]? = some p)(ha:Alt w w' (fun k=>k=g))
  (hrow:OnRow w' B (.slice (some ⟨g,0,none⟩) n c) ((ps.set j p').map Pe.o)) (hok:PeOk PM w' B (farN w w' far) p') (hown:∀ k,p'.own k→p.own k∨w.heap.size≤k) :
  Ps PM w' B (farN w w' far) (.slice (some ⟨g,0,none⟩) n c) (ps.set j p'):=by
 obtain ⟨hjl,hje⟩:=List.getElem?_eq_some_iff.1 hj
 have hgf:far g:=h.fo g rfl
 have hno:∀ q∈ps,∀ k,q.own k→¬ k=g:=by
  rintro q hq k (hk|hk) rfl
  ·exact zcm h.row (h.each q hq).vr (by decide) k rfl hk
  ·exact zcm h.row (h.each q hq).mr (by decide) k rfl hk
 have hold:∀ q∈ps,PeOk PM w' B (farN w w' far) q:=fun q hq=>(h.each q hq).alt hst ha (fun k _ e => .inl (by rw[e];exact hgf)) (hno q hq) (fun k hk hf=>hf.elim id (fun h=>by omega))
 refine ⟨hrow,fun q hq=>?_,?_,fun k hk => .inl (h.fo k hk),fun q hq k hk=>?_⟩
 ·rcases List.mem_or_eq_of_mem_set hq with hq|rfl
  ·exact hold q hq
  ·exact hok
 ·rw[List.pairwise_iff_getElem]
  have h0:=List.pairwise_iff_getElem.1 h.ap
  intro a b ha' hb' hab k
  rw[List.length_set] at ha' hb'
  rw[List.getElem_set,List.getElem_set]
  split
  ·next e1 =>
   subst e1
   rw[if_neg (by omega)]
   intro hk hk2
   rcases hown k hk with h1|h1
   ·have:=h0 _ _ ha' hb' hab k
    rw[hje] at this
    exact this h1 hk2
   ·have:=(h.each _ (List.getElem_mem hb')).lt k hk2
    omega
  ·split
   ·next _ e2 =>
    subst e2
    intro hk hk2
    rcases hown k hk2 with h1|h1
    ·have:=h0 _ _ ha' hb' hab k hk
     rw[hje] at this
     exact this h1
    ·have:=(h.each _ (List.getElem_mem ha')).lt k hk
     omega
   ·exact h0 _ _ ha' hb' hab k
 ·rcases List.mem_or_eq_of_mem_set hq with hq|rfl
  ·exact .inl (h.fp q hq k hk)
  ·rcases hown k hk with h1|h1
   ·exact .inl (h.fp p (za7 hj) k h1)
   ·exact .inr ⟨h1,hok.lt k hk⟩
theorem zmk {PM:PMod}{w:World}{far:Nat→Prop}:∀ {ts:List Tr},(∀ t∈ts,t.cs.size=59∧AllOne t.cs∧PM w far t.ms t.cs)→(flatT ts).length=ts.length*59
 | [],_=>rfl
 |t :: ts,h=>by
  show (t.cs.toList++flatT ts).length=_
  have h1:t.cs.toList.length=59:=(h t (List.mem_cons_self ..)).1
  rw[List.length_append,zmk fun t ht=>h t (List.mem_cons_of_mem _ ht),h1,List.length_cons];omega
theorem zea (a b:List Tr):flatT (a++b)=flatT a++flatT b:=by unfold flatT;rw[List.map_append,List.flatten_append]
theorem zif {PM:PMod}{w:World}{far:Nat→Prop}{ts:List Tr}(h:∀ t∈ts,t.cs.size=59∧AllOne t.cs∧PM w far t.ms t.cs)(k:Nat)(hk:k≤ts.length):flatT (ts.take k)=(flatT ts).take (k*59)∧flatT (ts.drop k)=(flatT ts).drop (k*59):=by
 have h1:flatT ts=flatT (ts.take k)++flatT (ts.drop k):=by rw[← zea,List.take_append_drop]
 have h2:(flatT (ts.take k)).length=k*59:=by rw[zmk fun t ht=>h t (List.mem_of_mem_take ht),List.length_take,Nat.min_eq_left hk]
 rw[h1, ← h2]
 exact ⟨List.take_left.symm,List.drop_left.symm⟩
theorem zml {PM:PMod}{w:World}{far:Nat→Prop}{ts:List Tr}(h:∀ t∈ts,t.cs.size=59∧AllOne t.cs∧PM w far t.ms t.cs):∀ u∈flatT ts,u.oneCell'=true:=fun u hu=>by
 obtain ⟨l,hl,hul⟩:=List.mem_flatten.1 hu
 obtain ⟨t,ht,rfl⟩:=List.mem_map.1 hl
 have h1:t.cs.all (·.oneCell')=true:=(h t ht).2.1
 rw[← Array.all_toList] at h1
 exact List.all_eq_true.1 h1 u hul
theorem zez:∀ {ts:List Tr} {k:Nat} {t:Tr},(ts.map (·.v)).Pairwise (· < ·)→ts[k]? = some t→ts.filter (fun x=>decide (x.v≠t.v))=ts.take k++ts.drop (k+1)
 | [],k,t,_,h=>by cases h
 |x :: ts,0,t,hp,h=>by
  injection h with h
  subst h
  rw[List.map_cons,List.pairwise_cons] at hp
  rw[List.filter_cons_of_neg (by simp)]
  show _=ts
  rw[List.filter_eq_self]
  intro y hy
  have:=hp.1 y.v (List.mem_map.2 ⟨y,hy,rfl⟩)
  exact decide_eq_true (by omega)
 |x :: ts,k+1,t,hp,h=>by
  rw[List.map_cons,List.pairwise_cons] at hp
  have hm:t∈ts:=by
   obtain ⟨hk,e⟩:=List.getElem?_eq_some_iff.1 (show ts[k]? = some t from h)
   rw[← e];exact List.getElem_mem hk
  have:=hp.1 t.v (List.mem_map.2 ⟨t,hm,rfl⟩)
  rw[List.filter_cons,if_pos (by simp;omega),zez hp.2 (show ts[k]? = some t from h)]
  rfl
def SPost (PM:PMod)(w:World)(B:Nat)(far:Nat→Prop)(gp:Nat)(v:Value)(ps:List Pe)(C':Con)(w':World):Prop :=
 ∃ (far':Nat→Prop) (v':Value) (ps':List Pe),SP PM w' B far' gp v' ps'∧ps'.map Pe.s=C'∧(∀ k,So gp v' ps' k→So gp v ps k∨w.heap.size≤k)∧Alt w w' (So gp v ps)∧(∀ k,far k→far' k)∧(∀ k,far' k→far k∨(w.heap.size≤k∧k<w'.heap.size))
theorem zbs {w:World}{B B' n sz:Nat}{t:TypeId}{v:Value}{xs:List Value}(h:w.ownsRow B t sz v n xs)(hb:B'≤B):w.ownsRow B' t sz v n xs:=by
 refine ⟨h.1,?_⟩
 rcases h.2 with h0|⟨g,cap,cur,e,h1,h2⟩
 ·exact .inl h0
 ·exact .inr ⟨g,cap,cur,e,Nat.le_trans hb h1,h2⟩
theorem zo9 {PM:PMod}(hst:Stays PM){w w':World}{B B1 B2 g n c:Nat}{far:Nat→Prop}{ps:List Pe}(h:Ps PM w B far (.slice (some ⟨g,0,none⟩) n c) ps){j k:Nat}{p:Pe}{t:Tr}(hj:ps[j]? = some p)(hk:p.ts[k]? = some t)(ha:Alt w w' (fun q=>q=g))(hBw:B≤w.heap.size)
  {o':On} (hn:o'.vn+1=p.ts.length) (hrow:w'.ownsRow B 102 5 (.slice (some ⟨g,0,none⟩) n c) ps.length (((ps.map Pe.o).map cellsO).set j (cellsO o')).flatten) (hB1:w.heap.size≤B1) (hB2:w.heap.size≤B2)
  (hv:w'.ownsRow B1 3 1 o'.vv o'.vn ([]++((versT p.ts).map (Value.int .i64)).take (k*1)++((versT p.ts).map (Value.int .i64)).drop ((k+1)*1)))
  (hm:w'.ownsRow B2 88 59 o'.mv o'.vn ([]++(flatT p.ts).take (k*59)++(flatT p.ts).drop ((k+1)*59))) :
  Ps PM w' B (farN w w' far) (.slice (some ⟨g,0,none⟩) n c) (ps.set j ⟨o',p.ts.take k++p.ts.drop (k+1)⟩)∧∀ q,Pe.own ⟨o',p.ts.take k++p.ts.drop (k+1)⟩ q→w.heap.size≤q:=by
 have hkl:=(List.getElem?_eq_some_iff.1 hk).1
 have hp:=h.each p (za7 hj)
 have hlen:(p.ts.take k++p.ts.drop (k+1)).length=o'.vn:=by rw[List.length_append,List.length_take,List.length_drop];omega
 have hown:∀ q,Pe.own ⟨o',p.ts.take k++p.ts.drop (k+1)⟩ q→w.heap.size≤q:=by
  rintro q (hq|hq)
  ·exact Nat.le_trans hB1 (World.ownsRow.lt hv q hq).1
  ·exact Nat.le_trans hB2 (World.ownsRow.lt hm q hq).1
 refine ⟨h.anew hst hj ha ?_ ⟨hlen.symm,?_,?_,fun x hx=>?_⟩ (fun q hq => .inr (hown q hq)),hown⟩
 ·unfold OnRow
  rw[List.map_set,List.map_set,List.length_set,List.length_map]
  exact hrow
 ·unfold IntRow
  have e:∀ l:List Tr,(versT l).length=l.length:=fun l=>List.length_map _
  show w'.ownsRow B 3 1 o'.vv (versT (p.ts.take k++p.ts.drop (k+1))).length ((versT (p.ts.take k++p.ts.drop (k+1))).map (Value.int .i64))
  have e2:(versT (p.ts.take k++p.ts.drop (k+1))).map (Value.int .i64)=[]++((versT p.ts).map (Value.int .i64)).take (k*1)++((versT p.ts).map (Value.int .i64)).drop ((k+1)*1):=by
   unfold versT
   rw[List.map_append,List.map_append,List.map_take,List.map_take,List.map_drop,List.map_drop,List.nil_append,Nat.mul_one,Nat.mul_one]
  rw[e,hlen,e2]
  exact zbs hv (by omega)
 ·show w'.ownsRow B 88 59 o'.mv (p.ts.take k++p.ts.drop (k+1)).length (flatT (p.ts.take k++p.ts.drop (k+1)))
  have e2:flatT (p.ts.take k++p.ts.drop (k+1))=[]++(flatT p.ts).take (k*59)++(flatT p.ts).drop ((k+1)*59):=by
   rw[zea,(zif hp.md k (by omega)).1,(zif hp.md (k+1) (by omega)).2,List.nil_append]
  rw[hlen,e2]
  exact zbs hm (by omega)
 ·have hx':x∈p.ts:=by
   rcases List.mem_append.1 hx with h1|h1
   ·exact List.mem_of_mem_take h1
   ·exact List.mem_of_mem_drop h1
  obtain ⟨h1,h2,h3⟩:=hp.md x hx'
  exact ⟨h1,h2,hst _ _ _ _ _ _ _ h3 ha (fun q _ e => .inl (by rw[e];exact h.fo g rfl)) (fun q hq hf=>hf.elim id (fun h=>by omega))⟩
end Go.Proofs.YtmejdkniafjncaaGreatDoor.Oc
