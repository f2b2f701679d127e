/- Calls of known outcome, over a heap. -/
import Derived.Test.YtemgclnkgieldaaGreatDoorE5
noncomputable section
namespace Go.Proofs.YtemgclnkgieldaaGreatDoor.CX
open Go Go.RowKit
def eqVs (l:List Value):List Value→Bool :=
 List.rec (motive:=fun _=>List Value→Bool) (fun m=>match m with | []=>true|_=>false) (fun a _ ih m=>match m with
  |b :: m=>cond (eqV a b) (ih m) false
  | []=>false) l
theorem zga:∀ {l m:List Value},eqVs l m=true→l=m
 | [],m,h=>by
  cases m with
  |nil=>rfl
  |cons a m=>cases h
 |a :: l,m,h=>by
  cases m with
  |nil=>cases h
  |cons b m =>
   change cond (eqV a b) (eqVs l m) false=true at h
   obtain ⟨h1,h2⟩:=zaa h
   rw[zhq h1,zga h2]
def eqNs (l:List Nat):List Nat→Bool :=
 List.rec (motive:=fun _=>List Nat→Bool) (fun m=>match m with | []=>true|_=>false) (fun a _ ih m=>match m with
  |b :: m=>cond (Nat.beq a b) (ih m) false
  | []=>false) l
theorem zso:∀ {l m:List Nat},eqNs l m=true→l=m
 | [],m,h=>by
  cases m with
  |nil=>rfl
  |cons a m=>cases h
 |a :: l,m,h=>by
  cases m with
  |nil=>cases h
  |cons b m =>
   change cond (Nat.beq a b) (eqNs l m) false=true at h
   obtain ⟨h1,h2⟩:=zaa h
   rw[zay h1,zso h2]
def eqEs (l:List (Value×Value)):List (Value×Value)→Bool :=
 List.rec (motive:=fun _=>List (Value×Value)→Bool) (fun m=>match m with | []=>true|_=>false) (fun a _ ih m=>match m with
  |b :: m=>cond (eqV a.1 b.1) (cond (eqV a.2 b.2) (ih m) false) false
  | []=>false) l
theorem zsp:∀ {l m:List (Value×Value)},eqEs l m=true→l=m
 | [],m,h=>by
  cases m with
  |nil=>rfl
  |cons a m=>cases h
 |a :: l,m,h=>by
  cases m with
  |nil=>cases h
  |cons b m =>
   change cond (eqV a.1 b.1) (cond (eqV a.2 b.2) (eqEs l m) false) false=true at h
   obtain ⟨h1,h2⟩:=zaa h
   obtain ⟨h2,h3⟩:=zaa h2
   rw[zsp h3,show a=b from Prod.ext (zhq h1) (zhq h2)]
def subOb (o o':Ob):Bool:=match o,o' with
 | .row B,.row B'=>cond B.one false (cond (Nat.beq B.elem B'.elem) (cond (Nat.ble B.size B'.size) (cond (cond B.ro true (!B'.ro)) (match B.readN B.size 0,B'.readN B.size 0 with
  |some l,some m=>eqVs l m
  |_,_=>false) false) false) false)
 | .map es bs cl,.map es' bs' cl'=>cond (eqEs es es') (cond (eqNs bs bs') (Nat.beq cl cl') false) false
 |_,_=>false
theorem zfk {o o':Ob}(h:subOb o o'=true)(hw:o.wr=true):o'.wr=true:=by
 unfold subOb at h
 split at h
 ·rename_i B B'
  obtain ⟨_,h⟩:=za6 h
  obtain ⟨_,h⟩:=zaa h
  obtain ⟨_,h⟩:=zaa h
  obtain ⟨h1,_⟩:=zaa h
  change (!B.ro)=true at hw
  show (!B'.ro)=true
  cases hb:B.ro with
  |true=>rw[hb] at hw;cases hw
  |false=>rw[hb] at h1;exact h1
 ·rfl
 ·cases h
theorem zdf {E:En}{w:World}{e:Em}{o o':Ob}(h:subOb o o'=true)(r:ObR E w e o'):ObR E w e o:=by
 have h0:=h
 unfold subOb at h
 split at h
 ·rename_i B B'
  obtain ⟨hone,h⟩:=za6 h
  obtain ⟨h1,h⟩:=zaa h
  obtain ⟨h2,h⟩:=zaa h
  obtain ⟨h3,h⟩:=zaa h
  obtain ⟨cs,fr,q1,q2,q3,q4,q5⟩:=r
  have h1:=zay h1
  have h2:=zbh h2
  split at h
  ·rename_i l m hl hm
   have hlm:=zga h;subst hlm
   refine ⟨cs,fr,by rw[h1];exact q1,q2,by omega,?_,fun hro j hj=>q5.1 ?_ j hj,fun h=>by rw[hone] at h;cases h⟩
   ·intro j v hv
    have hj:j<B.size:=by
     unfold Bk.at at hv
     cases hb:Nat.blt j B.size with
     |true=>exact zcc hb
     |false=>rw[hb] at hv;cases hv
    obtain ⟨hl1,hl2⟩:=Bk.readN_sound hl
    obtain ⟨hm1,hm2⟩:=Bk.readN_sound hm
    refine q4 j v ?_
    have hx:l[j]? = some l[j]:=List.getElem?_eq_getElem (by omega)
    have a1:=hl2 j _ hx
    have a2:=hm2 j _ hx
    rw[Nat.zero_add] at a1 a2
    rw[hv] at a1;injection a1 with a1
    rw[a2,a1]
   ·have:=zfk h0 (show (!B.ro)=true by rw[hro];rfl)
    change (!B'.ro)=true at this
    simpa using this
  ·cases h
 ·obtain ⟨h1,h⟩:=zaa h
  obtain ⟨h2,h3⟩:=zaa h
  have h1:=zsp h1;subst h1
  have h2:=zso h2;subst h2
  have h3:=zay h3;subst h3
  exact r
 ·cases h
def layT (l:List (Nat×Ob))(t:Tr (Option Ob)):Tr (Option Ob):=List.rec (motive:=fun _=>Tr (Option Ob)) t (fun p _ ih=>ih.set (some p.2) p.1) l
def lay (n:Nat)(l:List (Nat×Ob))(h:Hp):Hp:={ next:=n,bs:=layT l h.bs }
theorem zc5 {n:Nat}{h:Hp}{i:Nat}{o:Ob}:∀ {l:List (Nat×Ob)},(lay n l h).ob i=some o→(i,o)∈l∨(h.ob i=some o∧∀ p∈l,p.1≠i)
 | [],hh => .inr ⟨hh,fun p hp=>by cases hp⟩
 |p :: l,hh=>by
  have e:(lay n (p :: l) h).ob i=if i=p.1 then some p.2 else (lay n l h).ob i:=by
   unfold Hp.ob lay
   show Option.rec (motive:=fun _=>Option Ob) none (fun o=>o) (((layT l h.bs).set (some p.2) p.1).get i)=_
   rw[Tr.get_set]
   by_cases hi:i=p.1
   ·rw[qX hi,qX hi]
   ·rw[qW hi,qW hi]
  rw[e] at hh
  by_cases hi:i=p.1
  ·rw[qX hi] at hh
   injection hh with hh;subst hh;subst hi
   exact .inl (by simp)
  ·rw[qW hi] at hh
   rcases zc5 hh with h1|⟨h1,h2⟩
   ·exact .inl (List.mem_cons_of_mem _ h1)
   ·exact .inr ⟨h1,fun q hq=>by
     rcases List.mem_cons.1 hq with rfl|hq
     ·exact fun he=>hi he.symm
     ·exact h2 q hq⟩
def Hp.empty:Hp:={ next:=0,bs := .leaf }
def inOb (h:Hp)(p:Nat×Ob):Bool:=match h.ob p.1 with
 |some o=>subOb p.2 o
 |none=>false
theorem zcw {h:Hp}{p:Nat×Ob}(hh:inOb h p=true):∃ o,h.ob p.1=some o∧subOb p.2 o=true:=by
 unfold inOb at hh
 split at hh
 ·rename_i o ho;exact ⟨o,ho,hh⟩
 ·cases hh
def hasN (l:List (Nat×Ob))(i:Nat):Bool:=List.rec (motive:=fun _=>Bool) false (fun p _ ih=>cond (Nat.beq p.1 i) true ih) l
theorem zdg {i:Nat}:∀ {l:List (Nat×Ob)},hasN l i=true→∃ p∈l,p.1=i
 | [],h=>by cases h
 |p :: l,h=>by
  change cond (Nat.beq p.1 i) true (hasN l i)=true at h
  cases hb:Nat.beq p.1 i with
  |true=>exact ⟨p,by simp,zay hb⟩
  |false =>
   rw[hb] at h
   obtain ⟨q,hq,he⟩:=zdg h
   exact ⟨q,List.mem_cons_of_mem _ hq,he⟩
structure Kn where
 k:Nat
 av:List Value
 n0:Nat
 pre:List (Nat×Ob)
 v:Value
 n1:Nat
 post:List (Nat×Ob)
def orcH (c:Kn):Nat→List Value→Hp→Option (Value×Hp):=fun f av h =>
 cond (Nat.beq f c.k) (cond (Nat.beq h.next c.n0) (cond (eqVs av c.av) (cond (allB (inOb h) c.pre) (some (c.v,lay c.n1 c.post h)) none) none) none) none
def tupV (a b:Value):Bool:=match a,b with
 | .tuple ⟨l⟩,.tuple ⟨m⟩=>eqVs l m
 |a,b=>eqV a b
theorem zj8 {a b:Value}(h:tupV a b=true):a=b:=by
 unfold tupV at h
 split at h
 ·rw[zga h]
 ·exact zhq h
def runH (x:X)(fuel:Nat)(c:Kn):Bool:=Option.rec (motive:=fun _=>Bool) false (fun p=>cond (tupV p.1 c.v) (cond (Nat.beq p.2.next c.n1) (cond (allB (inOb p.2) c.post) (allB (fun q=>hasN c.post q.1) c.pre) false) false) false)
 (fcall x fuel c.k c.av (lay c.n0 c.pre .empty))
theorem zb8 {x:X}(hx:x.Ok){fuel:Nat}{c:Kn}(hr:runH x fuel c=true):OrcOk x.P x.ng (orcH c):=by
 intro k av h v h' hh E w av' H hg ha
 unfold orcH at hh
 replace hh:=zac hh;obtain ⟨h1,hh⟩:=hh
 replace hh:=zac hh;obtain ⟨h2,hh⟩:=hh
 replace hh:=zac hh;obtain ⟨h3,hh⟩:=hh
 replace hh:=zac hh;obtain ⟨h4,hh⟩:=hh
 injection hh with hh;injection hh with h5 h6;subst h5;subst h6
 have h1:=zay h1;subst h1
 have h2:=zay h2
 have h3:=zga h3;subst h3
 have h4:=(zag _ _).1 h4
 unfold runH at hr
 cases hf:fcall x fuel c.k c.av (lay c.n0 c.pre .empty) with
 |none=>rw[hf] at hr;cases hr
 |some p =>
  rw[hf] at hr
  obtain ⟨v1,hp1⟩:=p
  change cond (tupV v1 c.v) (cond (Nat.beq hp1.next c.n1) (cond (allB (inOb hp1) c.post) (allB (fun q=>hasN c.post q.1) c.pre) false) false) false=true at hr
  obtain ⟨g1,hr⟩:=zaa hr
  obtain ⟨g2,hr⟩:=zaa hr
  obtain ⟨g3,g4⟩:=zaa hr
  have g1:=zj8 g1;subst g1
  have g2:=zay g2
  have g3:=(zag _ _).1 g3
  have g4:=(zag _ _).1 g4
  have hpre:∀ i o,(lay c.n0 c.pre .empty).ob i=some o→∃ o',h.ob i=some o'∧subOb o o'=true∧∃ p∈c.post,p.1=i:=fun i o hi=>by
   rcases zc5 hi with hm|⟨hm,_⟩
   ·obtain ⟨o',ho',hs⟩:=zcw (h4 _ hm)
    exact ⟨o',ho',hs,zdg (g4 _ hm)⟩
   ·cases hm
  have H0:HR E (lay c.n0 c.pre .empty) w:=by
   refine ⟨fun i hi=>H.fresh i (by rw[h2];exact hi),fun i o hi=>?_,fun i j o o' e e' hi hj he he' heq=>?_⟩
   ·obtain ⟨o',ho',hs,_⟩:=hpre i o hi
    obtain ⟨e,he,hob⟩:=H.obj i o' ho'
    exact ⟨e,he,zdf hs hob⟩
   ·obtain ⟨o1,ho1,_⟩:=hpre i o hi
    obtain ⟨o2,ho2,_⟩:=hpre j o' hj
    exact H.inj i j o1 o2 e e' ho1 ho2 he he' heq
  rw[zei] at hf
  refine (zcg hx hf H0 hg ha).mono ?_
  rintro e w' ⟨E',u,rfl,st,hu⟩
  refine ⟨E',u,rfl,?_,hu⟩
  have hpost:∀ p∈c.post,∃ o',hp1.ob p.1=some o'∧subOb p.2 o'=true:=fun p hp=>zcw (g3 p hp)
  have hold:∀ i o,h.ob i=some o→(∀ p∈c.post,p.1≠i)→∀ e,E i=some e→¬ Img0 E (lay c.n0 c.pre .empty) e.blk:=fun i o hi hno e he=>by
   rintro ⟨j,o2,e2,hj,he2,hb⟩
   obtain ⟨o',ho',_,p,hp,hpj⟩:=hpre j o2 hj
   have:=H.inj j i o' o e2 e ho' hi he2 he hb
   exact hno p hp (hpj.trans this)
  have img:∀ k,Img E (lay c.n0 c.pre .empty) k→Img E h k:=fun k hk=>by
   obtain ⟨i,o,e,hi,hwr,he,hb⟩:=hk
   obtain ⟨o',ho',hs,_⟩:=hpre i o hi
   exact ⟨i,o',e,ho',zfk hs hwr,he,hb⟩
  have img0:∀ k,Img0 E (lay c.n0 c.pre .empty) k→Img0 E h k:=fun k hk=>by
   obtain ⟨i,o,e,hi,he,hb⟩:=hk
   obtain ⟨o',ho',_⟩:=hpre i o hi
   exact ⟨i,o',e,ho',he,hb⟩
  have imi:∀ k,Img E (lay c.n0 c.pre .empty) k→Img0 E (lay c.n0 c.pre .empty) k:=fun k ⟨i,o,e,hi,_,he,hb⟩=>⟨i,o,e,hi,he,hb⟩
  refine ⟨st.le,⟨fun i hi=>st.hr.fresh i (by rw[g2];exact hi),fun i o hi=>?_,fun i j o o' e e' hi hj he he' heq=>?_⟩,st.os,st.tape,st.output,st.size,fun k hk hni=>⟨(st.keep k hk fun hi=>hni (img k hi)).1,?_⟩,fun k hk hni=>?_⟩
  ·rcases zc5 hi with hm|⟨hm,hno⟩
   ·obtain ⟨o',ho',hs⟩:=hpost _ hm
    obtain ⟨e,he,hob⟩:=st.hr.obj i o' ho'
    exact ⟨e,he,zdf hs hob⟩
   ·obtain ⟨e,he,hob⟩:=H.obj i o hm
    exact ⟨e,st.le _ _ he,hob.mono st.le (st.keep _ hob.lt fun hi=>hold i o hm hno e he (imi _ hi)).1⟩
  ·have old:∀ {i:Nat} {o:Ob} {e:Em},h.ob i=some o→E' i=some e→E i=some e∧e.blk<w.heap.size:=fun {i o e} hi he=>by
    obtain ⟨e2,he2,hob⟩:=H.obj i o hi
    have:=st.le _ _ he2
    rw[he] at this;injection this with this;subst this
    exact ⟨he2,hob.lt⟩
   rcases zc5 hi with hm|⟨hm,hno⟩ <;> rcases zc5 hj with hn|⟨hn,hno'⟩
   ·obtain ⟨o1,ho1,_⟩:=hpost _ hm
    obtain ⟨o2,ho2,_⟩:=hpost _ hn
    exact st.hr.inj i j o1 o2 e e' ho1 ho2 he he' heq
   ·obtain ⟨o1,ho1,_⟩:=hpost _ hm
    obtain ⟨hE,hlt⟩:=old hn he'
    exact absurd ⟨i,o1,e,ho1,he,heq⟩ (st.keep0 _ hlt (hold j o' hn hno' e' hE))
   ·obtain ⟨o2,ho2,_⟩:=hpost _ hn
    obtain ⟨hE,hlt⟩:=old hm he
    exact absurd ⟨j,o2,e',ho2,he',heq.symm⟩ (st.keep0 _ hlt (hold i o hm hno e hE))
   ·exact H.inj i j o o' e e' hm hn (old hm he).1 (old hn he').1 heq
  ·rintro ⟨i,o,e,hi,hwr,he,hb⟩
   rcases zc5 hi with hm|⟨hm,hno⟩
   ·obtain ⟨o1,ho1,hs⟩:=hpost _ hm
    exact (st.keep k hk fun hi=>hni (img k hi)).2 ⟨i,o1,e,ho1,zfk hs hwr,he,hb⟩
   ·obtain ⟨e2,he2,_⟩:=H.obj i o hm
    have:=st.le _ _ he2
    rw[he] at this;injection this with this;subst this
    exact hni ⟨i,o,e,hm,hwr,he2,hb⟩
  ·rintro ⟨i,o,e,hi,he,hb⟩
   rcases zc5 hi with hm|⟨hm,hno⟩
   ·obtain ⟨o1,ho1,_⟩:=hpost _ hm
    exact st.keep0 k hk (fun hi=>hni (img0 k hi)) ⟨i,o1,e,ho1,he,hb⟩
   ·obtain ⟨e2,he2,_⟩:=H.obj i o hm
    have:=st.le _ _ he2
    rw[he] at this;injection this with this;subst this
    exact hni ⟨i,o,e,hm,he2,hb⟩
end Go.Proofs.YtemgclnkgieldaaGreatDoor.CX
