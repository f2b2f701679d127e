/- Calls by runs: plain arguments or symbols, a plain result; calls that are known beforehand. -/
import Derived.Test.YtemgclnkgieldaaGreatDoorE4
import Derived.Test.YtemgclnkgieldaaGreatDoorProg
noncomputable section
namespace Go.Proofs.YtemgclnkgieldaaGreatDoor.CX
open Go Go.RowKit
def plain2:Value→Bool
 | .tuple ⟨l⟩=>allB plain l
 |v=>plain v
theorem VR.plain2_eq {E:En}{v u:Value}(hp:plain2 v=true)(h:VR E v u):u=v:=by
 unfold plain2 at hp
 split at hp
 ·obtain ⟨l',rfl,hl⟩:=h.tuple_inv
  rw[LR.plain_eq hp hl]
 ·exact VR.plain_eq hp h
def En.zero (ng:Nat)(s:Nat→Value)(one:∀ n,(s n).oneCell'=true):En:={ f:=fun g=>if g<ng then some ⟨g,0,0⟩ else none,s:=s,one:=one }
def Hp.zero (ng:Nat):Hp:={ next:=ng,bs := .leaf }
theorem Hp.zero_ob (ng i:Nat):(Hp.zero ng).ob i=none:=rfl
theorem HR.zero (ng:Nat)(s:Nat→Value)(one:∀ n,(s n).oneCell'=true)(w:World):HR (En.zero ng s one) (Hp.zero ng) w :=
 ⟨fun i hi=>qW (by have:ng≤i:=hi;omega),fun i o h=>(by rw[Hp.zero_ob] at h;cases h),fun i j o o' e e' h=>(by rw[Hp.zero_ob] at h;cases h)⟩
theorem GOk.zero (ng:Nat)(s:Nat→Value)(one:∀ n,(s n).oneCell'=true):GOk ⟨ng,s⟩ (En.zero ng s one):=⟨fun _ hg=>⟨0,qX hg⟩,rfl⟩
theorem HR.below {E:En}{h:Hp}{w w':World}(H:HR E h w)(hb:Below w.heap.size w w'):HR E h w' :=
 ⟨H.fresh,fun i o hi=>by
  obtain ⟨e,he,ho⟩:=H.obj i o hi
  exact ⟨e,he,ho.mono (En.le_refl E) (hb.block _ ho.lt)⟩,H.inj⟩
theorem Stp.of_below {E:En}{h:Hp}{w w':World}(H:HR E h w)(hb:Below w.heap.size w w'):Stp E E h h w w' :=
 ⟨En.le_refl E,H.below hb,hb.os,hb.tape,hb.output,hb.size,fun k hk hi=>⟨hb.block k hk,hi⟩,fun _ _ hi=>hi⟩
theorem zsm {E:En}:∀ {l l':List Value},allB psym l=true→LR E l l'→l'=l.map (conc E.s)
 | [],_,_,.nil=>rfl
 |a :: l,_,h,.cons r t=>by
  have h1:=(zag _ _).1 h
  rw[VR.psym_inv (h1 a (by simp)) r,zsm ((zag _ _).2 fun b hb=>h1 b (by simp[hb])) t];rfl
theorem zi8 {E:En}:∀ {l:List Value},allB psym l=true→LR E l (l.map (conc E.s))
 | [],_ => .nil
 |a :: l,h=>by
  have h1:=(zag _ _).1 h
  exact .cons (VR.of_psym (h1 a (by simp))) (zi8 ((zag _ _).2 fun b hb=>h1 b (by simp[hb])))
theorem zxz {x:X}(hx:x.Ok)(one:∀ n,(x.ng.s n).oneCell'=true){fuel k:Nat}{av:List Value}{v:Value}{h':Hp}(hh:fcall x fuel k av (Hp.zero x.ng.n)=some (v,h'))(has:allB psym av=true)(hv:plain2 v=true)(w:World) :
  Calls x.P k ⟨av.map (conc x.ng.s)⟩ w fun e w'=>e = .returned v∧Below w.heap.size w w':=by
 rw[zei] at hh
 refine (zcg hx hh (HR.zero x.ng.n x.ng.s one w) (GOk.zero x.ng.n x.ng.s one) (zi8 has)).mono ?_
 rintro e w' ⟨E',u,rfl,st,hu⟩
 rw[VR.plain2_eq hv hu]
 exact ⟨rfl,st.below (Nat.le_refl _) fun k _=>by rintro ⟨i,o,e,h,_⟩;rw[Hp.zero_ob] at h;cases h⟩
def gives1 (x:X)(fuel k:Nat)(av:List Value)(v:Value):Bool :=
 Option.rec (motive:=fun _=>Bool) false (fun p=>eqV p.1 v) (fcall x fuel k av (Hp.zero x.ng.n))
theorem zqh {x:X}(hx:x.Ok)(one:∀ n,(x.ng.s n).oneCell'=true){fuel k:Nat}{av:List Value}{v:Value}(hh:gives1 x fuel k av v=true)(has:allB psym av=true)(hv:plain2 v=true)(w:World) :
  Calls x.P k ⟨av.map (conc x.ng.s)⟩ w fun e w'=>e = .returned v∧Below w.heap.size w w':=by
 unfold gives1 at hh
 cases hf:fcall x fuel k av (Hp.zero x.ng.n) with
 |none=>rw[hf] at hh;cases hh
 |some p =>
  obtain ⟨u,h'⟩:=p
  rw[hf] at hh
  have:=zhq (a:=u) (b:=v) hh;subst this
  exact zxz hx one hf has hv w
def noFacts:BinOp→Value→Value→Option Value:=fun _ _ _=>none
def noOrc:Nat→List Value→Hp→Option (Value×Hp):=fun _ _ _=>none
def noSym:Nat→Value:=fun _ => .bool false
theorem zqi (s:Nat→Value):FactsOk s noFacts:=fun _ _ _ _ h=>by cases h
theorem zaq (P:Program)(ng:Gb):OrcOk P ng noOrc:=fun _ _ _ _ _ h=>by cases h
theorem zc3 (n:Nat):(noSym n).oneCell'=true:=rfl
theorem zf9 {x:X}(hx:x.Ok)(one:∀ n,(x.ng.s n).oneCell'=true){fuel k:Nat}{av:List Value}{v:Value}(hh:gives1 x fuel k av v=true)(has:allB plain av=true)(hv:plain2 v=true)(w:World) :
  Calls x.P k ⟨av⟩ w fun e w'=>e = .returned v∧Below w.heap.size w w':=by
 unfold gives1 at hh
 cases hf:fcall x fuel k av (Hp.zero x.ng.n) with
 |none=>rw[hf] at hh;cases hh
 |some p =>
  obtain ⟨u,h'⟩:=p
  rw[hf] at hh
  have:=zhq (a:=u) (b:=v) hh;subst this
  rw[zei] at hf
  refine (zcg hx hf (HR.zero x.ng.n x.ng.s one w) (GOk.zero x.ng.n x.ng.s one) (F2.refl _ fun a ha=>VR.of_plain ((zag _ _).1 has a ha))).mono ?_
  rintro e w' ⟨E',u',rfl,st,hu⟩
  rw[VR.plain2_eq hv hu]
  exact ⟨rfl,st.below (Nat.le_refl _) fun k _=>by rintro ⟨i,o,e,h,_⟩;rw[Hp.zero_ob] at h;cases h⟩
def orcP (f0:Nat)(as0:List Value)(v0:Value):Nat→List Value→Hp→Option (Value×Hp):=fun f av h=>cond (Nat.beq f f0) (cond (eqL av as0) (some (v0,h)) none) none
theorem zsn {P:Program}{ng:Gb}{f0:Nat}{as0:List Value}{v0 u0:Value}(has:allB psym as0=true)(hv:∀ E:En,E.s=ng.s→VR E v0 u0)
  (hc:∀ W,Calls P f0 ⟨as0.map (conc ng.s)⟩ W fun e w'=>e = .returned u0∧Below W.heap.size W w'):OrcOk P ng (orcP f0 as0 v0):=by
 intro k av h v h' hh E w av' H hg ha
 unfold orcP at hh
 replace hh:=zac hh;obtain ⟨h1,hh⟩:=hh
 replace hh:=zac hh;obtain ⟨h2,hh⟩:=hh
 injection hh with hh;injection hh with h3 h4;subst h3;subst h4
 have h1:=zay h1;subst h1
 have h2:=zrx h2;subst h2
 rw[zsm has ha,hg.2]
 refine (hc w).mono ?_
 rintro e w' ⟨rfl,hb⟩
 exact ⟨E,u0,rfl,Stp.of_below H hb,hv E hg.2⟩
def orcOr (p q:Nat→List Value→Hp→Option (Value×Hp)):Nat→List Value→Hp→Option (Value×Hp):=fun f av h=>Option.rec (motive:=fun _=>Option (Value×Hp)) (q f av h) (fun r=>some r) (p f av h)
theorem zaf {P:Program}{ng:Gb}{p q:Nat→List Value→Hp→Option (Value×Hp)}(hp:OrcOk P ng p)(hq:OrcOk P ng q):OrcOk P ng (orcOr p q):=by
 intro k av h v h' hh
 unfold orcOr at hh
 cases hr:p k av h with
 |none=>rw[hr] at hh;exact hq k av h v h' hh
 |some r=>rw[hr] at hh;injection hh with hh;subst hh;exact hp k av h v h' hr
end Go.Proofs.YtemgclnkgieldaaGreatDoor.CX
