/- A server with its book: acts on both. -/
import Derived.Test.YtemgclnkgieldaaGreatDoorVj
set_option maxHeartbeats 2000000
set_option maxRecDepth 100000
namespace Go.Proofs.YtemgclnkgieldaaGreatDoor.Oc
open Go Go.RowKit Dk
theorem BX.alt {w w':World}{B g gd room k:Nat}{C:Con}{ks:List Kt}{ns:List Nt}{bm:Nat}{A:Option Addr}{c:Nat}{S:St}{f:Int}{L:List Ly}(h:BX w B g gd room k C ks ns bm A c S f L){p:Nat→Prop}(ha:Alt w w' p)(hp:∀ q,q<w.heap.size→p q→¬ TB w q):BX w' B g gd room k C ks ns bm A c S f L:=by
 refine ⟨?_,h.2⟩
 have hz:=h.1
 have hno:∀ q,Mt g gd bm (Value.slice A S.xs.length c).ownBlock L q→q<w.heap.size→¬ p q:=fun q hq hlt hpq=>hp q hlt hpq (hz.tb hq)
 have hbk:=hz.bw.bk
 have hmp:∀ {K:Type} {kv:KeyV K} {b:Nat} {m:List (K×Value)},MapIs w kv b m→¬ p b:=fun hm hpb=>by
  obtain ⟨es,n,hb,_⟩:=hm
  exact hp _ (Array.getElem?_eq_some_iff.1 hb).1 hpb (.inl ⟨es,n,hb⟩)
 have hb8:∀ {q:Nat} {t:TypeId} {cs:Array Value},Blk w q t cs→(t=5∨t=157∨t=154∨t=240)→¬ p q:=fun hq ht hpq=>hp _ hq.lt hpq (.inr ⟨_,_,_,hq,ht⟩)
 refine ⟨⟨⟨hbk.blk.kept ha (hb8 hbk.blk (.inr (.inl rfl))),hbk.map.alt ha (hmp hbk.map),fun l hl=>?_,hbk.gs,hbk.bs,hbk.sm⟩,hz.bw.dk.kept ha (hb8 hz.bw.dk (.inr (.inr (.inl rfl)))),hz.bw.own.keep ha (fun q hq=>?_),hz.bw.ok,hz.bw.fu,hz.bw.up,hz.bw.sf,kH hz.bw.b0l ha.size⟩,hz.hg,hz.hl⟩
 ·obtain ⟨h1,h2,h3⟩:=hbk.sh l hl
  refine ⟨h1.kept ha (hb8 h1 (.inr (.inr (.inr rfl)))),h2.alt ha (hmp h2),fun r hr=>?_⟩
  obtain ⟨ad,c',e,h0,hrb,hn,hrr⟩:=h3 r hr
  obtain ⟨ad',e',hlt,_⟩:=hrb h0
  injection e' with e'
  subst e'
  have hpa:¬ p ad.block:=by
   obtain ⟨_,cur,fr,hh,_⟩:=hrr
   exact fun hpq=>hp _ hlt hpq (.inr ⟨_,_,_,hh,.inl rfl⟩)
  exact ⟨ad,c',e,h0,hrb.keep ha (fun ad' e' hpp=>by injection e' with e';subst e';exact hpa hpp),hn,hrr.keep (ha.block _ hlt hpa)⟩
 ·obtain ⟨_,h2⟩:=hz.D q hq
  exact hno q (.inr (.inr (.inl hq.symm))) h2
theorem BT.alt {w w':World}{B g gd room k:Nat}{C:Con}(h:BT w B g gd room k C){p:Nat→Prop}(ha:Alt w w' p)(hp:∀ q,q<w.heap.size→p q→¬ TB w q):BT w' B g gd room k C:=by
 obtain ⟨ks,ns,bm,A,c,S,f,L,h1⟩:=h
 exact BX.bt (BX.alt h1 ha hp)
structure SvH (PR:SMod)(M:List Int→Prop)(Cq:List Value→Prop)(ans:List Int→List Value→List Value×Int):Prop where
 an:AnsH PR M Cq ans
 one:∀ ms xs,M ms→∀ u∈(ans ms xs).1,u.oneCell'=true
 rd:∀ ms,M ms→ReadIs ms (fun W W' cs=>∀ W'',Alt W' W'' (fun k=>k<W.heap.size)→PR W'' ms cs)
 mok:∀ w ms cs,M ms→PR w ms cs→MOk w cs ms
 nt:∀ ms,M ms→IsB ms∧0<ms.length∧ms.length≤12000∧ReadOk ms
 is:IsOk nA
def ChgOut (PR:SMod)(M:List Int→Prop)(Cq:List Value→Prop)(ans:List Int→List Value→List Value×Int)(w:World)(B sp g gd room Mo W:Nat)(gs:List Gp)(t:Nat)(id ver er:Int)(k':Nat)(C':Con)(e:Ending)(w':World):Prop :=
 ∃ v gA gc,e = .returned v∧TRow w' w.heap.size v (expT ans W t false gs++[⟨id,ver,(t:Int),er,zR⟩])∧SVw PR M Cq w' B sp g Mo W t gA gc (expR W t false gs)∧BT w' B g gd room k' C'∧Kf w w'∧Below B w w'
theorem zmp {w:World}{k:Nat}(h:Tq w k):¬ TB w k:=by
 obtain ⟨cs,fr,h⟩:=h
 rintro (⟨es,q,e⟩|⟨cs',t',fr',e,ht⟩)
 ·rw[h] at e;cases e
 ·rw[h] at e
  injection e with e
  injection e with e1 e2
  subst e2
  rcases ht with ht|ht|ht|ht <;> exact absurd ht (by decide)
section
variable {PR:SMod}{M:List Int→Prop}{Cq:List Value→Prop}{ans:List Int→List Value→List Value×Int}{w:World}{B sp g gd room Mo W now t k:Nat}{gA:Option Addr}{gc:Nat}{gs:List Gp}{C:Con}
theorem zuh (hs:SVw PR M Cq w B sp g Mo W now gA gc gs):¬ TB w sp:=zcb hs.pt (by decide) (by decide) (by decide) (by decide)
theorem zoa (hb:BT w B g gd room k C)(hs:SVw PR M Cq w B sp g Mo W now gA gc gs){V:World}(ha:Alt w V (fun k=>k=sp)):BT V B g gd room k C :=
 hb.alt ha fun q _ e=>by rw[e];exact zuh hs
theorem zku (hs:SVw PR M Cq w B sp g Mo W now gA gc gs)(hB:B≤w.heap.size){id ver er:Int}{k':Nat}{C':Con}{Q:World→Int→Int→World→Prop}
  (hQ:∀ V ver' er' w3,Alt w V (fun k=>k=sp)→Q V ver' er' w3→ver'=ver∧er'=er∧BT w3 B g gd room k' C'∧Below B V w3) {e:Ending} {w':World}
  (h:DoChg PR M Cq ans w B sp g Mo W gs t id Q e w'):ChgOut PR M Cq ans w B sp g gd room Mo W gs t id ver er k' C' e w':=by
 obtain ⟨v,gA',gc',V,w3,ver',er',rfl,hv,hq,hk,ha,ht,hsv⟩:=h
 obtain ⟨rfl,rfl,hbt,hbl⟩:=hQ _ _ _ _ hv hq
 refine ⟨v,gA',gc',rfl,ht,hsv,hbt.alt ha fun q _ e=>zmp e.1,?_,?_⟩
 ·have h12:Kf w w3:=by
   refine Kf.trans (hv.mono fun q e=>?_) (Kb.kf hk)
   rw[e];exact TN.tf ⟨_,_,_,hs.pt,.inl rfl⟩
  exact Alt.trans h12 ha fun q hq e=>absurd e.2 (Nat.not_le.2 hq)
 ·have h1:Below B w V:=Alt.toBelow hv (fun q _ e=>by rw[e];exact hs.b) hB
  exact (h1.trans hbl).trans (Alt.toBelow ha (fun q _ e=>kH hB e.2) (kH h1.size hbl.size |> kH hB))
variable (hh:SvH PR M Cq ans)
structure ActOk (w:World)(a:Ac)(t:Nat):Prop where
 fc:FineC a.kind a.id a.ver a.time a.name.size a.mn a.cn
 tm:a.time=(t:Int)
 cn:a.cA=none∧a.cn=0∧a.cc=0
theorem zwk (ck:List Value→Bool):CellsOf ck 0 [] []:=⟨rfl,rfl,(fun _ h=>by cases h),(fun _ h=>by cases h)⟩
theorem ActOk.row {a:Ac}(h:ActOk w a t):w.ownsRow 0 124 7 (.slice a.cA a.cn a.cc) a.cn []:=by
 obtain ⟨h1,h2,h3⟩:=h.cn
 rw[h1,h2,h3]
 exact World.ownsRow_nil _ _ _ _
theorem ActOk.cells {a:Ac}(h:ActOk w a t):CellsOf (fun _=>true) a.cn [] []:=by
 rw[h.cn.2.1];exact zwk _
include hh
theorem zzq (hs:SVw PR M Cq w B sp g Mo W now gA gc gs)(hb:BT w B g gd room k C)(hB:B≤w.heap.size)(hsm:Sm gs)(hW:W≤2000000000)(hT:(expT ans W t true gs).length≤90000){a:Ac}(ha:ActOk w a t)(hk:a.kind=5)(hnow:now≤t) :
  Calls Tryz.prog 6 #[.pointer (some ⟨sp,0,none⟩),.agg (cellsA a)] w fun e w'=>∃ v gA gc,e = .returned v∧TRow w' w.heap.size v (expT ans W t true gs)∧SVw PR M Cq w' B sp g Mo W t gA gc (expR W t true gs)∧BT w' B g gd room k C∧Kf w w'∧Below B w w':=by
 refine (zzn hh.an hs hB hsm hW hT ha.cells rfl ha.row ha.fc ha.tm hnow hk).mono ?_
 rintro e w' ⟨v,gA',gc',rfl,ht,hsv,hal⟩
 refine ⟨v,gA',gc',rfl,ht,hsv,zoa hb hs hal,hal.mono fun q e=>?_,Alt.toBelow hal (fun q _ e=>by rw[e];exact hs.b) hB⟩
 rw[e];exact TN.tf ⟨_,_,_,hs.pt,.inl rfl⟩
theorem zwl (hs:SVw PR M Cq w B sp g Mo W now gA gc gs)(hb:BT w B g gd room k C)(hkb:k≤100)(hroom:(k+1)*20000≤room)(hB:B≤w.heap.size)(hsm:Sm gs)(hW:W≤2000000000)(hT:(expT ans W t false gs).length≤90000){a:Ac}(ha:ActOk w a t)(hk:a.kind=2)(hnow:now≤t){v:Nat}(hv:a.ver=(v:Int))(hn:NtOk ⟨2,a.name,v,[]⟩) :
  Calls Tryz.prog 6 #[.pointer (some ⟨sp,0,none⟩),.agg (cellsA a)] w (ChgOut PR M Cq ans w B sp g gd room Mo W gs t a.id (if refC C 2 a.name v=0 then (v:Int) else 0) (refC C 2 a.name v) (k+1) (stepK C ⟨2,a.name,v,[]⟩)):=by
 refine (zpl (Q:=fun V ver er w3=>∃ V',Below V.heap.size V V'∧(ver=if refC C 2 a.name v=0 then (v:Int) else 0)∧er=refC C 2 a.name v∧BT w3 B g gd room (k+1) (stepK C ⟨2,a.name,v,[]⟩)∧BK B V' w3) hh.an hs hB hsm hW hT ha.cells rfl ha.row ha.fc ha.tm hnow (.inr (.inl hk)) (fun V hV hp=>?_)).mono ?_
 ·obtain ⟨rA,rc,hp⟩:=hp
  refine (zmi (Q:=fun V' r w3=>r=refC C 2 a.name v∧BT w3 B g gd room (k+1) (stepK C ⟨2,a.name,v,[]⟩)∧BK B V' w3) hk hp (fun V' hV'=>?_)).mono ?_
  ·refine ((hv ▸ zv9 ((zoa hb hs hV).below hV') hkb hroom hn)).mono ?_
   rintro e w' ⟨rfl,h1,h2⟩
   exact ⟨_,rfl,⟨rfl,h1,h2⟩,h2.kb⟩
  ·rintro e w' ⟨V',r,hb',⟨rfl,h1,h2⟩,hk',rfl⟩
   by_cases h0:refC C 2 a.name v=0
   ·exact ⟨(v:Int),0,by rw[kZ h0,hv],⟨V',hb',by rw[kZ h0],h0.symm,h1,h2⟩,(Kb.of hb').trans hk'⟩
   ·exact ⟨0,_,by rw[kT h0],⟨V',hb',by rw[kT h0],rfl,h1,h2⟩,(Kb.of hb').trans hk'⟩
 ·intro e w' h
  refine zku hs hB (fun V ver' er' w3 hV hq=>?_) h
  obtain ⟨V',hb',h1,h2,h3,h4⟩:=hq
  exact ⟨h1,h2,h3,(hb'.mono (kH hB hV.size)).trans h4.bel⟩
end
section
variable {PR:SMod}{M:List Int→Prop}{Cq:List Value→Prop}{ans:List Int→List Value→List Value×Int}{w:World}{B sp g gd room Mo W now t k:Nat}{gA:Option Addr}{gc:Nat}{gs:List Gp}{C:Con}(hh:SvH PR M Cq ans)
include hh
theorem zzr (hs:SVw PR M Cq w B sp g Mo W now gA gc gs)(hb:BT w B g gd room k C)(hkb:k≤100)(hroom:(k+1)*20000≤room)(hB:B≤w.heap.size)(hsm:Sm gs)(hW:W≤2000000000)(hT:(expT ans W t false gs).length≤90000){a:Ac}(ha:ActOk w a t)(hk:a.kind=3)(hnow:now≤t){v:Nat}(hv:a.ver=(v:Int))(hn:NtOk ⟨3,a.name,v,[]⟩) :
  Calls Tryz.prog 6 #[.pointer (some ⟨sp,0,none⟩),.agg (cellsA a)] w (ChgOut PR M Cq ans w B sp g gd room Mo W gs t a.id (if refC C 3 a.name v=0 then (v:Int) else 0) (refC C 3 a.name v) (k+1) (stepK C ⟨3,a.name,v,[]⟩)):=by
 refine (zpl (Q:=fun V ver er w3=>∃ V',Below V.heap.size V V'∧(ver=if refC C 3 a.name v=0 then (v:Int) else 0)∧er=refC C 3 a.name v∧BT w3 B g gd room (k+1) (stepK C ⟨3,a.name,v,[]⟩)∧BK B V' w3) hh.an hs hB hsm hW hT ha.cells rfl ha.row ha.fc ha.tm hnow (.inr (.inr (.inl hk))) (fun V hV hp=>?_)).mono ?_
 ·obtain ⟨rA,rc,hp⟩:=hp
  refine (zn5 (Q:=fun V' r w3=>r=refC C 3 a.name v∧BT w3 B g gd room (k+1) (stepK C ⟨3,a.name,v,[]⟩)∧BK B V' w3) hk hp (fun V' hV'=>?_)).mono ?_
  ·refine ((hv ▸ zzd ((zoa hb hs hV).below hV') hkb hroom hn)).mono ?_
   rintro e w' ⟨rfl,h1,h2⟩
   exact ⟨_,rfl,⟨rfl,h1,h2⟩,h2.kb⟩
  ·rintro e w' ⟨V',r,hb',⟨rfl,h1,h2⟩,hk',rfl⟩
   by_cases h0:refC C 3 a.name v=0
   ·exact ⟨(v:Int),0,by rw[kZ h0,hv],⟨V',hb',by rw[kZ h0],h0.symm,h1,h2⟩,(Kb.of hb').trans hk'⟩
   ·exact ⟨0,_,by rw[kT h0],⟨V',hb',by rw[kT h0],rfl,h1,h2⟩,(Kb.of hb').trans hk'⟩
 ·intro e w' h
  refine zku hs hB (fun V ver' er' w3 hV hq=>?_) h
  obtain ⟨V',hb',h1,h2,h3,h4⟩:=hq
  exact ⟨h1,h2,h3,(hb'.mono (kH hB hV.size)).trans h4.bel⟩
theorem zzs (hs:SVw PR M Cq w B sp g Mo W now gA gc gs)(hb:BT w B g gd room k C)(hkb:k≤50)(hB:B≤w.heap.size)(hsm:Sm gs)(hW:W≤2000000000)(hT:(expT ans W t false gs).length≤90000){a:Ac}(ha:ActOk w a t)(hk:a.kind=6)(hnow:now≤t) :
  Calls Tryz.prog 6 #[.pointer (some ⟨sp,0,none⟩),.agg (cellsA a)] w (ChgOut PR M Cq ans w B sp g gd room Mo W gs t a.id 0 0 k C):=by
 refine (zpl (Q:=fun V ver er w3=>∃ V',Below V.heap.size V V'∧ver=0∧er=0∧BT w3 B g gd room k C∧BK B V' w3) hh.an hs hB hsm hW hT ha.cells rfl ha.row ha.fc ha.tm hnow (.inr (.inr (.inr hk))) (fun V hV hp=>?_)).mono ?_
 ·obtain ⟨rA,rc,hp⟩:=hp
  refine (zn6 (Q:=fun V' r w3=>r=0∧BT w3 B g gd room k C∧BK B V' w3) hk hp (fun V' hV'=>?_)).mono ?_
  ·refine (zzc ((zoa hb hs hV).below hV') hkb).mono ?_
   rintro e w' ⟨rfl,h1,h2⟩
   exact ⟨_,rfl,⟨rfl,h1,h2⟩,h2.kb⟩
  ·rintro e w' ⟨V',r,hb',⟨rfl,h1,h2⟩,hk',rfl⟩
   exact ⟨0,0,rfl,⟨V',hb',rfl,rfl,h1,h2⟩,(Kb.of hb').trans hk'⟩
 ·intro e w' h
  refine zku hs hB (fun V ver' er' w3 hV hq=>?_) h
  obtain ⟨V',hb',h1,h2,h3,h4⟩:=hq
  exact ⟨h1,h2,h3,(hb'.mono (kH hB hV.size)).trans h4.bel⟩
omit hh in
theorem zzt (hs:SVw PR M Cq w B sp g Mo W now gA gc gs){ad:Addr}{c:Nat}{ms:List Int}(hr:RowR w ad c ms){V:World}(ha:Alt w V (fun k=>k=sp)):RowR V ad c ms:=by
 have hr':=hr
 obtain ⟨_,cur,fr,h1,_⟩:=hr'
 refine hr.keep (ha.block _ (Array.getElem?_eq_some_iff.1 h1).1 fun e=>?_)
 have h2:=hs.pt
 unfold Blk at h2
 rw[← e,h1] at h2
 injection h2 with h2
 injection h2 with _ h3
 exact absurd h3 (by decide)
theorem sv_put (hs:SVw PR M Cq w B sp g Mo W now gA gc gs)(hb:BT w B g gd room k C)(hkb:k≤100)(hroom:(k+1)*20000≤room)(hB:B≤w.heap.size)(hsm:Sm gs)(hW:W≤2000000000)(hT:(expT ans W t false gs).length≤90000){a:Ac}(ha:ActOk w a t)(hk:a.kind=1)(hnow:now≤t){ad:Addr}{ms:List Int}(hm:M ms)(hmA:a.mA=some ad)(hmn:a.mn=ms.length)(hrow:RowR w ad a.mc ms){v:Nat}(hv:v=nextC C a.name)(hfu:fullC C a.name=false)(hn:NtOk ⟨1,a.name,v,ms⟩) :
  Calls Tryz.prog 6 #[.pointer (some ⟨sp,0,none⟩),.agg (cellsA a)] w (ChgOut PR M Cq ans w B sp g gd room Mo W gs t a.id (v:Int) 0 (k+1) (pfC C ⟨1,a.name,v,ms⟩)):=by
 refine (zpl (Q:=fun V ver er w3=>∃ V',Below V.heap.size V V'∧ver=(v:Int)∧er=0∧BT w3 B g gd room (k+1) (pfC C ⟨1,a.name,v,ms⟩)∧BK B V' w3) hh.an hs hB hsm hW hT ha.cells rfl ha.row ha.fc ha.tm hnow (.inl hk) (fun V hV hp=>?_)).mono ?_
 ·obtain ⟨rA,rc,hp⟩:=hp
  have hrv:=zzt hs hrow hV
  refine (zq4 (er:=0) (RM:=fun W cs=>PR W ms cs) (Q:=fun V' x r w3=>x=(v:Int)∧r=0∧BT w3 B g gd room (k+1) (pfC C ⟨1,a.name,v,ms⟩)∧BK B V' w3) hk hp (fun V' hV'=>?_) (fun V1 V2 cs h h2=>hh.an.st _ _ _ _ _ h (alt_of_below (p:=fun _=>False) h2) (fun _ _ h=>h.elim)) (fun V' cs hV' hpr _=>?_)).mono ?_
  ·rw[hmA,hmn]
   have hlt:ad.block<V.heap.size:=by
    obtain ⟨_,cur,fr,h1,_⟩:=hrv
    exact (Array.getElem?_eq_some_iff.1 h1).1
   refine (hh.rd ms hm V' ad a.mc (hrv.keep (hV'.block _ hlt)) (hh.nt ms hm).2.1).mono ?_
   rintro e w' ⟨cs,rfl,h1,h2,h3,h4⟩
   exact ⟨cs,rfl,h1,h2,h4,fun _=>h3 _ (Alt.refl _ _)⟩
  ·refine (put_bt ((zoa hb hs hV).below hV') hkb hroom hn hv hfu (hh.mok _ _ _ hm hpr)).mono ?_
   rintro e w' ⟨rfl,h1,h2⟩
   exact ⟨_,_,rfl,⟨rfl,rfl,h1,h2⟩,h2.kb⟩
  ·rintro e w' (⟨h0,_⟩|⟨_,V',x,r,hb',⟨rfl,rfl,h1,h2⟩,hk',rfl⟩)
   ·exact absurd rfl h0
   ·exact ⟨_,_,rfl,⟨V',hb',rfl,rfl,h1,h2⟩,(Kb.of hb').trans hk'⟩
 ·intro e w' h
  refine zku hs hB (fun V ver' er' w3 hV hq=>?_) h
  obtain ⟨V',hb',h1,h2,h3,h4⟩:=hq
  exact ⟨h1,h2,h3,(hb'.mono (kH hB hV.size)).trans h4.bel⟩
omit hh in
theorem sm_exp (hsm:Sm gs)(W t:Nat)(due:Bool):Sm (expR W t due gs) :=
 ⟨kH (List.length_filter_le _ _) hsm.1,fun x hx=>hsm.2 x (List.mem_filter.1 hx).1⟩
theorem sv_ask (hs:SVw PR M Cq w B sp g Mo W now gA gc gs)(hb:BT w B g gd room k C)(hB:B≤w.heap.size)(hsm:Sm gs)(hW:W≤2000000000)(hT:(expT ans W t false gs).length≤90000){a:Ac}(hk:a.kind=4)(hnow:now≤t)(hf:FineC a.kind a.id a.ver a.time a.name.size a.mn a.cn)(ht:a.time=(t:Int))
  {ck:List Value→Bool} {xs:List Value} {cl:List (List Value)} (hc:CellsOf ck a.cn xs cl) (hck:cl.all ck=true) (hcq:Cq xs) (hrow:w.ownsRow 0 124 7 (.slice a.cA a.cn a.cc) a.cn xs)
  {s:Sh} (hfs:fndC C a.name=some s) {ver0 kv:Nat} (hv0:a.ver=(ver0:Int)) (hvb:ver0≤1000000) (hkv:kv=if ver0=0 then s.live else ver0) {ms:List Int} (hm:M ms) (hms:(kv,ms)∈s.vs) (hnum:numC C a.name≠0) (hlv:liveC C a.name=s.live) :
  Calls Tryz.prog 6 #[.pointer (some ⟨sp,0,none⟩),.agg (cellsA a)] w fun e w'=>∃ v gA gc gs',e = .returned v∧gs'.map Gp.p=(askP ans Mo t a.name kv ms ⟨a.id,xs⟩ ((expR W t false gs).map Gp.p)).1∧TRow w' w.heap.size v (expT ans W t false gs++(askP ans Mo t a.name kv ms ⟨a.id,xs⟩ ((expR W t false gs).map Gp.p)).2)∧SVw PR M Cq w' B sp g Mo W t gA gc gs'∧BT w' B g gd room k C∧Kf w w'∧Below B w w':=by
 have hx1:∀ u∈xs,u.oneCell'=true:=fun u hu=>by
  rw[hc.eq] at hu
  obtain ⟨l,hl,hu⟩:=List.mem_flatten.1 hu
  exact (hc.sz l hl).2 u hu
 have hcn:a.cn≤1000:=kH hf.2.2.2.2.2.1 (by decide)
 have hse:=sm_exp hsm W t false
 refine (zxj (er:=0) (name:=a.name) (kv:=kv) (Mo:=Mo) hh.an hs hB hsm hW hT hc hck hrow hf ht hnow hk hm ⟨hx1,fun ms' q hm'=>hh.one ms' q.xs hm'⟩ (fun V rA rc hV hsv hrv=>?_)).mono ?_
 ·have hbv:=zoa hb hs hV
  refine (zuf (er:=0) hh.an hsv.pt hsv.sg hsv.b hcq hrv hx1 hcn (kH hB hV.size) hse.1 (fun x hx=>kH (hse.2 x hx).1 (by decide)) hm hv0 hkv (lv:=s.live) (fun _ _ V' hV'=>?_) (fun V' hV'=>?_)).mono ?_
  ·refine (zzg (hbv.below hV') a.name).mono ?_
   rintro e w' ⟨rfl,hbl⟩
   rw[kT hnum,hlv]
   exact ⟨rfl,hbl⟩
  ·rw[hv0]
   refine (get_bt (hbv.below hV') hfs ver0 kv hkv hvb hms (hh.rd ms hm)).mono ?_
   rintro e w' ⟨cs,W1,W2,rfl,h1,h2,h3,h4,h5,h6,h7,h8⟩
   refine ⟨cs,rfl,h1,h2,h8,fun _ W3 hW3=>h4 W3 (Alt.trans (h7.mono fun q e=>by rw[e];exact h6) hW3 (fun q _ e=>Nat.lt_trans e h6))⟩
  ·intro e w' h
   exact AskPost.u hh.an hsv (fun x hx=>kH (hse.2 x hx).1 (by decide)) h
 ·rintro e w' (⟨h0,_⟩|⟨_,v,gA',gc',gs',rfl,hp,htr,hsv,hks,hbl⟩)
  ·exact absurd rfl h0
  ·exact ⟨v,gA',gc',gs',rfl,hp,htr,hsv,hb.alt hks fun q _ e=>e.no_tb,hks.kf,hbl⟩
end
open Go
def wIds (gs:List Pg):List Int:=gs.flatMap fun g=>g.rs.map Pq.id
def gIds (got:List Td):List Int:=(got.map Td.id).filter fun i=>decide (i≠99999)
def rIds (n:Nat):List Int:=(List.range n).map Int.ofNat
theorem zwm (a b:List Pg):wIds (a++b)=wIds a++wIds b:=by unfold wIds;rw[List.flatMap_append]
theorem zfv (a b:List Td):gIds (a++b)=gIds a++gIds b:=by unfold gIds;rw[kL,List.filter_append]
theorem zwn {n:Nat}{i:Int}:i∈rIds n↔∃ k,k<n∧i=(k:Int):=by
 unfold rIds
 rw[kO]
 constructor
 ·rintro ⟨k,hk,rfl⟩;exact ⟨k,List.mem_range.1 hk,rfl⟩
 ·rintro ⟨k,hk,rfl⟩;exact ⟨k,List.mem_range.2 hk,rfl⟩
theorem zui (n:Nat):rIds (n+1)=rIds n++[(n:Int)]:=by unfold rIds;rw[List.range_succ,kL];rfl
theorem zkv {ts:List Td}(h:∀ t∈ts,t.id≠99999):gIds ts=ts.map Td.id:=by
 unfold gIds
 rw[List.filter_eq_self]
 intro i hi
 obtain ⟨t,ht,rfl⟩:=kO.1 hi
 exact kW (h t ht)
section
variable (ans:List Int→List Value→List Value×Int)(P:Nat→List Int)(cx:Int→List Value)(Mo W:Nat)
def Wt (now:Nat)(at_ of_:List Nat)(x:List Int)(g:Pg)(q:Pq):Prop :=
 ∃ i a n,q.id=((i:Nat):Int)∧at_[i]? = some a∧of_[i]? = some g.ver∧x[i]? = some n∧q.xs=cx n∧g.time≤a∧a≤now
structure GI (nm:ByteArray)(now:Nat)(at_ of_:List Nat)(x:List Int)(g:Pg):Prop where
 nm:g.name=nm
 ms:g.ms=P g.ver
 on:g.time≤now
 un:now≤g.time+W
 ne:0<g.rs.length
 lt:g.rs.length<Mo
 wt:∀ q∈g.rs,Wt cx now at_ of_ x g q
def Rt (at_ of_:List Nat)(x:List Int)(t:Td):Prop :=
 (t.id=99999∧t.err=0∧t.rp=zR)∨∃ i a v n b,t.id=((i:Nat):Int)∧at_[i]? = some a∧of_[i]? = some v∧x[i]? = some n∧t.ver=(v:Int)∧t.time=((b:Nat):Int)∧a≤b∧b≤a+W∧t.err=(ans (P v) (cx n)).2∧t.rp=(ans (P v) (cx n)).1
structure LI (nm:ByteArray)(now:Nat)(at_ of_:List Nat)(x:List Int)(gs:List Pg)(got:List Td):Prop where
 l1:of_.length=at_.length
 l2:x.length=at_.length
 le:at_.length≤1000
 gi:∀ g∈gs,GI P cx Mo W nm now at_ of_ x g
 rt:∀ t∈got,Rt ans P cx W at_ of_ x t
 pm:(wIds gs++gIds got).Perm (rIds at_.length)
end
section
variable {ans:List Int→List Value→List Value×Int}{P:Nat→List Int}{cx:Int→List Value}{Mo W:Nat}{nm:ByteArray}{now:Nat}{at_ of_:List Nat}{x:List Int}{gs:List Pg}{got:List Td}
theorem LI.start (_hMo:1≤Mo):LI ans P cx Mo W nm 0 [] [] [] [] []:=⟨rfl,rfl,kX _,(fun _ h=>by cases h),(fun _ h=>by cases h),.refl _⟩
theorem Wt.id_lt {g:Pg}{q:Pq}(h:Wt cx now at_ of_ x g q):∃ i,i<at_.length∧q.id=((i:Nat):Int):=by
 obtain ⟨i,a,n,h1,h2,_⟩:=h
 exact ⟨i,(kK.1 h2).1,h1⟩
theorem zgh (p:Pg→Bool):∀ gs:List Pg,(wIds (gs.filter fun g => !(p g))++wIds (gs.filter p)).Perm (wIds gs)
 | [] => .refl _
 |g :: gs=>by
  have ih:=zgh p gs
  have e:wIds (g :: gs)=g.rs.map Pq.id++wIds gs:=by unfold wIds;rw[qN]
  rw[qL,qL,e]
  cases p g with
  |true =>
   simp only[Bool.not_true,Bool.false_eq_true,if_false,if_true]
   have e2:wIds (g :: gs.filter p)=g.rs.map Pq.id++wIds (gs.filter p):=by unfold wIds;rw[qN]
   rw[e2]
   exact (List.perm_append_comm_assoc _ _ _).trans (ih.append_left _)
  |false =>
   simp only[Bool.not_false,Bool.false_eq_true,if_false,if_true]
   have e2:wIds (g :: gs.filter fun g => !(p g))=g.rs.map Pq.id++wIds (gs.filter fun g => !(p g)):=by unfold wIds;rw[qN]
   rw[e2,kR]
   exact ih.append_left _
theorem Wt.later {now':Nat}(hn:now≤now'){g:Pg}{q:Pq}(h:Wt cx now at_ of_ x g q):Wt cx now' at_ of_ x g q:=by
 obtain ⟨i,a,n,h1,h2,h3,h4,h5,h6,h7⟩:=h
 exact ⟨i,a,n,h1,h2,h3,h4,h5,h6,kH h7 hn⟩
theorem zmq (W now:Nat)(due:Bool)(gs:List Pg):(expTP ans W now due gs).map Td.id=wIds (gs.filter (expP W now due)):=by
 unfold expTP wIds
 rw[List.map_flatMap]
 congr 1
 funext g
 rw[qK]
 rfl
theorem not99 (h:LI ans P cx Mo W nm now at_ of_ x gs got){g:Pg}(hg:g∈gs){q:Pq}(hq:q∈g.rs):q.id≠99999:=by
 obtain ⟨i,hi,e⟩:=((h.gi g hg).wt q hq).id_lt
 have:=h.le
 rw[e]
 omega
theorem LI.exp (h:LI ans P cx Mo W nm now at_ of_ x gs got){now':Nat}(hn:now≤now')(due:Bool):LI ans P cx Mo W nm now' at_ of_ x (expRP W now' due gs) (got++expTP ans W now' due gs):=by
 refine ⟨h.l1,h.l2,h.le,fun g hg=>?_,fun t ht=>?_,?_⟩
 ·obtain ⟨hg1,hg2⟩:=List.mem_filter.1 hg
  have h0:=h.gi g hg1
  refine ⟨h0.nm,h0.ms,kH h0.on hn,?_,h0.ne,h0.lt,fun q hq=>(h0.wt q hq).later hn⟩
  unfold expP at hg2
  simp only[Bool.not_eq_true',Bool.or_eq_false_iff,decide_eq_false_iff_not] at hg2
  omega
 ·rcases kU.1 ht with ht|ht
  ·exact h.rt t ht
  ·unfold expTP at ht
   obtain ⟨g,hg,ht⟩:=List.mem_flatMap.1 ht
   obtain ⟨q,hq,rfl⟩:=kO.1 ht
   have h0:=h.gi g (List.mem_filter.1 hg).1
   obtain ⟨i,a,n,h1,h2,h3,h4,h5,h6,h7⟩:=h0.wt q hq
   refine .inr ⟨i,a,g.ver,n,g.time+W,h1,h2,h3,h4,rfl,rfl,kH h7 h0.un,by omega,?_,?_⟩
   ·show (ans g.ms q.xs).2=_
    rw[h0.ms,h5]
   ·show (ans g.ms q.xs).1=_
    rw[h0.ms,h5]
 ·rw[zfv,zkv (ts:=expTP ans W now' due gs) (fun t ht=>by
   unfold expTP at ht
   obtain ⟨g,hg,ht⟩:=List.mem_flatMap.1 ht
   obtain ⟨q,hq,rfl⟩:=kO.1 ht
   exact not99 h (List.mem_filter.1 hg).1 hq),zmq]
  have h1:=zgh (expP W now' due) gs
  have h2:(wIds (expRP W now' due gs)++(gIds got++wIds (gs.filter (expP W now' due)))).Perm (wIds gs++gIds got):=by
   have h3:(gIds got++wIds (gs.filter (expP W now' due))).Perm (wIds (gs.filter (expP W now' due))++gIds got):=List.perm_append_comm
   refine (h3.append_left _).trans ?_
   rw[← kR]
   exact h1.append_right _
  exact h2.trans h.pm
theorem LI.chg (h:LI ans P cx Mo W nm now at_ of_ x gs got)(ver tm:Int):LI ans P cx Mo W nm now at_ of_ x gs (got++[⟨99999,ver,tm,0,zR⟩]):=by
 refine ⟨h.l1,h.l2,h.le,h.gi,fun t ht=>?_,?_⟩
 ·rcases kU.1 ht with ht|ht
  ·exact h.rt t ht
  ·rw[kP.1 ht]
   exact .inl ⟨rfl,rfl,rfl⟩
 ·rw[zfv]
  have e:gIds [(⟨99999,ver,tm,0,zR⟩:Td)]=[]:=by unfold gIds;simp
  rw[e,qI]
  exact h.pm
theorem zer {α:Type}{l:List α}{i:Nat}{a b:α}(h:l[i]? = some a):(l++[b])[i]? = some a:=by
 rw[qB (kK.1 h).1,h]
theorem Wt.more {a' v':Nat}{n':Int}{g g':Pg}{q:Pq}(hv:g'.ver=g.ver)(ht:g'.time=g.time)(h:Wt cx now at_ of_ x g q):Wt cx now (at_++[a']) (of_++[v']) (x++[n']) g' q:=by
 obtain ⟨i,a,n,h1,h2,h3,h4,h5,h6,h7⟩:=h
 exact ⟨i,a,n,h1,zer h2,by rw[hv];exact zer h3,zer h4,h5,by rw[ht];exact h6,h7⟩
theorem Rt.more {a' v':Nat}{n':Int}{t:Td}(h:Rt ans P cx W at_ of_ x t):Rt ans P cx W (at_++[a']) (of_++[v']) (x++[n']) t:=by
 rcases h with h|⟨i,a,v,n,b,h1,h2,h3,h4,h5⟩
 ·exact .inl h
 ·exact .inr ⟨i,a,v,n,b,h1,zer h2,zer h3,zer h4,h5⟩
theorem zpn:∀ (gs:List Pg) (j:Nat) (g g':Pg) (i:Int),gs[j]? = some g→g'.rs.map Pq.id=g.rs.map Pq.id++[i]→(wIds (gs.set j g')).Perm (wIds gs++[i])
 | [],j,g,g',i,h,_=>by cases h
 |y :: gs,0,g,g',i,h,e=>by
  injection h with h
  subst h
  rw[kG]
  unfold wIds
  rw[qN,qN,e,kR,kR]
  exact (List.perm_append_comm).append_left _
 |y :: gs,j+1,g,g',i,h,e=>by
  rw[kF]
  have ih:=zpn gs j g g' i (by simpa using h) e
  unfold wIds at ih ⊢
  rw[qN,qN,kR]
  exact ih.append_left _
theorem zji:∀ (gs:List Pg) (j:Nat) (g:Pg),gs[j]? = some g→(wIds (gs.eraseIdx j)++g.rs.map Pq.id).Perm (wIds gs)
 | [],j,g,h=>by cases h
 |y :: gs,0,g,h=>by
  injection h with h
  subst h
  rw[List.eraseIdx_cons_zero]
  unfold wIds
  rw[qN]
  exact List.perm_append_comm
 |y :: gs,j+1,g,h=>by
  rw[List.eraseIdx_cons_succ]
  have ih:=zji gs j g (by simpa using h)
  unfold wIds at ih ⊢
  rw[qN,qN,kR]
  exact ih.append_left _
theorem zpo {nm:ByteArray}{v:Nat}:∀ {gs:List Pg} {g:Pg},gs[findP nm v gs]? = some g→keyP nm v g=true
 | [],g,h=>by cases h
 |y :: gs,g,h=>by
  unfold findP at h
  rw[List.takeWhile_cons] at h
  cases hk:keyP nm v y with
  |true =>
   rw[hk] at h
   simp only[Bool.not_true,Bool.false_eq_true,if_false,List.length_nil,List.getElem?_cons_zero,Option.some.injEq] at h
   rw[← h];exact hk
  |false =>
   rw[hk] at h
   simp only[Bool.not_false,if_true,List.length_cons,List.getElem?_cons_succ] at h
   exact zpo (gs:=gs) h
theorem LI.ask (h:LI ans P cx Mo W nm now at_ of_ x gs got)(hl:at_.length<1000)(v:Nat)(n:Int)(_hMo:1≤Mo) :
  LI ans P cx Mo W nm now (at_++[now]) (of_++[v]) (x++[n]) (askP ans Mo now nm v (P v) ⟨(at_.length:Int),cx n⟩ gs).1 (got++(askP ans Mo now nm v (P v) ⟨(at_.length:Int),cx n⟩ gs).2):=by
 have hq:∀ (g:Pg),g.ver=v→g.time≤now→Wt cx now (at_++[now]) (of_++[v]) (x++[n]) g ⟨(at_.length:Int),cx n⟩:=fun g hv ht =>
  ⟨at_.length,now,n,rfl,by simp,by rw[← h.l1,hv];simp,by rw[← h.l2];simp,rfl,ht,kJ _⟩
 have hrt:∀ (g:Pg) (q:Pq),g.ms=P g.ver→now≤g.time+W→Wt cx now (at_++[now]) (of_++[v]) (x++[n]) g q→Rt ans P cx W (at_++[now]) (of_++[v]) (x++[n]) (tdP ans (g.ver:Int) (now:Int) g.ms q):=fun g q hm hu hw=>by
  obtain ⟨i,a,k,h1,h2,h3,h4,h5,h6,h7⟩:=hw
  refine .inr ⟨i,a,g.ver,k,now,h1,h2,h3,h4,rfl,rfl,h7,by omega,?_,?_⟩
  ·show (ans g.ms q.xs).2=_
   rw[hm,h5]
  ·show (ans g.ms q.xs).1=_
   rw[hm,h5]
 have l1:(of_++[v]).length=(at_++[now]).length:=by rw[kI,kI,h.l1];rfl
 have l2:(x++[n]).length=(at_++[now]).length:=by rw[kI,kI,h.l2];rfl
 have le:(at_++[now]).length≤1000:=by rw[kI,qJ];omega
 have old:∀ g∈gs,GI P cx Mo W nm now (at_++[now]) (of_++[v]) (x++[n]) g:=fun g hg=>by
  have h0:=h.gi g hg
  exact ⟨h0.nm,h0.ms,h0.on,h0.un,h0.ne,h0.lt,fun q hq=>(h0.wt q hq).more rfl rfl⟩
 have rids:rIds (at_++[now]).length=rIds at_.length++[(at_.length:Int)]:=by rw[kI,qJ,zui]
 have n99:((at_.length:Nat):Int)≠99999:=by omega
 unfold askP
 cases hf:gs[findP nm v gs]? with
 |none =>
  simp only
  split
  ·rename_i h1
   refine ⟨l1,l2,le,fun g hg=>?_,fun t ht=>?_,?_⟩
   ·rcases kU.1 hg with hg|hg
    ·exact old g hg
    ·rw[kP.1 hg]
     refine ⟨rfl,rfl,kJ _,Nat.le_add_right _ _,Nat.zero_lt_one,h1,fun q hq'=>?_⟩
     rw[kP.1 hq']
     exact hq _ rfl (kJ _)
   ·rw[qI] at ht
    exact (h.rt t ht).more
   ·rw[qI,zwm,rids]
    have e:wIds [(⟨nm,v,P v,now,[⟨(at_.length:Int),cx n⟩]⟩:Pg)]=[(at_.length:Int)]:=rfl
    rw[e,kR]
    refine ((List.perm_append_comm).append_left _).trans ?_
    rw[← kR]
    exact h.pm.append_right _
  ·refine ⟨l1,l2,le,old,fun t ht=>?_,?_⟩
   ·rcases kU.1 ht with ht|ht
    ·exact (h.rt t ht).more
    ·rw[kP.1 ht]
     exact hrt ⟨nm,v,P v,now,[]⟩ _ rfl (Nat.le_add_right _ _) (hq _ rfl (kJ _))
   ·rw[zfv,zkv (ts:=[tdP ans (v:Int) (now:Int) (P v) ⟨(at_.length:Int),cx n⟩]) (fun t ht=>by rw[kP.1 ht];exact n99),rids, ← kR]
    exact h.pm.append_right _
 |some g =>
  have hg:=qH hf
  have h0:=h.gi g hg
  have hk:=zpo hf
  have hgv:g.ver=v:=by
   unfold keyP at hk
   rw[Bool.and_eq_true] at hk
   exact of_decide_eq_true hk.2
  simp only
  split
  ·rename_i h1
   refine ⟨l1,l2,le,fun g' hg'=>?_,fun t ht=>?_,?_⟩
   ·rcases List.mem_or_eq_of_mem_set hg' with hg'|rfl
    ·exact old g' hg'
    ·refine ⟨h0.nm,h0.ms,h0.on,h0.un,?_,?_,fun q hq'=>?_⟩
     ·show 0<(g.rs++_).length
      rw[kI,qJ];omega
     ·show (g.rs++_).length<Mo
      rw[kI,qJ];exact h1
     ·rcases kU.1 hq' with hq'|hq'
      ·exact (h0.wt q hq').more rfl rfl
      ·rw[kP.1 hq']
       exact hq _ hgv h0.on
   ·rw[qI] at ht
    exact (h.rt t ht).more
   ·rw[qI,rids]
    have h2:=zpn gs (findP nm v gs) g { g with rs:=g.rs++[⟨(at_.length:Int),cx n⟩] } (at_.length:Int) hf (by rw[kL];rfl)
    refine (h2.append_right _).trans ?_
    rw[kR]
    refine ((List.perm_append_comm).append_left _).trans ?_
    rw[← kR]
    exact h.pm.append_right _
  ·refine ⟨l1,l2,le,fun g' hg'=>old g' ((List.eraseIdx_sublist _ _).mem hg'),fun t ht=>?_,?_⟩
   ·rcases kU.1 ht with ht|ht
    ·exact (h.rt t ht).more
    ·obtain ⟨q,hq',rfl⟩:=kO.1 ht
     refine hrt g q h0.ms h0.un ?_
     rcases kU.1 hq' with hq'|hq'
     ·exact (h0.wt q hq').more rfl rfl
     ·rw[kP.1 hq']
      exact hq _ hgv h0.on
   ·have hno:∀ t∈(g.rs++[(⟨(at_.length:Int),cx n⟩:Pq)]).map (tdP ans (g.ver:Int) (now:Int) g.ms),t.id≠99999:=fun t ht=>by
     obtain ⟨q,hq',rfl⟩:=kO.1 ht
     rcases kU.1 hq' with hq'|hq'
     ·exact not99 h hg hq'
     ·rw[kP.1 hq'];exact n99
    have e:((g.rs++[(⟨(at_.length:Int),cx n⟩:Pq)]).map (tdP ans (g.ver:Int) (now:Int) g.ms)).map Td.id=g.rs.map Pq.id++[(at_.length:Int)]:=by
     rw[qK,kL];rfl
    rw[zfv,zkv hno,e,rids]
    have h2:=zji gs (findP nm v gs) g hf
    have h3:(wIds (gs.eraseIdx (findP nm v gs))++(gIds got++(g.rs.map Pq.id++[(at_.length:Int)]))).Perm ((wIds (gs.eraseIdx (findP nm v gs))++g.rs.map Pq.id)++(gIds got++[(at_.length:Int)])):=by
     rw[kR]
     exact (List.perm_append_comm_assoc _ _ _).append_left _
    refine h3.trans ((h2.append_right _).trans ?_)
    rw[← kR]
    exact h.pm.append_right _
theorem LI.one (h:LI ans P cx Mo W nm now at_ of_ x gs got)(ho:∀ v n,∀ u∈(ans (P v) (cx n)).1,u.oneCell'=true):∀ t∈got,∀ u∈t.rp,u.oneCell'=true:=fun t ht=>by
 rcases h.rt t ht with ⟨_,_,e⟩|⟨i,a,v,n,b,_,_,_,_,_,_,_,_,_,e⟩
 ·rw[e];exact zmn
 ·rw[e];exact ho v n
theorem LI.done (h:LI ans P cx Mo W nm now at_ of_ x gs got){t:Nat}(ht:now≤t):expRP W (t+W) true gs=[]:=by
 unfold expRP
 rw[List.filter_eq_nil_iff]
 intro g hg
 have h0:=h.gi g hg
 unfold expP
 have h1:=h0.on
 by_cases h2:g.time+W<t+W
 ·simp[h2]
 ·have h3:g.time=t:=by omega
  simp[h3]
theorem zpp:∀ {gs:List Pg},(∀ g∈gs,0<g.rs.length)→gs.length≤(wIds gs).length
 | [],_=>kX _
 |g :: gs,h=>by
  have h1:=zpp (gs:=gs) fun x hx=>h x (qP _ hx)
  have h2:=h g (qO ..)
  have e:wIds (g :: gs)=g.rs.map Pq.id++wIds gs:=by unfold wIds;rw[qN]
  rw[e,kI,kN,List.length_cons]
  omega
theorem LI.small (h:LI ans P cx Mo W nm now at_ of_ x gs got):gs.length≤at_.length∧(wIds gs).length≤at_.length:=by
 have h1:=h.pm.length_eq
 rw[kI] at h1
 have h2:(rIds at_.length).length=at_.length:=by unfold rIds;simp
 have h3:=zpp (gs:=gs) fun g hg=>(h.gi g hg).ne
 omega
theorem LI.told_len (h:LI ans P cx Mo W nm now at_ of_ x gs got)(t:Nat)(due:Bool):(expTP ans W t due gs).length≤at_.length:=by
 have h1:=congrArg List.length (zmq (ans:=ans) W t due gs)
 rw[kN] at h1
 rw[h1]
 have h2:=(zgh (expP W t due) gs).length_eq
 rw[kI] at h2
 have h3:=h.small.2
 omega
end
section
variable {PR:SMod}{M:List Int→Prop}{Cq:List Value→Prop}
theorem zmr (Mo W:Nat)(h1:1≤Mo)(h2:Mo≤300)(h3:W≤1000000)(w:World) :
  Calls Tryz.prog 5 #[.int .i64 (Mo:Int),.int .i64 (W:Int)] w fun e w'=>∃ sp xp g gd,e = .returned (.tuple #[.pointer (some ⟨sp,0,none⟩),.pointer (some ⟨xp,0,none⟩),.bool true])∧SVw PR M Cq w' w.heap.size sp g Mo W 0 none 0 []∧BT w' w.heap.size g gd 4194304 0 []∧Below w.heap.size w w':=by
 have HN:=kA (fun bk V hV=>zzp (PR:=PR) (M:=M) (Cq:=Cq) bk Mo W h1 h2 h3 V w.heap.size hV)
 clear h1 h2 h3
 go_enter Tryz.func5,Tryz.ntmps5
 go_upto_region 2 with (first
  |(go_at_call 16;refine (new_dt w 4194304 (by decide)).mono ?_;rintro e w1 ⟨rfl,hd,hb⟩;have HD:=kA hd;have HB1:=kA hb;clear hd hb)
  |(go_at_call 15;refine (zzf HD.out).mono ?_;rintro e w2 ⟨g,C',rfl,hp,hbt,hb⟩;have HP:=kA hp;have HBT:=kA hbt;have HB2:=kA (HB1.out.trans (hb.mono HB1.out.size));clear hp hbt hb))
 go_upto_region 5 with (first
  |(go_at_call 17;refine (HN.out g w2 HB2.out.size).mono ?_;rintro e w3 ⟨sp,rfl,hsp,hsv,hb3⟩;have HSV:=kA hsv;have HB3:=kA (HB2.out.trans (hb3.mono HB2.out.size));have HBT3:=kA (HBT.out.below hb3);have HST:=kA hsv.pt;clear hsp hsv hb3))
 have hC:C'=[]:=HP.out.symm.eq_nil
 subst hC
 go_wp2
 go_ret3
 refine ⟨sp,w3.heap.size,g,w.heap.size,rfl,⟨HSV.out.pt.alloc _,?_,HSV.out.b⟩,HBT3.out.below (Below.new1 w3 _),HB3.out.alloc HB3.out.size _⟩
 exact SG.nil _ _
end
theorem zuj {n:Int}{ms:List Int}(hm:Mdl n ms)(w:World) :
  Calls Tryz.prog 7 #[.int .i64 n] w fun e w'=>∃ ad c,e = .returned (.slice (some ad) ms.length c)∧RowR w' ad c ms∧Below w.heap.size w w':=by
 have HM:=kA hm
 clear hm
 go_enter Tryz.func7,Tryz.ntmps7
 go_wp2_with (first
  |(go_at_call 11;refine (HM.out.2.2.2.2 w).mono ?_;rintro e w1 ⟨cs,rfl,hok,hb⟩;have HOK:=kA hok;have HB1:=kA hb;clear hok hb)
  |(go_at_call 22;refine (HOK.out.lay w1 (Below.refl _ _)).mono ?_;rintro e w2 ⟨ad,c,rfl,hrb,hrr,hlt,hb⟩;have HRR:=kA hrr;have HB2:=kA (HB1.out.trans (hb.mono HB1.out.size));clear hrb hrr hlt hb))
 go_ret
 exact ⟨ad,c,rfl,HRR.out,HB2.out⟩
def qz:List Value:=[.bool false,.int .u64 0,.string ⟨#[]⟩,.int .u64 0,.string ⟨#[]⟩]
def cxOf (qc:Int→List Value)(n:Int):List Value:=(.bool false :: (qc n++[.int .i64 0]))++(.bool true :: (qz++[.int .i64 0]))
structure QOk (qc:Int→List Value):Prop where
 len:∀ n,(qc n).length=5∧∀ u∈qc n,u.oneCell'=true
 call:∀ (n:Int) (w:World),Calls Tryz.prog 23 #[.int .i64 n] w fun e w'=>e = .returned (.agg (qc n).toArray)∧Below w.heap.size w w'
theorem five {rp:List Value}(h:rp.length=5):∃ a b c d e,rp=[a,b,c,d,e]:=by
 match rp,h with
 | [a,b,c,d,e],_=>exact ⟨a,b,c,d,e,rfl⟩
theorem zwo (w:World)(t:TypeId)(size n:Nat)(cs:Array Value)(h:cs.size=n*size)(hn:n≤1000):(w.alloc (.cells cs t)).ownsRow w.heap.size t size (.slice (some ⟨w.heap.size,0,none⟩) n n) n cs.toList :=
 ⟨by simpa using h,.inr ⟨w.heap.size,n,cs,rfl,kJ _,heap_alloc_new w _,kJ _,by unfold maxLen;omega,h,by rw[List.take_of_length_le (by simp[h])]⟩⟩
theorem zdl {qc:Int→List Value}(hq:QOk qc)(n:Int)(w:World) :
  Calls Tryz.prog 9 #[.int .i64 n] w fun e w'=>∃ b,e = .returned (.slice (some ⟨b,0,none⟩) 2 2)∧w'.ownsRow w.heap.size 124 7 (.slice (some ⟨b,0,none⟩) 2 2) 2 (cxOf qc n)∧Below w.heap.size w w':=by
 obtain ⟨qa,qb,qd,qe,qf,h5⟩:=five (hq.len n).1
 have HQ:=kA (hq.call n)
 rw[h5] at HQ
 have HH:=kA h5
 have HO:=kA (hq.len n).2
 clear hq h5
 go_enter Tryz.func9,Tryz.ntmps9
 go_wp2_with (first
  |(go_at_call 23;refine (HQ.out w).mono ?_;rintro e w1 ⟨rfl,hb⟩;have HB1:=kA hb;clear hb))
 go_ret
 refine ⟨w1.heap.size,rfl,?_,HB1.out.alloc HB1.out.size _⟩
 have h1:=zwo w1 124 7 2 #[.bool false,qa,qb,qd,qe,qf,.int .i64 0,.bool true,.bool false,.int .u64 0,.string ⟨#[]⟩,.int .u64 0,.string ⟨#[]⟩,.int .i64 0] rfl (by decide)
 unfold cxOf qz
 rw[HH.out]
 exact zau h1 HB1.out.size
section
variable (P:Nat→List Int)
def conP:Nat→Con
 | 0=>[]
 | 1=>[⟨nA,2,1,[(1,P 1)]⟩]
 | 2=>[⟨nA,3,1,[(1,P 1),(2,P 2)]⟩]
 |_=>[⟨nA,4,1,[(1,P 1),(2,P 2),(3,P 3)]⟩]
def vsO (th:Nat→Bool):List (Nat×List Int):=(([1,2,3]:List Nat).filter th).map fun v=>(v,P v)
def conO (th:Nat→Bool)(live:Nat):Con:=[⟨nA,4,live,vsO P th⟩]
theorem zwp (i:Nat)(hi:i<3):pfC (conP P i) ⟨1,nA,i+1,P (i+1)⟩=conP P (i+1)∧nextC (conP P i) nA=i+1∧fullC (conP P i) nA=false:=by
 have:i=0∨i=1∨i=2:=by omega
 rcases this with rfl|rfl|rfl
 ·refine ⟨?_,?_,?_⟩ <;> simp[pfC,conP,fndC,nextC,fullC,numC]
 ·refine ⟨?_,?_,?_⟩ <;> simp[pfC,conP,fndC,nextC,fullC,numC,updC,putS,othC]
 ·refine ⟨?_,?_,?_⟩ <;> simp[pfC,conP,fndC,nextC,fullC,numC,updC,putS,othC]
theorem zq9 (th:Nat→Bool)(live:Nat):fndC (conO P th live) nA=some ⟨nA,4,live,vsO P th⟩:=by simp[fndC,conO]
theorem zuk {th:Nat→Bool}{v:Nat}(h1:1≤v)(h3:v≤3)(hv:th v=true):(v,P v)∈vsO P th:=by
 unfold vsO
 refine kO.2 ⟨v,List.mem_filter.2 ⟨?_,hv⟩,rfl⟩
 have:v=1∨v=2∨v=3:=by omega
 simpa using this
theorem has_o {th:Nat→Bool}{v live:Nat}(h1:1≤v)(h3:v≤3)(hv:th v=true):hasV ⟨nA,4,live,vsO P th⟩ v=true:=by
 unfold hasV
 exact List.any_eq_true.2 ⟨_,zuk P h1 h3 hv,by simp⟩
theorem zpq {th:Nat→Bool}{v:Nat}(h1:1≤v)(h3:v≤3)(hv:th v=true):(vsO P th).length≠0:=fun h=>by
 have h2:=zuk P h1 h3 hv
 rw[List.length_eq_zero_iff.1 h] at h2
 cases h2
theorem zzu {th:Nat→Bool}{v live:Nat}(h1:1≤v)(h3:v≤3)(hv:th v=true):refC (conO P th live) 2 nA v=0∧stepK (conO P th live) ⟨2,nA,v,[]⟩=conO P th v:=by
 have hr:refC (conO P th live) 2 nA v=0:=by
  unfold refC
  rw[zq9]
  simp only
  rw[kT (zpq P h1 h3 hv),has_o P h1 h3 hv]
  simp
 refine ⟨hr,?_⟩
 unfold stepK
 rw[kZ hr]
 unfold pfC
 rw[zq9]
 simp[updC,conO]
theorem drop_o {th:Nat→Bool}{v live:Nat}(h1:1≤v)(h3:v≤3)(hv:th v=true)(l1:1≤live)(l3:live≤3)(hl:th live=true)(hne:v≠live):refC (conO P th live) 3 nA v=0∧stepK (conO P th live) ⟨3,nA,v,[]⟩=conO P (fun u=>th u && decide (u≠v)) live:=by
 have hr:refC (conO P th live) 3 nA v=0:=by
  unfold refC
  rw[zq9]
  simp only
  rw[kT (zpq P h1 h3 hv),has_o P h1 h3 hv,kT (by simp),kT (fun h=>hne h.2.1)]
 have hf:(vsO P th).filter (fun p=>decide (p.1≠v))=vsO P (fun u=>th u && decide (u≠v)):=by
  unfold vsO
  rw[List.filter_map,List.filter_filter]
  congr 1
  apply List.filter_congr
  intro u _
  rw[Bool.and_comm]
  rfl
 have hne0:(vsO P (fun u=>th u && decide (u≠v))).length≠0:=zpq P l1 l3 (by rw[hl];simpa using fun e=>hne e.symm)
 refine ⟨hr,?_⟩
 unfold stepK
 rw[kZ hr]
 unfold pfC
 rw[zq9]
 simp only[show ¬ (3:Int)=1 by decide,show ¬ (3:Int)=2 by decide,if_false]
 unfold dropS
 simp only[hf]
 rw[kT hne0]
 simp[updC,conO]
theorem num_o {th:Nat→Bool}{live:Nat}(l1:1≤live)(l3:live≤3)(hl:th live=true):numC (conO P th live) nA≠0∧liveC (conO P th live) nA=live:=by
 unfold numC liveC
 rw[zq9]
 exact ⟨zpq P l1 l3 hl,rfl⟩
end
def Raws (w:World)(L:Option Addr)(n:Nat):Prop:=0<n→∃ ad,L=some ad∧ad.block<w.heap.size∧∀ k,k<n→∀ j,j<7→∃ a:Int,w.cell? (ad.add (k*7+j))=some (.int .i64 a)
theorem zul (A:Option Addr)(n c m:Nat)(w:World)(hn:n≤c)(hn2:n≤9223372036854775807)(hA:A=none→n=0)(hm:m≤1000) :
  Calls Tryz.prog 8 #[.slice A n c,.int .i64 (m:Int)] w fun e w'=>e = .returned (.slice A (min n m) c)∧w'=w:=by
 rcases (show m<n∨n≤m by omega) with h|h
 ·have hc:m≤c:=by omega
  cases A with
  |none=>have:=hA rfl;omega
  |some ad =>
   have e:min n m=m:=by omega
   rw[e]
   go_enter Tryz.func8,Tryz.ntmps8
   go_wp2
   go_ret
   exact ⟨by first|(simp;done)|(simp;omega),rfl⟩
 ·have e:min n m=n:=by omega
  rw[e]
  cases A with
  |none =>
   have h0:=hA rfl
   subst h0
   go_enter Tryz.func8,Tryz.ntmps8
   go_wp2
   go_ret
   exact ⟨by first|(simp;done)|(simp;omega),rfl⟩
  |some ad =>
   go_enter Tryz.func8,Tryz.ntmps8
   go_wp2
   go_ret
   exact ⟨by first|(simp;done)|(simp;omega),rfl⟩
def intsV (l:List Nat):List Value:=l.map fun (a:Nat)=>Value.int .i64 (a:Int)
def intsI (l:List Int):List Value:=l.map fun (a:Int)=>Value.int .i64 a
def thA (th:Nat→Bool):Array Value:=#[.bool (th 0),.bool (th 1),.bool (th 2),.bool (th 3)]
def TI (w:World)(k:Nat):Prop:=∃ cs fr,w.heap[k]? = some (.cells cs 3 fr)
def TZ (w:World)(k:Nat):Prop:=∃ cs fr,w.heap[k]? = some (.cells cs 48 fr)
def StaysI (PR:SMod):Prop:=∀ (w w':World) (p:Nat→Prop) (ms:List Int) (cs:Array Value),PR w ms cs→Alt w w' p→(∀ k,k<w.heap.size→p k→TI w k∨TZ w k)→PR w' ms cs
structure OnceH (PR:SMod)(M:List Int→Prop)(Cq:List Value→Prop)(ans:List Int→List Value→List Value×Int)(P:Nat→List Int)(qc:Int→List Value):Prop where
 sv:SvH PR M Cq ans
 sti:StaysI PR
 q:QOk qc
 cq:∀ n,Cq (cxOf qc n)
 cf:∀ n,∃ ck cl,CellsOf ck 2 (cxOf qc n) cl∧cl.all ck=true
 m:∀ v,1≤v→v≤3→M (P v)
 ma:∀ v,M (P v)
 md:∀ i:Nat,i<3→Mdl ((2*i+1:Nat):Int) (P (i+1))
 al:∀ (i:Nat) (n:Int),i<3→∀ W:World,Calls Tryz.prog 11 #[.int .i64 ((2*i+1:Nat):Int)] W fun e w'=>∃ cs,e = .returned (.agg cs)∧Below W.heap.size W w'∧∀ V cb,Below w'.heap.size w' V→V.ownsRow 0 124 7 (.slice (some ⟨cb,0,none⟩) 2 2) 2 (cxOf qc n) →
  Calls Tryz.prog 10 #[.agg cs,.agg #[.int .i64 0,.slice (some ⟨cb,0,none⟩) 2 2]] V fun e w''=>e = .returned (.agg (.int .i64 0 :: .int .i64 0 :: .int .i64 (ans (P (i+1)) (cxOf qc n)).2 :: (ans (P (i+1)) (cxOf qc n)).1).toArray)∧Below V.heap.size V w''
 lk:∀ (i:Nat) (n:Int),i<3→∀ W:World,Calls Tryz.prog 12 #[.agg (ans (P (i+1)) (cxOf qc n)).1.toArray,.agg (ans (P (i+1)) (cxOf qc n)).1.toArray] W fun e w'=>e = .returned (.bool true)∧Below W.heap.size W w'
 kn:∀ W:World,Calls Tryz.prog 13 #[] W fun e w'=>e = .returned (.bool true)∧Below W.heap.size W w'
theorem zfw (n:Int)(m:Nat)(h0:0<m):∃ k:Nat,n % (m:Int)=(k:Int)∧k<m:=by
 have h1:=Int.emod_nonneg n (by omega:(m:Int)≠0)
 have h2:=Int.emod_lt_of_pos n (by omega:(0:Int)<(m:Int))
 exact ⟨(n % (m:Int)).toNat,by omega,by omega⟩
section
variable {PR:SMod}{M:List Int→Prop}{Cq:List Value→Prop}{ans:List Int→List Value→List Value×Int}{P:Nat→List Int}{qc:Int→List Value}(oh:OnceH PR M Cq ans P qc)
include oh
theorem zum {w:World}{B sp g gd Mo W i:Nat}{gA:Option Addr}{gc:Nat}(hi:i<3)(hs:SVw PR M Cq w B sp g Mo W 0 gA gc [])(hb:BT w B g gd 4194304 i (conP P i))(hB:B≤w.heap.size)(hW:W≤1000){ad:Addr}{c:Nat}(hr:RowR w ad c (P (i+1))) :
  Calls Tryz.prog 6 #[.pointer (some ⟨sp,0,none⟩),.agg #[.int .i64 1,.int .i64 99999,.int .i64 0,.int .i64 0,.string nA,.slice (some ad) (P (i+1)).length c,.slice none 0 0]] w fun e w'=>∃ b c' gA' gc',e = .returned (.slice (some ⟨b,0,none⟩) 1 c')∧w'.cell? ⟨b,1,none⟩=some (.int .i64 ((i+1:Nat):Int))∧SVw PR M Cq w' B sp g Mo W 0 gA' gc' []∧BT w' B g gd 4194304 (i+1) (conP P (i+1))∧Kf w w'∧Below B w w':=by
 have hm:=oh.m (i+1) (by omega) (by omega)
 obtain ⟨h1,h2,h3⟩:=zwp P i hi
 have hnt:=oh.sv.nt _ hm
 have ha:ActOk w ⟨1,99999,0,0,nA,some ad,(P (i+1)).length,c,none,0,0⟩ 0:=⟨show FineC 1 99999 0 0 nA.size (P (i+1)).length 0 from ⟨by decide,by decide,by decide,by decide,by decide,by decide,.inr rfl,.inl rfl⟩,rfl,rfl,rfl,rfl⟩
 refine (sv_put oh.sv hs hb (by omega) (by omega) hB ⟨kX _,fun _ h=>by cases h⟩ (by omega) (kX _) ha rfl (kX _) (ad:=ad) hm rfl rfl hr h2.symm h3 (ntA (.inl rfl) (by omega) oh.sv.is (fun _=>hnt))).mono ?_
 rintro e w' ⟨v,gA',gc',rfl,ht,hsv,hbt,hks,hbl⟩
 have ht1:TRow w' w.heap.size v [⟨99999,((i+1:Nat):Int),0,0,zR⟩]:=ht
 obtain ⟨b,c',hv,_,_⟩:=World.ownsRow.form ht1 Nat.zero_lt_one
 subst hv
 refine ⟨b,c',gA',gc',rfl,?_,hsv,?_,hks,hbl⟩
 ·have h5:=ht1.cells (g:=b) rfl 1 (.int .i64 ((i+1:Nat):Int)) rfl
  rw[add0] at h5
  exact h5
 ·rw[← h1];exact hbt
end
theorem zjj {w:World}{B n sz:Nat}{t:TypeId}{v:Value}{xs:List Value}(h:w.ownsRow B t sz v n xs)(h1:t≠3):∀ k,v.ownBlock=some k→¬ TI w k:=fun k hk=>by
 rintro ⟨cs',fr',e⟩
 rcases h.2 with ⟨rfl,_⟩|⟨g',cap,cur,rfl,_,hh,_⟩
 ·cases hk
 ·have e3:g'=k:=by simpa [Value.ownBlock] using hk
  subst e3
  rw[hh] at e
  injection e with e
  injection e with _ e2
  exact h1 e2
theorem zgi {w:World}{g:Nat}{t:TypeId}{cs:Array Value}(h:Blk w g t cs)(h1:t≠3):¬ TI w g:=by
 rintro ⟨cs',fr,e⟩
 unfold Blk at h
 rw[h] at e
 injection e with e
 injection e with _ e2
 exact h1 e2
theorem zfx {w:World}{B n sz:Nat}{v:Value}{xs:List Value}(h:w.ownsRow B 3 sz v n xs):∀ k,v.ownBlock=some k→TI w k:=fun k hk=>by
 rcases h.2 with ⟨rfl,_⟩|⟨g',cap,cur,rfl,_,hh,_⟩
 ·cases hk
 ·have e3:g'=k:=by simpa [Value.ownBlock] using hk
  subst e3
  exact ⟨_,_,hh⟩
theorem zwq {w:World}{k:Nat}(h:TI w k):¬ TB w k:=by
 obtain ⟨cs,fr,h⟩:=h
 rintro (⟨es,q,e⟩|⟨cs',t',fr',e,ht⟩)
 ·rw[h] at e;cases e
 ·rw[h] at e
  injection e with e
  injection e with e1 e2
  subst e2
  rcases ht with ht|ht|ht|ht <;> exact absurd ht (by decide)
theorem zjk {w:World}{B n sz:Nat}{t:TypeId}{v:Value}{xs:List Value}(h:w.ownsRow B t sz v n xs)(h1:t≠48):∀ k,v.ownBlock=some k→¬ TZ w k:=fun k hk=>by
 rintro ⟨cs',fr',e⟩
 rcases h.2 with ⟨rfl,_⟩|⟨g',cap,cur,rfl,_,hh,_⟩
 ·cases hk
 ·have e3:g'=k:=by simpa [Value.ownBlock] using hk
  subst e3
  rw[hh] at e
  injection e with e
  injection e with _ e2
  exact h1 e2
theorem zra {w:World}{g:Nat}{t:TypeId}{cs:Array Value}(h:Blk w g t cs)(h1:t≠48):¬ TZ w g:=by
 rintro ⟨cs',fr,e⟩
 unfold Blk at h
 rw[h] at e
 injection e with e
 injection e with _ e2
 exact h1 e2
theorem zwr {w:World}{k:Nat}(h:TZ w k):¬ TB w k:=by
 obtain ⟨cs,fr,h⟩:=h
 rintro (⟨es,q,e⟩|⟨cs',t',fr',e,ht⟩)
 ·rw[h] at e;cases e
 ·rw[h] at e
  injection e with e
  injection e with e1 e2
  subst e2
  rcases ht with ht|ht|ht|ht <;> exact absurd ht (by decide)
section
variable {PR:SMod}{M:List Int→Prop}{Cq:List Value→Prop}{w w':World}{B sp bk Mo W now:Nat}{gA:Option Addr}{gc:Nat}{gs:List Gp}
theorem SVw.int (hst:StaysI PR)(h:SVw PR M Cq w B sp bk Mo W now gA gc gs){p:Nat→Prop}(ha:Alt w w' p)(hp:∀ k,p k→TI w k∨TZ w k):SVw PR M Cq w' B sp bk Mo W now gA gc gs:=by
 have hr:∀ {t:TypeId} {B sz n:Nat} {v:Value} {xs:List Value},w.ownsRow B t sz v n xs→t≠3→t≠48→∀ k,v.ownBlock=some k→¬ p k:=fun h1 h2 h3 k hk e=>(hp k e).elim (zjj h1 h2 k hk) (zjk h1 h3 k hk)
 refine ⟨h.pt.kept ha (fun e=>(hp _ e).elim (zgi h.pt (by decide)) (zra h.pt (by decide))),⟨zas h.sg.row ha (hr h.sg.row (by decide) (by decide)),fun g hg=>?_,h.sg.ap⟩,h.b⟩
 have h0:=h.sg.ok g hg
 exact ⟨h0.sz,h0.one,hst _ _ _ _ _ h0.md ha (fun k _ e=>hp k e),h0.m,zas h0.row ha (hr h0.row (by decide) (by decide)),fun r hr'=>⟨(h0.rq r hr').cq,zas (h0.rq r hr').row ha (hr (h0.rq r hr').row (by decide) (by decide))⟩⟩
end
structure OE where
 sp:Nat
 g:Nat
 gd:Nat
 Mo:Nat
 W:Nat
 pa:Nat
 ta:Nat
structure OS where
 live:Nat
 ns:Nat
 k:Nat
 gc:Nat
 th:Nat→Bool
 v17:Value
 v18:Value
 v19:Value
 at_:List Nat
 of_:List Nat
 x:List Int
 gA:Option Addr
 gs:List Gp
structure OW (PR:SMod)(M:List Int→Prop)(Cq:List Value→Prop)(P:Nat→List Int)(w wz:World)(E:OE)(s:OS):Prop where
 sv:SVw PR M Cq wz w.heap.size E.sp E.g E.Mo E.W s.ns s.gA s.gc s.gs
 bt:BT wz w.heap.size E.g E.gd 4194304 s.k (conO P s.th s.live)
 lv:1≤s.live∧s.live≤3∧s.th s.live=true∧s.th 0=false
 pa:Blk wz E.pa 28 #[.int .i64 1,.int .i64 3,.int .i64 5]
 ta:Blk wz E.ta 48 (thA s.th)
 r7:wz.ownsRow w.heap.size 3 1 s.v17 s.at_.length (intsV s.at_)
 r8:wz.ownsRow w.heap.size 3 1 s.v18 s.of_.length (intsV s.of_)
 r9:wz.ownsRow w.heap.size 3 1 s.v19 s.x.length (intsI s.x)
 a1:∀ b,s.v17.ownBlock=some b→¬ s.v18.ownBlock=some b∧¬ s.v19.ownBlock=some b
 a2:∀ b,s.v18.ownBlock=some b→¬ s.v19.ownBlock=some b
 be:Below w.heap.size w wz
 tb:w.heap.size≤E.ta
section
variable {PR:SMod}{M:List Int→Prop}{Cq:List Value→Prop}{P:Nat→List Int}{w wz w':World}{E:OE}{s:OS}
theorem OW.act (h:OW PR M Cq P w wz E s)(hk:Kf wz w')(hb:Below w.heap.size wz w'){ns' k' gc' live':Nat}{gA':Option Addr}{gs':List Gp}{th':Nat→Bool}(hsv:SVw PR M Cq w' w.heap.size E.sp E.g E.Mo E.W ns' gA' gc' gs')(hbt:BT w' w.heap.size E.g E.gd 4194304 k' (conO P th' live')) :
  SVw PR M Cq w' w.heap.size E.sp E.g E.Mo E.W ns' gA' gc' gs'∧BT w' w.heap.size E.g E.gd 4194304 k' (conO P th' live')∧Blk w' E.pa 28 #[.int .i64 1,.int .i64 3,.int .i64 5]∧Blk w' E.ta 48 (thA s.th)∧w'.ownsRow w.heap.size 3 1 s.v17 s.at_.length (intsV s.at_)∧w'.ownsRow w.heap.size 3 1 s.v18 s.of_.length (intsV s.of_)∧w'.ownsRow w.heap.size 3 1 s.v19 s.x.length (intsI s.x)∧Below w.heap.size w w':=by
 have hts:∀ {t:TypeId} {sz n:Nat} {v:Value} {xs:List Value},wz.ownsRow w.heap.size t sz v n xs→t=3→∀ k,v.ownBlock=some k→¬ TF wz k:=fun hr ht k hk' e=>by
  subst ht
  exact zxi hr (by decide) (by decide) (by decide) (by decide) (by decide) (by decide) (by decide) (by decide) k hk' e.1
 refine ⟨hsv,hbt,h.pa.kept hk fun e=>?_,h.ta.kept hk fun e=>?_,zas h.r7 hk (hts h.r7 rfl),zas h.r8 hk (hts h.r8 rfl),zas h.r9 hk (hts h.r9 rfl),h.be.trans hb⟩
 ·exact zb4 h.pa (by decide) (by decide) (by decide) (by decide) (by decide) (by decide) (by decide) (by decide) e.1
 ·exact zb4 h.ta (by decide) (by decide) (by decide) (by decide) (by decide) (by decide) (by decide) (by decide) e.1
theorem OW.move (h:OW PR M Cq P w wz E s)(hk:Kf wz w')(hb:Below w.heap.size wz w'){ns' k' gc' live':Nat}{gA':Option Addr}{gs':List Gp}(hsv:SVw PR M Cq w' w.heap.size E.sp E.g E.Mo E.W ns' gA' gc' gs')(hbt:BT w' w.heap.size E.g E.gd 4194304 k' (conO P s.th live'))(hl:1≤live'∧live'≤3∧s.th live'=true∧s.th 0=false) :
  OW PR M Cq P w w' E { s with ns:=ns',k:=k',gc:=gc',gA:=gA',gs:=gs',live:=live' }:=by
 obtain ⟨h1,h2,h3,h4,h5,h6,h7,h8⟩:=h.act hk hb hsv hbt
 exact ⟨h1,h2,hl,h3,h4,h5,h6,h7,h.a1,h.a2,h8,h.tb⟩
theorem OW.rows (hst:StaysI PR)(h:OW PR M Cq P w wz E s){p:Nat→Prop}(ha:Alt wz w' p)(hp:∀ k,p k→TI wz k)(hB:∀ k,p k→w.heap.size≤k){v17 v18 v19:Value}{at_ of_:List Nat}{x:List Int}
  (h7:w'.ownsRow w.heap.size 3 1 v17 at_.length (intsV at_)) (h8:w'.ownsRow w.heap.size 3 1 v18 of_.length (intsV of_)) (h9:w'.ownsRow w.heap.size 3 1 v19 x.length (intsI x))
  (a1:∀ b,v17.ownBlock=some b→¬ v18.ownBlock=some b∧¬ v19.ownBlock=some b) (a2:∀ b,v18.ownBlock=some b→¬ v19.ownBlock=some b) :
  OW PR M Cq P w w' E { s with v17:=v17,v18:=v18,v19:=v19,at_:=at_,of_:=of_,x:=x } :=
 ⟨h.sv.int hst ha (fun k e => .inl (hp k e)),h.bt.alt ha fun q _ e=>zwq (hp q e),h.lv,h.pa.kept ha fun e=>zgi h.pa (by decide) (hp _ e),h.ta.kept ha fun e=>zgi h.ta (by decide) (hp _ e),h7,h8,h9,a1,a2,h.be.trans (Alt.toBelow ha (fun k _ e=>hB k e) (kH (kJ _) h.be.size)),h.tb⟩
theorem zjl (l:List Nat)(a:Nat):intsV (l++[a])=intsV l++[.int .i64 (a:Int)]:=by unfold intsV;rw[kL];rfl
theorem zrb (l:List Int)(a:Int):intsI (l++[a])=intsI l++[.int .i64 a]:=by unfold intsI;rw[kL];rfl
theorem OW.app8 (hst:StaysI PR)(h:OW PR M Cq P w wz E s){v':Value}{a:Nat}(ho:w'.ownsRow w.heap.size 3 1 v' (s.of_.length+1) (intsV s.of_++[.int .i64 (a:Int)]))(ha:Alt wz w' (fun k=>s.v18.ownBlock=some k))(hl:∀ k,v'.ownBlock=some k→s.v18.ownBlock=some k∨wz.heap.size≤k) :
  OW PR M Cq P w w' E { s with v18:=v',of_:=s.of_++[a] }:=by
 refine h.rows hst ha (zfx h.r8) (fun k hk=>(World.ownsRow.lt h.r8 k hk).1) (v17:=s.v17) (v19:=s.v19) (at_:=s.at_) (x:=s.x) (zas h.r7 ha fun k hk e=>(h.a1 k hk).1 e) ?_ (zas h.r9 ha fun k hk e=>h.a2 k e hk) (fun b hb=>⟨fun e=>?_,(h.a1 b hb).2⟩) (fun b hb e=>?_)
 ·rw[zjl,kI];exact ho
 ·rcases hl b e with h1|h1
  ·exact (h.a1 b hb).1 h1
  ·have:=zd9 h.r7 b hb;omega
 ·rcases hl b hb with h1|h1
  ·exact h.a2 b h1 e
  ·have:=zd9 h.r9 b e;omega
theorem OW.app7 (hst:StaysI PR)(h:OW PR M Cq P w wz E s){v':Value}{a:Nat}(ho:w'.ownsRow w.heap.size 3 1 v' (s.at_.length+1) (intsV s.at_++[.int .i64 (a:Int)]))(ha:Alt wz w' (fun k=>s.v17.ownBlock=some k))(hl:∀ k,v'.ownBlock=some k→s.v17.ownBlock=some k∨wz.heap.size≤k) :
  OW PR M Cq P w w' E { s with v17:=v',at_:=s.at_++[a] }:=by
 refine h.rows hst ha (zfx h.r7) (fun k hk=>(World.ownsRow.lt h.r7 k hk).1) (v18:=s.v18) (v19:=s.v19) (of_:=s.of_) (x:=s.x) ?_ (zas h.r8 ha fun k hk e=>(h.a1 k e).1 hk) (zas h.r9 ha fun k hk e=>(h.a1 k e).2 hk) (fun b hb=>?_) h.a2
 ·rw[zjl,kI];exact ho
 ·rcases hl b hb with h1|h1
  ·exact h.a1 b h1
  ·exact ⟨fun e=>(by have:=zd9 h.r8 b e;omega),fun e=>(by have:=zd9 h.r9 b e;omega)⟩
theorem OW.app9 (hst:StaysI PR)(h:OW PR M Cq P w wz E s){v':Value}{a:Int}(ho:w'.ownsRow w.heap.size 3 1 v' (s.x.length+1) (intsI s.x++[.int .i64 a]))(ha:Alt wz w' (fun k=>s.v19.ownBlock=some k))(hl:∀ k,v'.ownBlock=some k→s.v19.ownBlock=some k∨wz.heap.size≤k) :
  OW PR M Cq P w w' E { s with v19:=v',x:=s.x++[a] }:=by
 refine h.rows hst ha (zfx h.r9) (fun k hk=>(World.ownsRow.lt h.r9 k hk).1) (v17:=s.v17) (v18:=s.v18) (at_:=s.at_) (of_:=s.of_) (zas h.r7 ha fun k hk e=>(h.a1 k hk).2 e) (zas h.r8 ha fun k hk e=>h.a2 k hk e) ?_ (fun b hb=>⟨(h.a1 b hb).1,fun e=>?_⟩) (fun b hb e=>?_)
 ·rw[zrb,kI];exact ho
 ·rcases hl b e with h1|h1
  ·exact (h.a1 b hb).2 h1
  ·have:=zd9 h.r7 b hb;omega
 ·rcases hl b e with h1|h1
  ·exact h.a2 b hb h1
  ·have:=zd9 h.r8 b hb;omega
end
structure OL (PR:SMod)(M:List Int→Prop)(Cq:List Value→Prop)(ans:List Int→List Value→List Value×Int)(P:Nat→List Int)(qc:Int→List Value)(w wz:World)(E:OE)(s:OS)(got:List Td)(j t:Nat):Prop where
 ow:OW PR M Cq P w wz E s
 li:LI ans P (cxOf qc) E.Mo E.W nA s.ns s.at_ s.of_ s.x (s.gs.map Gp.p) got
 kk:s.k≤j+3
 al:s.at_.length≤j
 nt:s.ns≤t
 ov:(∀ v∈s.of_,1≤v∧v≤3)∧∀ a∈s.at_,a≤1000
theorem TRow.kf {w w':World}{B:Nat}{v:Value}{ts:List Td}(h:TRow w B v ts)(hk:Kf w w'):TRow w' B v ts :=
 zas h hk fun k hk' e=>e.2 (zeb h k hk')
section
variable {PR:SMod}{M:List Int→Prop}{Cq:List Value→Prop}{ans:List Int→List Value→List Value×Int}{P:Nat→List Int}{qc:Int→List Value}{w wz:World}{E:OE}{s:OS}{got:List Td}{j t:Nat}
theorem OL.sm (h:OL PR M Cq ans P qc w wz E s got j t)(hj:j≤100)(hMo:E.Mo≤5)(ht:t≤1000):Sm s.gs∧∀ t' due,(expT ans E.W t' due s.gs).length≤90000:=by
 have h1:=h.li.small
 rw[kN] at h1
 have hal:=h.al
 have hnt:=h.nt
 refine ⟨⟨by omega,fun g hg=>?_⟩,fun t' due=>?_⟩
 ·have h2:=h.li.gi g.p (kO.2 ⟨g,hg,rfl⟩)
  have h3:=h2.lt
  have h4:=h2.on
  have e:g.p.rs.length=g.rs.length:=kN _
  have e2:g.p.time=g.time:=rfl
  rw[e] at h3
  rw[e2] at h4
  omega
 ·have h2:=h.li.told_len t' due
  rw[zex] at h2
  omega
theorem OL.later (h:OL PR M Cq ans P qc w wz E s got j t){t':Nat}(ht:t≤t'):OL PR M Cq ans P qc w wz E s (got++[]) (j+1) t':=by
 rw[qI]
 exact ⟨h.ow,h.li,kH h.kk (by omega),kH h.al (Nat.le_succ _),kH h.nt ht,h.ov⟩
theorem OL.told (hst:StaysS PR)(h:OL PR M Cq ans P qc w wz E s got j t){w':World}{sv:Value}{B n:Nat}{xs:List Value}(ha:Alt wz w' (fun k=>sv.ownBlock=some k))(hr:wz.ownsRow w.heap.size 47 B sv n xs):OL PR M Cq ans P qc w w' E s got j t:=by
 have hp:=zeb hr
 have hno:∀ {t:TypeId} {B sz n:Nat} {v:Value} {xs:List Value},wz.ownsRow B t sz v n xs→t≠47→∀ k,v.ownBlock=some k→¬ sv.ownBlock=some k:=fun h1 h2 k hk e=>zgg h1 h2 k hk (hp k e)
 exact ⟨⟨h.ow.sv.told hst ha hp,h.ow.bt.alt ha fun q _ e=>zmp (hp q e),h.ow.lv,h.ow.pa.kept ha fun e=>zeq h.ow.pa (by decide) (hp _ e),h.ow.ta.kept ha fun e=>zeq h.ow.ta (by decide) (hp _ e),zas h.ow.r7 ha (hno h.ow.r7 (by decide)),zas h.ow.r8 ha (hno h.ow.r8 (by decide)),zas h.ow.r9 ha (hno h.ow.r9 (by decide)),h.ow.a1,h.ow.a2,h.ow.be.trans (Alt.toBelow ha (fun k _ e=>(World.ownsRow.lt hr k e).1) h.ow.be.size),h.ow.tb⟩,h.li,h.kk,h.al,h.nt,h.ov⟩
theorem OL.chg (h:OL PR M Cq ans P qc w wz E s got j t){t':Nat}(ht:t≤t'){ver:Int}{k' live':Nat}(hk:k'≤s.k+1)(hl:1≤live'∧live'≤3∧s.th live'=true∧s.th 0=false){e:Ending}{w':World}
  (hc:ChgOut PR M Cq ans wz w.heap.size E.sp E.g E.gd 4194304 E.Mo E.W s.gs t' 99999 ver 0 k' (conO P s.th live') e w') :
  ∃ v ts s',e = .returned v∧TRow w' wz.heap.size v ts∧OL PR M Cq ans P qc w w' E s' (got++ts) (j+1) t'∧Kf wz w'∧s'.live=live'∧s'.th=s.th∧s'.v17=s.v17∧s'.v18=s.v18∧s'.v19=s.v19∧ts.length≤j+1:=by
 obtain ⟨v,gA,gc,rfl,htr,hsv,hbt,hkf,hbl⟩:=hc
 have h1:=h.li.exp (kH h.nt ht) false
 rw[zmj,zex] at h1
 have h2:=h1.chg ver (t':Int)
 have h3:=h.li.told_len t' false
 rw[zex] at h3
 refine ⟨v,_,_,rfl,htr,⟨h.ow.move hkf hbl hsv hbt hl,?_,?_,?_,kJ _,h.ov⟩,hkf,rfl,rfl,rfl,rfl,rfl,?_⟩
 ·rw[kR] at h2
  exact h2
 ·have:=h.kk
  show k'≤j+1+3
  omega
 ·exact kH h.al (Nat.le_succ _)
 ·rw[kI,qJ]
  have:=h.al
  omega
variable (oh:OnceH PR M Cq ans P qc)
include oh
theorem zrc (h:OL PR M Cq ans P qc w wz E s got j t)(hj:j≤40)(hMo:E.Mo≤5)(hW:E.W≤10){t' v:Nat}(ht:t≤t')(ht9:t'≤1000)(v1:1≤v)(v3:v≤3)(hv:s.th v=true) :
  Calls Tryz.prog 6 #[.pointer (some ⟨E.sp,0,none⟩),.agg #[.int .i64 2,.int .i64 99999,.int .i64 (v:Int),.int .i64 (t':Int),.string nA,.slice none 0 0,.slice none 0 0]] wz fun e w'=>∃ vv ts s',e = .returned vv∧TRow w' wz.heap.size vv ts∧OL PR M Cq ans P qc w w' E s' (got++ts) (j+1) t'∧Kf wz w'∧s'.live=v∧s'.th=s.th∧s'.v17=s.v17∧s'.v18=s.v18∧s'.v19=s.v19∧ts.length≤j+1:=by
 have hsm:=h.sm (by omega) hMo (kH ht ht9)
 have ha:ActOk wz ⟨2,99999,(v:Int),(t':Int),nA,none,0,0,none,0,0⟩ t':=⟨show FineC 2 99999 (v:Int) (t':Int) nA.size 0 0 from ⟨by decide,by decide,⟨by omega,by omega⟩,⟨by omega,by omega⟩,by decide,by decide,.inl rfl,.inl rfl⟩,rfl,rfl,rfl,rfl⟩
 obtain ⟨hr,hst⟩:=zzu P (live:=s.live) v1 v3 hv
 have hkk:=h.kk
 refine (zwl (a:=⟨2,99999,(v:Int),(t':Int),nA,none,0,0,none,0,0⟩) oh.sv h.ow.sv h.ow.bt (by omega) (by omega) h.ow.be.size hsm.1 (by omega) (hsm.2 _ _) ha rfl (kH h.nt ht) (v:=v) rfl (ntA (.inr (.inl rfl)) (by omega) oh.sv.is (fun e=>by cases e))).mono ?_
 intro e w' hc
 have hc':ChgOut PR M Cq ans wz w.heap.size E.sp E.g E.gd 4194304 E.Mo E.W s.gs t' 99999 (if refC (conO P s.th s.live) 2 nA v=0 then (v:Int) else 0) (refC (conO P s.th s.live) 2 nA v) (s.k+1) (stepK (conO P s.th s.live) ⟨2,nA,v,[]⟩) e w':=hc
 rw[hst,hr] at hc'
 exact h.chg ht (kJ _) ⟨v1,v3,hv,h.ow.lv.2.2.2⟩ hc'
theorem zun (h:OL PR M Cq ans P qc w wz E s got j t)(hj:j≤40)(hMo:E.Mo≤5)(hW:E.W≤10){t':Nat}(ht:t≤t')(ht9:t'≤1000) :
  Calls Tryz.prog 6 #[.pointer (some ⟨E.sp,0,none⟩),.agg #[.int .i64 6,.int .i64 99999,.int .i64 0,.int .i64 (t':Int),.string ⟨#[]⟩,.slice none 0 0,.slice none 0 0]] wz fun e w'=>∃ vv ts s',e = .returned vv∧TRow w' wz.heap.size vv ts∧OL PR M Cq ans P qc w w' E s' (got++ts) (j+1) t'∧Kf wz w'∧s'.live=s.live∧s'.th=s.th∧s'.v17=s.v17∧s'.v18=s.v18∧s'.v19=s.v19∧ts.length≤j+1:=by
 have hsm:=h.sm (by omega) hMo (kH ht ht9)
 have ha:ActOk wz ⟨6,99999,0,(t':Int),⟨#[]⟩,none,0,0,none,0,0⟩ t':=⟨show FineC 6 99999 0 (t':Int) 0 0 0 from ⟨by decide,by decide,by decide,⟨by omega,by omega⟩,by decide,by decide,.inl rfl,.inl rfl⟩,rfl,rfl,rfl,rfl⟩
 have hkk:=h.kk
 refine (zzs (a:=⟨6,99999,0,(t':Int),⟨#[]⟩,none,0,0,none,0,0⟩) oh.sv h.ow.sv h.ow.bt (by omega) h.ow.be.size hsm.1 (by omega) (hsm.2 _ _) ha rfl (kH h.nt ht)).mono ?_
 intro e w' hc
 exact h.chg ht (Nat.le_succ _) h.ow.lv hc
omit oh in
theorem th_set (th:Nat→Bool)(v:Nat)(v1:1≤v)(v3:v≤3):thA (fun u=>th u && decide (u≠v))=(thA th).setIfInBounds v (.bool false):=by
 have:v=1∨v=2∨v=3:=by omega
 rcases this with rfl|rfl|rfl <;> simp[thA]
theorem zuo (h:OL PR M Cq ans P qc w wz E s got j t)(hj:j≤40)(hMo:E.Mo≤5)(hW:E.W≤10){t' v:Nat}(ht:t≤t')(ht9:t'≤1000)(v1:1≤v)(v3:v≤3)(hv:s.th v=true)(hne:v≠s.live) :
  Calls Tryz.prog 6 #[.pointer (some ⟨E.sp,0,none⟩),.agg #[.int .i64 3,.int .i64 99999,.int .i64 (v:Int),.int .i64 (t':Int),.string nA,.slice none 0 0,.slice none 0 0]] wz fun e w'=>∃ vv ts s',e = .returned vv∧Blk w' E.ta 48 (thA s.th)∧TRow (w'.setCell ⟨E.ta,v,none⟩ (.bool false)) wz.heap.size vv ts∧OL PR M Cq ans P qc w (w'.setCell ⟨E.ta,v,none⟩ (.bool false)) E s' (got++ts) (j+1) t'∧(∀ B v0 ts0,TRow wz B v0 ts0→TRow (w'.setCell ⟨E.ta,v,none⟩ (.bool false)) B v0 ts0)∧s'.live=s.live∧s'.v17=s.v17∧s'.v18=s.v18∧s'.v19=s.v19∧ts.length≤j+1:=by
 have hsm:=h.sm (by omega) hMo (kH ht ht9)
 have ha:ActOk wz ⟨3,99999,(v:Int),(t':Int),nA,none,0,0,none,0,0⟩ t':=⟨show FineC 3 99999 (v:Int) (t':Int) nA.size 0 0 from ⟨by decide,by decide,⟨by omega,by omega⟩,⟨by omega,by omega⟩,by decide,by decide,.inl rfl,.inl rfl⟩,rfl,rfl,rfl,rfl⟩
 obtain ⟨l1,l3,hl,h0⟩:=h.ow.lv
 obtain ⟨hr,hst⟩:=drop_o P v1 v3 hv l1 l3 hl hne
 have hkk:=h.kk
 refine (zzr (a:=⟨3,99999,(v:Int),(t':Int),nA,none,0,0,none,0,0⟩) oh.sv h.ow.sv h.ow.bt (by omega) (by omega) h.ow.be.size hsm.1 (by omega) (hsm.2 _ _) ha rfl (kH h.nt ht) (v:=v) rfl (ntA (.inr (.inr rfl)) (by omega) oh.sv.is (fun e=>by cases e))).mono ?_
 intro e w' hc
 have hc':ChgOut PR M Cq ans wz w.heap.size E.sp E.g E.gd 4194304 E.Mo E.W s.gs t' 99999 (if refC (conO P s.th s.live) 3 nA v=0 then (v:Int) else 0) (refC (conO P s.th s.live) 3 nA v) (s.k+1) (stepK (conO P s.th s.live) ⟨3,nA,v,[]⟩) e w':=hc
 rw[hst,hr] at hc'
 obtain ⟨vv,gA,gc,rfl,htr,hsv,hbt,hkf,hbl⟩:=hc'
 obtain ⟨g1,g2,g3,g4,g5,g6,g7,g8⟩:=h.ow.act hkf hbl hsv hbt
 have hset:Alt w' (w'.setCell ⟨E.ta,v,none⟩ (.bool false)) (fun k=>k=E.ta):=Alt.set_ (p:=fun k=>k=E.ta) (a:=⟨E.ta,v,none⟩) (Alt.refl _ _) rfl _
 have htz:∀ k,k=E.ta→TZ w' k:=fun k e=>by rw[e];exact ⟨_,_,g4⟩
 have hrow:∀ {t:TypeId} {B sz n:Nat} {v0:Value} {xs:List Value},w'.ownsRow B t sz v0 n xs→t≠48→(w'.setCell ⟨E.ta,v,none⟩ (.bool false)).ownsRow B t sz v0 n xs:=fun h1 h2=>zas h1 hset fun k hk e=>zjk h1 h2 k hk (htz k e)
 have h1:=h.li.exp (kH h.nt ht) false
 rw[zmj,zex] at h1
 have h2:=h1.chg (if (0:Int)=0 then (v:Int) else 0) (t':Int)
 have h3:=h.li.told_len t' false
 rw[zex] at h3
 refine ⟨vv,_,{ s with ns:=t',k:=s.k+1,gc:=gc,gA:=gA,gs:=expR E.W t' false s.gs,th:=fun u=>s.th u && decide (u≠v) },rfl,g4,hrow htr (by decide),⟨⟨hsv.int oh.sti hset (fun k e => .inr (htz k e)),hbt.alt hset fun q _ e=>zwr (htz q e),⟨l1,l3,?_,?_⟩,g3.kept hset fun e=>Blk.ne_ g3 g4 (by decide) e,?_,hrow g5 (by decide),hrow g6 (by decide),hrow g7 (by decide),h.ow.a1,h.ow.a2,?_,h.ow.tb⟩,?_,?_,?_,kJ _,h.ov⟩,fun B v0 ts0 hr0=>hrow (hr0.kf hkf) (by decide),rfl,rfl,rfl,rfl,?_⟩
 ·show (s.th s.live && decide (s.live≠v))=true
  rw[hl];simpa using fun e=>hne e.symm
 ·show (s.th 0 && decide (0≠v))=false
  rw[h0];rfl
 ·show Blk _ _ _ (thA fun u=>s.th u && decide (u≠v))
  rw[th_set s.th v v1 v3]
  exact g4.set_ v _
 ·exact g8.trans (Alt.toBelow hset (fun k _ e=>by rw[e];exact h.ow.tb) g8.size)
 ·rw[kR] at h2
  exact h2
 ·show s.k+1≤j+1+3
  omega
 ·exact kH h.al (Nat.le_succ _)
 ·rw[kI,qJ]
  have:=h.al
  omega
end
section
variable {PR:SMod}{M:List Int→Prop}{Cq:List Value→Prop}{ans:List Int→List Value→List Value×Int}{P:Nat→List Int}{qc:Int→List Value}{w wz0 wz:World}{E:OE}{s:OS}{got:List Td}{j t:Nat}(oh:OnceH PR M Cq ans P qc)
include oh
theorem zfy (h0:OL PR M Cq ans P qc w wz0 E s got j t)(hj:j≤40)(hMo1:1≤E.Mo)(hMo:E.Mo≤5)(hW:E.W≤10){t' v kv:Nat}{n:Int}(ht:t≤t')(ht9:t'≤1000)(hkv:kv=if v=0 then s.live else v)(v3:v≤3)(hv:v=0∨s.th v=true){v17 v18 v19:Value}
  (h:OW PR M Cq P w wz E { s with v17:=v17,v18:=v18,v19:=v19,at_:=s.at_++[t'],of_:=s.of_++[kv],x:=s.x++[n] }) {cb:Nat} (hc:wz.ownsRow 0 124 7 (.slice (some ⟨cb,0,none⟩) 2 2) 2 (cxOf qc n)) :
  Calls Tryz.prog 6 #[.pointer (some ⟨E.sp,0,none⟩),.agg #[.int .i64 4,.int .i64 (s.at_.length:Int),.int .i64 (v:Int),.int .i64 (t':Int),.string nA,.slice none 0 0,.slice (some ⟨cb,0,none⟩) 2 2]] wz fun e w'=>∃ vv ts s',e = .returned vv∧TRow w' wz.heap.size vv ts∧OL PR M Cq ans P qc w w' E s' (got++ts) (j+1) t'∧Kf wz w'∧s'.live=s.live∧s'.th=s.th∧s'.v17=v17∧s'.v18=v18∧s'.v19=v19∧ts.length≤1100:=by
 have hsm:=h0.sm (by omega) hMo (kH ht ht9)
 obtain ⟨l1,l3,hl,hz⟩:=h0.ow.lv
 have hkk:=h0.kk
 have hal:=h0.al
 obtain ⟨k1,k3,hkt⟩:1≤kv∧kv≤3∧s.th kv=true:=by
  by_cases hv0:v=0
  ·rw[hkv,kZ hv0];exact ⟨l1,l3,hl⟩
  ·rw[hkv,kT hv0]
   exact ⟨by omega,v3,hv.resolve_left hv0⟩
 obtain ⟨ck,cl,hcf,hck⟩:=oh.cf n
 obtain ⟨hnum,hlv⟩:=num_o P l1 l3 hl
 refine (sv_ask (a:=⟨4,(s.at_.length:Int),(v:Int),(t':Int),nA,none,0,0,some ⟨cb,0,none⟩,2,2⟩) oh.sv h.sv h.bt h.be.size hsm.1 (by omega) (hsm.2 _ _) rfl (kH h0.nt ht) (show FineC 4 (s.at_.length:Int) (v:Int) (t':Int) nA.size 0 2 from ⟨by decide,⟨by omega,by omega⟩,⟨by omega,by omega⟩,⟨by omega,by omega⟩,by decide,by decide,.inl rfl,.inr rfl⟩) rfl hcf hck (oh.cq n) hc (zq9 P s.th s.live) (ver0:=v) (kv:=kv) rfl (by omega) hkv (oh.m kv k1 k3) (zuk P k1 k3 hkt) hnum hlv).mono ?_
 rintro e w' ⟨vv,gA,gc,gs',rfl,hp,htr,hsv,hbt,hkf,hbl⟩
 have h1:=h0.li.exp (kH h0.nt ht) false
 rw[zmj,zex] at h1
 have h2:=h1.ask (by omega) kv n hMo1
 rw[← hp] at h2
 have h3:=h0.li.told_len t' false
 rw[zex] at h3
 have h4:(askP ans E.Mo t' nA kv (P kv) ⟨(s.at_.length:Int),cxOf qc n⟩ ((expR E.W t' false s.gs).map Gp.p)).2.length≤991:=zpm fun g hg=>by
  obtain ⟨x,hx,rfl⟩:=kO.1 hg
  show (x.rs.map Rq.p).length≤990
  rw[kN]
  exact kH (hsm.1.2 x (List.mem_filter.1 hx).1).1 (by decide)
 refine ⟨vv,_,_,rfl,htr,⟨h.move hkf hbl hsv hbt ⟨l1,l3,hl,hz⟩,?_,?_,?_,kJ _,⟨fun u hu=>(kU.1 hu).elim (h0.ov.1 u) fun h5=>by rw[kP.1 h5];exact ⟨k1,k3⟩,fun u hu=>(kU.1 hu).elim (h0.ov.2 u) fun h5=>by rw[kP.1 h5];exact ht9⟩⟩,hkf,rfl,rfl,rfl,rfl,rfl,?_⟩
 ·rw[kR] at h2
  exact h2
 ·show s.k≤j+1+3
  omega
 ·show (s.at_++[t']).length≤j+1
  rw[kI,qJ]
  omega
 ·exact kH (Nat.le_of_eq kI) (kH (Nat.add_le_add h3 h4) (by omega))
theorem zup (h:OL PR M Cq ans P qc w wz E s got j t)(hj:j≤40)(hMo:E.Mo≤5)(hW:E.W≤10)(ht9:t≤1000) :
  Calls Tryz.prog 6 #[.pointer (some ⟨E.sp,0,none⟩),.agg #[.int .i64 5,.int .i64 0,.int .i64 0,.int .i64 ((t+E.W:Nat):Int),.string ⟨#[]⟩,.slice none 0 0,.slice none 0 0]] wz fun e w'=>∃ vv ts s',e = .returned vv∧TRow w' wz.heap.size vv ts∧OL PR M Cq ans P qc w w' E s' (got++ts) (j+1) (t+E.W)∧s'.gs=[]∧Kf wz w'∧s'.live=s.live∧s'.at_=s.at_∧s'.of_=s.of_∧s'.x=s.x∧s'.v17=s.v17∧s'.v18=s.v18∧s'.v19=s.v19∧ts.length≤1100:=by
 have hsm:=h.sm (by omega) hMo ht9
 have ha:ActOk wz ⟨5,0,0,((t+E.W:Nat):Int),⟨#[]⟩,none,0,0,none,0,0⟩ (t+E.W):=⟨show FineC 5 0 0 ((t+E.W:Nat):Int) 0 0 0 from ⟨by decide,by decide,by decide,⟨by omega,by omega⟩,by decide,by decide,.inl rfl,.inl rfl⟩,rfl,rfl,rfl,rfl⟩
 have hnt:=h.nt
 refine (zzq (a:=⟨5,0,0,((t+E.W:Nat):Int),⟨#[]⟩,none,0,0,none,0,0⟩) oh.sv h.ow.sv h.ow.bt h.ow.be.size hsm.1 (by omega) (hsm.2 _ _) ha rfl (by omega)).mono ?_
 rintro e w' ⟨vv,gA,gc,rfl,htr,hsv,hbt,hkf,hbl⟩
 have h1:=h.li.exp (show s.ns≤t+E.W by omega) true
 have hd:=h.li.done (t:=t) hnt
 rw[hd,zex] at h1
 have h3:=h.li.told_len (t+E.W) true
 rw[zex] at h3
 have hal:=h.al
 have hkk:=h.kk
 have hgs:expR E.W (t+E.W) true s.gs=[]:=by
  have h5:=zmj E.W (t+E.W) true s.gs
  rw[hd] at h5
  exact List.map_eq_nil_iff.1 h5.symm
 rw[hgs] at hsv
 refine ⟨vv,_,_,rfl,htr,⟨h.ow.move hkf hbl hsv hbt h.ow.lv,h1,?_,?_,kJ _,h.ov⟩,rfl,hkf,rfl,rfl,rfl,rfl,rfl,rfl,rfl,?_⟩
 ·show s.k≤j+1+3
  omega
 ·show s.at_.length≤j+1
  omega
 ·omega
end
def isId (k:Nat)(t:Td):Bool:=decide (t.id=(k:Int))
def seenA (n:Nat)(l:List Td):Array Value:=((List.range n).map fun k=>Value.bool (l.any (isId k))).toArray
theorem zes (n:Nat)(l:List Td):(seenA n l).size=n:=by unfold seenA;simp
theorem zdm {n k:Nat}(l:List Td)(h:k<n):(seenA n l)[k]? = some (.bool (l.any (isId k))):=by
 unfold seenA
 rw[List.getElem?_toArray,List.getElem?_map,List.getElem?_range h]
 rfl
theorem zig {n:Nat}{a:Array Value}{l:List Td}(h1:a.size=n)(h2:∀ k,k<n→a[k]? = some (.bool (l.any (isId k)))):a=seenA n l:=by
 apply Array.ext
 ·rw[h1,zes]
 ·intro k hk1 hk2
  have e1:=h2 k (by omega)
  have e2:=zdm l (show k<n by omega)
  rw[Array.getElem?_eq_getElem hk1] at e1
  rw[Array.getElem?_eq_getElem hk2, ← e1] at e2
  injection e2 with e2
  exact e2.symm
theorem zuq (n:Nat):Array.replicate n (Value.bool false)=seenA n []:=zig (by simp) fun k hk=>by
 rw[Array.getElem?_replicate,kZ hk];rfl
theorem zpr (k:Nat)(l:List Td)(t:Td):(l++[t]).any (isId k)=(l.any (isId k) || isId k t):=by rw[List.any_append];simp
theorem zrd {n:Nat}{l:List Td}{t:Td}(ht:t.id=99999)(hn:n≤1000):seenA n l=seenA n (l++[t]):=zig (zes n l) fun k hk=>by
 rw[zdm l hk,zpr]
 have:isId k t=false:=kQ (by omega)
 rw[this,Bool.or_false]
theorem zur {n k:Nat}{l:List Td}{t:Td}(ht:t.id=(k:Int))(hk:k<n):(seenA n l).setIfInBounds k (.bool true)=seenA n (l++[t]):=zig (by rw[Array.size_setIfInBounds,zes]) fun j hj=>by
 rw[zpr,Array.getElem?_setIfInBounds]
 by_cases h:k=j
 ·subst h
  have:isId k t=true:=kW ht
  rw[kZ rfl,kZ (by rw[zes];exact hk),this,Bool.or_true]
 ·have:isId j t=false:=kQ (by omega)
  rw[kT h,zdm l hj,this,Bool.or_false]
theorem zre (n:Nat):(rIds n).Nodup:=by
 unfold rIds
 refine List.Pairwise.map _ (fun a b h=>?_) List.nodup_range
 intro e
 exact h (by injection e)
theorem zzv {n k:Nat}{got l r:List Td}{t:Td}(hp:(gIds got).Perm (rIds n))(hg:got=l++t :: r)(ht:t.id=(k:Int))(hk:k<1000):l.any (isId k)=false:=by
 have hn:=hp.nodup_iff.2 (zre n)
 rw[hg,zfv] at hn
 have hd:=(List.nodup_append.1 hn).2.2
 rw[Bool.eq_false_iff]
 intro h
 obtain ⟨u,hu,e⟩:=List.any_eq_true.1 h
 have e:=of_decide_eq_true e
 have m1:(k:Int)∈gIds l:=List.mem_filter.2 ⟨kO.2 ⟨u,hu,e⟩,kW (by omega)⟩
 have m2:(k:Int)∈gIds (t :: r):=List.mem_filter.2 ⟨kO.2 ⟨t,qO ..,ht⟩,kW (by omega)⟩
 exact hd _ m1 _ m2 rfl
theorem zws {n k:Nat}{got:List Td}(hp:(gIds got).Perm (rIds n))(hk:k<n):got.any (isId k)=true:=by
 have h1:(k:Int)∈gIds got:=hp.mem_iff.2 (zwn.2 ⟨k,hk,rfl⟩)
 obtain ⟨h2,_⟩:=List.mem_filter.1 h1
 obtain ⟨t,ht,e⟩:=kO.1 h2
 exact List.any_eq_true.2 ⟨t,ht,kW e⟩
theorem zus {got:List Td}{j:Nat}{t:Td}(h:got[j]? = some t):got.take (j+1)=got.take j++[t]∧got=got.take j++t :: got.drop (j+1):=by
 obtain ⟨hj,e⟩:=kK.1 h
 subst e
 refine ⟨by rw[List.take_succ_eq_append_getElem hj],?_⟩
 conv=>lhs;rw[← List.take_append_drop j got]
 rw[List.drop_eq_getElem_cons hj]
theorem zwt:(Tryz.prog.info? 4).map (fun i=>(i.zero,i.size,i.bytes))=some (some (.bool false),1,1):=by kernel_rfl
theorem zms:(Tryz.prog.info? 47).map (·.size)=some 10:=by kernel_rfl
theorem zhf:(Tryz.prog.info? 56).map (·.size)=some 9:=by kernel_rfl
theorem zrf (n:Nat):madeCells #[.bool false] n=seenA n []:=by
 rw[← zuq]
 unfold madeCells
 apply Array.ext
 ·simp
 ·intro i h1 h2
  simp[Nat.mod_one]
theorem zxk:∀ (ts:List Td) (i k:Nat) (u:Value) {t:Td},(∀ x∈ts,x.rp.length=6)→ts[i]? = some t→(cellsT t)[k]? = some u→((ts.map cellsT).flatten)[i*10+k]? = some u
 | [],i,k,u,t,_,h,_=>by cases h
 |p :: ps,0,k,u,t,hl,h,hk=>by
  injection h with h
  subst h
  rw[kM,qD,Nat.zero_mul,Nat.zero_add,qB (kK.1 hk).1]
  exact hk
 |p :: ps,i+1,k,u,t,hl,h,hk=>by
  have e0:(cellsT p).length=10:=by
   have:=hl p (qO ..)
   unfold cellsT
   simp[this]
  rw[kM,qD,kY (by rw[e0];omega),e0,show (i+1)*10+k - 10=i*10+k by omega]
  exact zxk ps i k u (fun x hx=>hl x (qP _ hx)) h hk
theorem zmt {l:List Nat}{k a:Nat}(h:l[k]? = some a):(intsV l)[k]? = some (.int .i64 (a:Int)):=by unfold intsV;rw[List.getElem?_map,h];rfl
theorem zut {l:List Int}{k:Nat}{a:Int}(h:l[k]? = some a):(intsI l)[k]? = some (.int .i64 a):=by unfold intsI;rw[List.getElem?_map,h];rfl
theorem zuu (i:Nat)(hi:i<3):(#[Value.int .i64 1,.int .i64 3,.int .i64 5]:Array Value)[i]? = some (.int .i64 ((2*i+1:Nat):Int)):=by
 have:i=0∨i=1∨i=2:=by omega
 rcases this with rfl|rfl|rfl <;> rfl
structure EndH (PR:SMod)(M:List Int→Prop)(Cq:List Value→Prop)(w wz:World)(sp pa:Nat)(v17 v18 v19 v20:Value)(at_ of_:List Nat)(x:List Int)(got:List Td):Prop where
 r7:wz.ownsRow w.heap.size 3 1 v17 at_.length (intsV at_)
 r8:wz.ownsRow w.heap.size 3 1 v18 of_.length (intsV of_)
 r9:wz.ownsRow w.heap.size 3 1 v19 x.length (intsI x)
 tr:TRow wz w.heap.size v20 got
 pa:Blk wz pa 28 #[.int .i64 1,.int .i64 3,.int .i64 5]
 be:Below w.heap.size w wz
 sv:∃ bk Mo W now gA gc,SVw PR M Cq wz w.heap.size sp bk Mo W now gA gc []
structure EndP (ans:List Int→List Value→List Value×Int)(P:Nat→List Int)(cx:Int→List Value)(W:Nat)(at_ of_:List Nat)(x:List Int)(got:List Td):Prop where
 l1:of_.length=at_.length
 l2:x.length=at_.length
 le:at_.length≤100
 ov:(∀ v∈of_,1≤v∧v≤3)∧∀ a∈at_,a≤1000
 rt:∀ t∈got,Rt ans P cx W at_ of_ x t
 pm:(gIds got).Perm (rIds at_.length)
section
variable {PR:SMod}{M:List Int→Prop}{Cq:List Value→Prop}{w wz w':World}{sp pa:Nat}{v17 v18 v19 v20:Value}{at_ of_:List Nat}{x:List Int}{got:List Td}
theorem EndH.below (hst:StaysS PR)(h:EndH PR M Cq w wz sp pa v17 v18 v19 v20 at_ of_ x got)(hb:Below wz.heap.size wz w'):EndH PR M Cq w w' sp pa v17 v18 v19 v20 at_ of_ x got:=by
 obtain ⟨bk,Mo,W,now,gA,gc,hs⟩:=h.sv
 exact ⟨zad h.r7 hb,zad h.r8 hb,zad h.r9 hb,zad h.tr hb,zab h.pa hb,h.be.trans (hb.mono h.be.size),bk,Mo,W,now,gA,gc,hs.below hst hb⟩
theorem EndH.bool (h:EndH PR M Cq w wz sp pa v17 v18 v19 v20 at_ of_ x got){sb:Nat}{cs:Array Value}(hb:Blk wz sb 4 cs)(hB:w.heap.size≤sb)(ha:Alt wz w' (fun k=>k=sb)):EndH PR M Cq w w' sp pa v17 v18 v19 v20 at_ of_ x got:=by
 have hr:∀ {t:TypeId} {B sz n:Nat} {v:Value} {xs:List Value},wz.ownsRow B t sz v n xs→4≠t→w'.ownsRow B t sz v n xs:=fun h1 h2=>zas h1 ha fun k hk e=>by
  rw[e] at hk
  exact zai h1 hb h2.symm hk
 obtain ⟨bk,Mo,W,now,gA,gc,hs⟩:=h.sv
 exact ⟨hr h.r7 (by decide),hr h.r8 (by decide),hr h.r9 (by decide),hr h.tr (by decide),h.pa.kept ha (fun e=>Blk.ne_ h.pa hb (by decide) e),h.be.trans (Alt.toBelow ha (fun k _ e=>by rw[e];exact hB) h.be.size),bk,Mo,W,now,gA,gc,hs.pt.kept ha (fun e=>Blk.ne_ hs.pt hb (by decide) e),⟨hr hs.sg.row (by decide),(fun _ h=>by cases h),hs.sg.ap⟩,hs.b⟩
end
theorem Rt.six {ans:List Int→List Value→List Value×Int}{P:Nat→List Int}{cx:Int→List Value}{W:Nat}{at_ of_:List Nat}{x:List Int}{t:Td}(h:Rt ans P cx W at_ of_ x t)(hl:∀ v n,(ans (P v) (cx n)).1.length=6):t.rp.length=6:=by
 rcases h with ⟨_,_,e⟩|⟨i,a,v,n,b,_,_,_,_,_,_,_,_,_,e⟩
 ·rw[e];rfl
 ·rw[e];exact hl v n
end Go.Proofs.YtemgclnkgieldaaGreatDoor.Oc
