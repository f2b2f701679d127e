/- Calls of known outcome, under other names. -/
import Derived.Test.YtemgclnkgieldaaGreatDoorE6
noncomputable section
namespace Go.Proofs.YtemgclnkgieldaaGreatDoor.CX
open Go Go.RowKit
def Tr.map {α β:Type}(f:α→β)(t:Tr α):Tr β:=Tr.rec (motive:=fun _=>Tr β) .leaf (fun _ v _ l r => .node l (Option.rec (motive:=fun _=>Option β) none (fun a=>some (f a)) v) r) t
theorem Tr.get_map {α β:Type}(f:α→β):∀ (t:Tr α) (i:Nat),(t.map f).get i=(t.get i).map f
 | .leaf,i=>rfl
 | .node l v r,0=>by
  show (Tr.node (l.map f) (Option.rec (motive:=fun _=>Option β) none (fun a=>some (f a)) v) (r.map f)).get 0=_
  rw[Tr.get_zero,Tr.get_zero];cases v <;> rfl
 | .node l v r,j+1=>by
  show (Tr.node (l.map f) (Option.rec (motive:=fun _=>Option β) none (fun a=>some (f a)) v) (r.map f)).get (j+1)=_
  rw[Tr.get_succ,Tr.get_succ]
  by_cases h:j % 2=0
  ·rw[qX h,qX h,Tr.get_map f l]
  ·rw[qW h,qW h,Tr.get_map f r]
def mapL {α β:Type}(f:α→β)(l:List α):List β:=List.rec (motive:=fun _=>List β) [] (fun a _ ih=>f a :: ih) l
theorem zdr {α β:Type}(f:α→β):∀ (l:List α),mapL f l=l.map f
 | []=>rfl
 |a :: l=>by show f a :: mapL f l=_;rw[zdr f l];rfl
def rnC0 (r:Nat→Nat)(v:Value):Value:=match v with
 | .pointer (some ⟨b,o,s⟩) => .pointer (some ⟨r b,o,s⟩)
 | .slice (some ⟨b,o,s⟩) n c => .slice (some ⟨r b,o,s⟩) n c
 | .map (some b) => .map (some (r b))
 |v=>v
def rnC (r:Nat→Nat)(v:Value):Value:=match v with
 | .iface t v => .iface t (rnC0 r v)
 |v=>rnC0 r v
def rnA (r:Nat→Nat)(v:Value):Value:=match v with
 | .agg ⟨l⟩ => .agg ⟨mapL (rnC r) l⟩
 |v=>rnC r v
def rnV (r:Nat→Nat)(v:Value):Value:=match v with
 | .tuple ⟨l⟩ => .tuple ⟨mapL (rnA r) l⟩
 |v=>rnA r v
def nmC0 (p:Nat→Bool)(v:Value):Bool:=match v with
 | .pointer (some ⟨b,_,_⟩)=>p b
 | .slice (some ⟨b,_,_⟩) _ _=>p b
 | .map (some b)=>p b
 | .float _ _=>true
 |v=>plainCell v
def nmC (p:Nat→Bool)(v:Value):Bool:=match v with
 | .iface _ v=>nmC0 p v
 |v=>nmC0 p v
def nmA (p:Nat→Bool)(v:Value):Bool:=match v with
 | .agg ⟨l⟩=>allB (nmC p) l
 |v=>nmC p v
def nmV (p:Nat→Bool)(v:Value):Bool:=match v with
 | .tuple ⟨l⟩=>allB (nmA p) l
 |v=>nmA p v
section
variable {E F:En}{r:Nat→Nat}{p:Nat→Bool}{v u:Value}
theorem F2.mapl {α β γ:Type}{R:α→β→Prop}{S:γ→β→Prop}{f:α→γ}{l:List α}{m:List β}(h:F2 R l m)(hf:∀ a∈l,∀ b,R a b→S (f a) b):F2 S (l.map f) m:=by
 induction h with
 |nil=>exact .nil
 |cons h _ ih=>exact .cons (hf _ (by simp) _ h) (ih fun a ha=>hf a (by simp[ha]))
theorem F2.mapl_inv {α β γ:Type}{R:α→β→Prop}{S:γ→β→Prop}{f:α→γ}:∀ {l:List α} {m:List β},F2 S (l.map f) m→(∀ a∈l,∀ b,S (f a) b→R a b)→F2 R l m
 | [],_,h,_=>by cases h;exact .nil
 |a :: l,_,h,hf=>by
  cases h with
  |cons h t=>exact .cons (hf a (by simp) _ h) (F2.mapl_inv t fun a ha=>hf a (by simp[ha]))
theorem VR.rnC0 (hE:∀ i e,p i=true→E i=some e→F (r i)=some e)(hs:F.s=E.s)(hn:nmC0 p v=true)(h:VR E v u):VR F (rnC0 r v) u:=by
 unfold nmC0 at hn
 split at hn
 ·obtain ⟨e,h1,h2,rfl⟩:=h.ptr_inv
  cases h1
  exact .ptr (hE _ _ hn h2)
 ·obtain ⟨e,c',h1,h2,rfl,h4⟩:=h.slice_inv
  cases h1
  exact .slice (hE _ _ hn h2) h4
 ·obtain ⟨e,h2,rfl⟩:=h.map_inv
  exact .map (hE _ _ hn h2)
 ·cases h with
  |plain h=>simp[plainCell] at h
  |sym=>rw[← hs];exact .sym
 ·have:=h.plain_inv hn;subst this
  rename_i n1 n2 n3 n4
  have:CX.rnC0 r u=u:=by
   unfold CX.rnC0
   split
   ·exact absurd rfl (n1 _ _ _)
   ·exact absurd rfl (n2 _ _ _ _ _)
   ·exact absurd rfl (n3 _)
   ·rfl
  rw[this];exact .plain hn
theorem VR.rnC (hE:∀ i e,p i=true→E i=some e→F (r i)=some e)(hs:F.s=E.s)(hn:nmC p v=true)(h:VR E v u):VR F (rnC r v) u:=by
 unfold nmC at hn
 split at hn
 ·obtain ⟨x,rfl,hx⟩:=h.iface_inv
  exact .iface (VR.rnC0 hE hs hn hx)
 ·rename_i n1
  have:CX.rnC r v=CX.rnC0 r v:=by
   unfold CX.rnC
   split
   ·exact absurd rfl (n1 _ _)
   ·rfl
  rw[this];exact VR.rnC0 hE hs hn h
theorem VR.rnA (hE:∀ i e,p i=true→E i=some e→F (r i)=some e)(hs:F.s=E.s)(hn:nmA p v=true)(h:VR E v u):VR F (rnA r v) u:=by
 unfold nmA at hn
 split at hn
 ·obtain ⟨l',rfl,hl⟩:=h.agg_inv
  have hn:=(zag _ _).1 hn
  show VR F (.agg ⟨mapL (CX.rnC r) _⟩) _
  rw[zdr]
  exact VR.agg' (F2.mapl hl fun a ha b hab=>VR.rnC hE hs (hn a ha) hab)
 ·rename_i n1
  have:CX.rnA r v=CX.rnC r v:=by
   unfold CX.rnA
   split
   ·exact absurd rfl (n1 _)
   ·rfl
  rw[this];exact VR.rnC hE hs hn h
theorem VR.rnV (hE:∀ i e,p i=true→E i=some e→F (r i)=some e)(hs:F.s=E.s)(hn:nmV p v=true)(h:VR E v u):VR F (rnV r v) u:=by
 unfold nmV at hn
 split at hn
 ·obtain ⟨l',rfl,hl⟩:=h.tuple_inv
  have hn:=(zag _ _).1 hn
  show VR F (.tuple ⟨mapL (CX.rnA r) _⟩) _
  rw[zdr]
  exact VR.tuple' (F2.mapl hl fun a ha b hab=>VR.rnA hE hs (hn a ha) hab)
 ·rename_i n1
  have:CX.rnV r v=CX.rnA r v:=by
   unfold CX.rnV
   split
   ·exact absurd rfl (n1 _)
   ·rfl
  rw[this];exact VR.rnA hE hs hn h
theorem VR.unC0 (hE:∀ i e,p i=true→F (r i)=some e→E i=some e)(hs:F.s=E.s)(hn:nmC0 p v=true)(h:VR F (CX.rnC0 r v) u):VR E v u:=by
 unfold nmC0 at hn
 split at hn
 ·obtain ⟨e,h1,h2,rfl⟩:=VR.ptr_inv (a:=⟨r _,_,_⟩) h
  cases h1
  exact .ptr (hE _ _ hn h2)
 ·obtain ⟨e,c',h1,h2,rfl,h4⟩:=VR.slice_inv (a:=⟨r _,_,_⟩) h
  cases h1
  exact .slice (hE _ _ hn h2) h4
 ·obtain ⟨e,h2,rfl⟩:=VR.map_inv (b:=r _) h
  exact .map (hE _ _ hn h2)
 ·change VR F (.float _ _) u at h
  cases h with
  |plain h=>simp[plainCell] at h
  |sym=>rw[hs];exact .sym
 ·rename_i n1 n2 n3 n4
  have:CX.rnC0 r v=v:=by
   unfold CX.rnC0
   split
   ·exact absurd rfl (n1 _ _ _)
   ·exact absurd rfl (n2 _ _ _ _ _)
   ·exact absurd rfl (n3 _)
   ·rfl
  rw[this] at h
  have:=h.plain_inv hn;subst this
  exact .plain hn
theorem VR.unC (hE:∀ i e,p i=true→F (r i)=some e→E i=some e)(hs:F.s=E.s)(hn:nmC p v=true)(h:VR F (CX.rnC r v) u):VR E v u:=by
 unfold nmC at hn
 split at hn
 ·obtain ⟨x,rfl,hx⟩:=VR.iface_inv (x:=CX.rnC0 r _) h
  exact .iface (VR.unC0 hE hs hn hx)
 ·rename_i n1
  have:CX.rnC r v=CX.rnC0 r v:=by
   unfold CX.rnC
   split
   ·exact absurd rfl (n1 _ _)
   ·rfl
  rw[this] at h;exact VR.unC0 hE hs hn h
theorem VR.unA (hE:∀ i e,p i=true→F (r i)=some e→E i=some e)(hs:F.s=E.s)(hn:nmA p v=true)(h:VR F (CX.rnA r v) u):VR E v u:=by
 unfold nmA at hn
 split at hn
 ·change VR F (.agg ⟨mapL (CX.rnC r) _⟩) _ at h
  rw[zdr] at h
  obtain ⟨l',rfl,hl⟩:=h.agg_inv
  have hn:=(zag _ _).1 hn
  exact VR.agg' (F2.mapl_inv hl fun a ha b hab=>VR.unC hE hs (hn a ha) hab)
 ·rename_i n1
  have:CX.rnA r v=CX.rnC r v:=by
   unfold CX.rnA
   split
   ·exact absurd rfl (n1 _)
   ·rfl
  rw[this] at h;exact VR.unC hE hs hn h
def rnB (r:Nat→Nat)(B:Bk):Bk:={ elem:=B.elem,size:=B.size,ro:=B.ro,dflt:=mapL (rnC r) B.dflt,cells:=B.cells.map (CX.rnC r),one:=B.one }
theorem zw1 (B:Bk)(j:Nat):(rnB r B).at j=(B.at j).map (CX.rnC r):=by
 unfold Bk.at
 show cond (Nat.blt j B.size) (Option.rec (motive:=fun _=>Option Value) (nth (mapL (CX.rnC r) B.dflt) (Nat.mod j (mapL (CX.rnC r) B.dflt).length)) (fun v=>some v) ((B.cells.map (CX.rnC r)).get j)) none=_
 cases Nat.blt j B.size with
 |false=>rfl
 |true =>
  rw[Tr.get_map,zdr,nth_eq,nth_eq,List.length_map,List.getElem?_map]
  show Option.rec (motive:=fun _=>Option Value) _ _ _=Option.map _ (Option.rec (motive:=fun _=>Option Value) _ _ _)
  cases B.cells.get j <;> rfl
def rnO (r:Nat→Nat)(o:Ob):Ob:=match o with
 | .row B => .row (rnB r B)
 |o=>o
def nmO (p:Nat→Bool)(o:Ob):Bool:=match o with
 | .row B=>cond B.one false (match B.readN B.size 0 with
  |some l=>allB (nmC p) l
  |none=>false)
 |_=>false
theorem zsq {o:Ob}(h:nmO p o=true):∃ B,o = .row B∧B.one=false∧∀ j v,B.at j=some v→nmC p v=true:=by
 unfold nmO at h
 split at h
 ·rename_i B
  obtain ⟨h1,h⟩:=za6 h
  refine ⟨B,rfl,h1,fun j v hv=>?_⟩
  split at h
  ·rename_i l hl
   obtain ⟨hl1,hl2⟩:=Bk.readN_sound hl
   have hj:j<B.size:=by
    unfold Bk.at at hv
    cases hb:Nat.blt j B.size with
    |true=>exact zcc hb
    |false=>rw[hb] at hv;cases hv
   have:=hl2 j _ (List.getElem?_eq_getElem (by omega))
   rw[Nat.zero_add,hv] at this
   injection this with this
   rw[this]
   exact (zag _ _).1 h _ (List.getElem_mem _)
  ·cases h
 ·cases h
theorem ObR.rn {w:World}{e:Em}{o:Ob}(hE:∀ i e,p i=true→E i=some e→F (r i)=some e)(hs:F.s=E.s)(hn:nmO p o=true)(h:ObR E w e o):ObR F w e (rnO r o):=by
 obtain ⟨B,rfl,hone,hB⟩:=zsq hn
 obtain ⟨cs,fr,h1,h2,h3,h4,h5⟩:=h
 refine ⟨cs,fr,h1,h2,h3,fun j v hv=>?_,h5⟩
 rw[zw1] at hv
 cases hb:B.at j with
 |none=>rw[hb] at hv;cases hv
 |some x =>
  rw[hb] at hv;injection hv with hv;subst hv
  obtain ⟨u,hu,hr⟩:=h4 j x hb
  exact ⟨u,hu,VR.rnC hE hs (hB j x hb) hr⟩
theorem ObR.un {w:World}{e:Em}{o:Ob}(hE:∀ i e,p i=true→F (r i)=some e→E i=some e)(hs:F.s=E.s)(hn:nmO p o=true)(h:ObR F w e (rnO r o)):ObR E w e o:=by
 obtain ⟨B,rfl,hone,hB⟩:=zsq hn
 obtain ⟨cs,fr,h1,h2,h3,h4,h5⟩:=h
 refine ⟨cs,fr,h1,h2,h3,fun j v hv=>?_,h5⟩
 obtain ⟨u,hu,hr⟩:=h4 j (CX.rnC r v) (by rw[zw1,hv];rfl)
 exact ⟨u,hu,VR.unC hE hs (hB j v hv) hr⟩
theorem zw2 {o:Ob}:(rnO r o).wr=o.wr:=by cases o <;> rfl
end
def addN (lo hi:Nat)(m:Tr Nat)(a b:Nat):Tr Nat:=cond (Nat.blt a lo) m (cond (Nat.ble hi a) m (Option.rec (motive:=fun _=>Tr Nat) (m.set b a) (fun _=>m) (m.get a)))
def finC0 (lo hi:Nat)(m:Tr Nat)(a b:Value):Tr Nat:=match a,b with
 | .pointer (some x),.pointer (some y)=>addN lo hi m x.block y.block
 | .slice (some x) _ _,.slice (some y) _ _=>addN lo hi m x.block y.block
 | .map (some x),.map (some y)=>addN lo hi m x y
 |_,_=>m
def finC (lo hi:Nat)(m:Tr Nat)(a b:Value):Tr Nat:=match a,b with
 | .iface _ a,.iface _ b=>finC0 lo hi m a b
 |a,b=>finC0 lo hi m a b
def finL (lo hi:Nat)(l:List Value):List Value→Tr Nat→Tr Nat :=
 List.rec (motive:=fun _=>List Value→Tr Nat→Tr Nat) (fun _ m=>m) (fun a _ ih k m=>match k with
  |b :: k=>ih k (finC lo hi m a b)
  | []=>m) l
def finV (lo hi:Nat)(m:Tr Nat)(a b:Value):Tr Nat:=match a,b with
 | .agg ⟨l⟩,.agg ⟨k⟩=>finL lo hi l k m
 |a,b=>finC lo hi m a b
def finVs (lo hi:Nat)(l:List Value):List Value→Tr Nat→Tr Nat :=
 List.rec (motive:=fun _=>List Value→Tr Nat→Tr Nat) (fun _ m=>m) (fun a _ ih k m=>match k with
  |b :: k=>ih k (finV lo hi m a b)
  | []=>m) l
def finO (lo hi:Nat)(m:Tr Nat)(o o':Option Ob):Tr Nat:=match o,o' with
 |some (.row B),some (.row B')=>match B.readN B.size 0,B'.readN B.size 0 with
  |some l,some k=>finL lo hi l k m
  |_,_=>m
 |_,_=>m
def finP (lo hi:Nat)(h:Hp)(pre:List (Nat×Ob))(m:Tr Nat):Tr Nat :=
 List.rec (motive:=fun _=>Tr Nat→Tr Nat) (fun m=>m) (fun q _ ih m=>Option.rec (motive:=fun _=>Tr Nat) (ih m) (fun b=>ih (finO lo hi m (some q.2) (h.ob b))) (m.get q.1)) pre m
def rnF (lo hi N:Nat)(m:Tr Nat)(i:Nat):Nat:=cond (Nat.blt i lo) i (cond (Nat.ble hi i) (Nat.add N (Nat.sub i hi)) (Option.rec (motive:=fun _=>Nat) i (fun j=>j) (m.get i)))
def nmF (lo hi:Nat)(pre:List (Nat×Ob))(i:Nat):Bool:=cond (Nat.blt i lo) true (cond (Nat.ble hi i) true (hasN pre i))
def rnP (r:Nat→Nat)(l:List (Nat×Ob)):List (Nat×Ob):=mapL (fun q=>(r q.1,rnO r q.2)) l
def distN (l:List Nat):Bool:=List.rec (motive:=fun _=>Bool) true (fun a l ih=>cond (List.rec (motive:=fun _=>Bool) true (fun b _ ih=>cond (Nat.beq a b) false ih) l) ih false) l
theorem zh1:∀ {l:List Nat},distN l=true→l.Nodup
 | [],_=>List.nodup_nil
 |a :: l,h=>by
  change cond (List.rec (motive:=fun _=>Bool) true (fun b _ ih=>cond (Nat.beq a b) false ih) l) (distN l) false=true at h
  obtain ⟨h1,h2⟩:=zaa h
  refine List.nodup_cons.2 ⟨?_,zh1 h2⟩
  clear h h2
  induction l with
  |nil=>simp
  |cons b l ih =>
   change cond (Nat.beq a b) false (List.rec (motive:=fun _=>Bool) true (fun b _ ih=>cond (Nat.beq a b) false ih) l)=true at h1
   obtain ⟨h3,h4⟩:=za6 h1
   intro hm
   rcases List.mem_cons.1 hm with rfl|hm
   ·rw[Nat.beq_refl] at h3;cases h3
   ·exact ih h4 hm
def okR (lo:Nat)(c:Kn):Bool :=
 cond (Nat.ble lo c.n0) (cond (Nat.ble c.n0 c.n1) (cond (allB (fun q=>Nat.blt q.1 c.n0) c.pre) (cond (allB (nmA (nmF lo c.n0 c.pre)) c.av)
  (cond (allB (fun q=>nmO (nmF lo c.n0 c.pre) q.2) c.pre) (cond (nmV (nmF lo c.n0 c.pre) c.v) (cond (allB (fun q=>nmO (nmF lo c.n0 c.pre) q.2) c.post) (allB (fun q=>nmF lo c.n0 c.pre q.1) c.post) false) false) false) false) false) false) false
def orcR1 (c:Kn)(av:List Value)(h:Hp)(r:Nat→Nat):Option (Value×Hp) :=
 cond (eqVs av (mapL (rnA r) c.av)) (cond (allB (inOb h) (rnP r c.pre)) (cond (distN (mapL (fun q=>r q.1) c.pre)) (some (rnV r c.v,lay (Nat.add h.next (Nat.sub c.n1 c.n0)) (rnP r c.post) h)) none) none) none
def orcR (lo:Nat)(c:Kn):Nat→List Value→Hp→Option (Value×Hp):=fun f av h =>
 cond (Nat.beq f c.k) (cond (Nat.ble lo h.next) (orcR1 c av h (rnF lo c.n0 h.next (finP lo c.n0 h c.pre (finP lo c.n0 h c.pre (finP lo c.n0 h c.pre (finP lo c.n0 h c.pre (finVs lo c.n0 c.av av .leaf))))))) none) none
theorem zfl {α β:Type}{f:α→β}:∀ {l:List α},(l.map f).Nodup→∀ {a b:α},a∈l→b∈l→f a=f b→a=b
 | [],_,_,_,h,_,_=>by cases h
 |x :: l,hn,a,b,ha,hb,he=>by
  obtain ⟨h1,h2⟩:=List.nodup_cons.1 hn
  rcases List.mem_cons.1 ha with ea|ha' <;> rcases List.mem_cons.1 hb with eb|hb'
  ·rw[ea,eb]
  ·subst ea;exact absurd (List.mem_map.2 ⟨b,hb',he.symm⟩) h1
  ·subst eb;exact absurd (List.mem_map.2 ⟨a,ha',he⟩) h1
  ·exact zfl h2 ha' hb' he
theorem znj {r:Nat→Nat}{l:List (Nat×Ob)}{q:Nat×Ob}(h:q∈l):(r q.1,rnO r q.2)∈rnP r l:=by
 unfold rnP;rw[zdr];exact List.mem_map.2 ⟨q,h,rfl⟩
theorem zsr {r:Nat→Nat}{l:List (Nat×Ob)}{i:Nat}{o:Ob}(h:(i,o)∈rnP r l):∃ q∈l,i=r q.1∧o=rnO r q.2:=by
 unfold rnP at h;rw[zdr] at h
 obtain ⟨q,hq,he⟩:=List.mem_map.1 h
 injection he with h1 h2
 exact ⟨q,hq,h1.symm,h2.symm⟩
theorem zbo {x:X}(hx:x.Ok){fuel lo:Nat}{c:Kn}(hlo:x.ng.n=lo)(hk:okR lo c=true)(hr:runH x fuel c=true):OrcOk x.P x.ng (orcR lo c):=by
 intro k av h v h' hh E w av' H hg ha
 unfold orcR at hh
 replace hh:=zac hh;obtain ⟨h1,hh⟩:=hh
 replace hh:=zac hh;obtain ⟨h2,hh⟩:=hh
 generalize finP lo c.n0 h c.pre (finP lo c.n0 h c.pre (finP lo c.n0 h c.pre (finP lo c.n0 h c.pre (finVs lo c.n0 c.av av .leaf))))=m at hh
 have hrlo:∀ i,i<lo→rnF lo c.n0 h.next m i=i:=fun i hi=>by
  unfold rnF;rw[show Nat.blt i lo=true from by simpa [Nat.blt_eq] using hi];rfl
 have hrhi:∀ i,¬ i<lo→c.n0≤i→rnF lo c.n0 h.next m i=h.next+(i - c.n0):=fun i hi hj=>by
  unfold rnF
  rw[show Nat.blt i lo=false from by cases hb:Nat.blt i lo with|false=>rfl|true=>exact absurd (zcc hb) hi,show Nat.ble c.n0 i=true from Nat.ble_eq_true_of_le hj];rfl
 generalize rnF lo c.n0 h.next m=r at hh hrlo hrhi
 unfold orcR1 at hh
 replace hh:=zac hh;obtain ⟨h3,hh⟩:=hh
 replace hh:=zac hh;obtain ⟨h4,hh⟩:=hh
 replace hh:=zac hh;obtain ⟨h4d,hh⟩:=hh
 injection hh with hh;injection hh with h5 h6;subst h5;subst h6
 have h1:=zay h1;subst h1
 have h2:=zbh h2
 have h3:=zga h3;subst h3
 have h4:=(zag _ _).1 h4
 have h4d:=zh1 h4d
 rw[zdr] at h4d
 unfold okR at hk
 obtain ⟨k1,hk⟩:=zaa hk
 obtain ⟨k2,hk⟩:=zaa hk
 obtain ⟨k4,hk⟩:=zaa hk
 obtain ⟨k5,hk⟩:=zaa hk
 obtain ⟨k6,hk⟩:=zaa hk
 obtain ⟨k7,hk⟩:=zaa hk
 obtain ⟨k8,k9⟩:=zaa hk
 have k1:=zbh k1
 have k2:=zbh k2
 have k4:=(zag _ _).1 k4
 have k5:=(zag _ _).1 k5
 have k6:=(zag _ _).1 k6
 have k8:=(zag _ _).1 k8
 have k9:=(zag _ _).1 k9
 unfold runH at hr
 cases hf:fcall x fuel c.k c.av (lay c.n0 c.pre .empty) with
 |none=>rw[hf] at hr;cases hr
 |some p =>
  rw[hf] at hr
  obtain ⟨v1,hp1⟩:=p
  change cond (tupV v1 c.v) (cond (Nat.beq hp1.next c.n1) (cond (allB (inOb hp1) c.post) (allB (fun q=>hasN c.post q.1) c.pre) false) false) false=true at hr
  obtain ⟨g1,hr⟩:=zaa hr
  obtain ⟨g2,hr⟩:=zaa hr
  obtain ⟨g3,g4⟩:=zaa hr
  have g1:=zj8 g1;subst g1
  have g2:=zay g2
  have g3:=(zag _ _).1 g3
  have g4:=(zag _ _).1 g4
  let E0:En:=⟨fun i=>if i<c.n0 then E (r i) else none,E.s,E.one⟩
  have E0lt:∀ i,i<c.n0→E0 i=E (r i):=fun i hi=>qX hi
  have E0ge:∀ i,¬ i<c.n0→E0 i=none:=fun i hi=>qW hi
  have pcase:∀ i,nmF lo c.n0 c.pre i=true→i<lo∨(¬ i<lo∧c.n0≤i)∨(∃ q∈c.pre,q.1=i):=fun i hi=>by
   unfold nmF at hi
   cases hb:Nat.blt i lo with
   |true=>exact .inl (zcc hb)
   |false =>
    have hb':¬ i<lo:=fun hlt=>by rw[show Nat.blt i lo=true from by simpa [Nat.blt_eq] using hlt] at hb;cases hb
    rw[hb] at hi
    change cond (Nat.ble c.n0 i) true (hasN c.pre i)=true at hi
    cases hc:Nat.ble c.n0 i with
    |true=>exact .inr (.inl ⟨hb',zbh hc⟩)
    |false=>rw[hc] at hi;exact .inr (.inr (zdg hi))
  have hback:∀ i e,nmF lo c.n0 c.pre i=true→E (r i)=some e→E0 i=some e:=fun i e hi he=>by
   rcases pcase i hi with hi|⟨hi,hj⟩|⟨q,hq,rfl⟩
   ·rw[E0lt i (by omega)];exact he
   ·rw[hrhi i hi hj,H.fresh _ (by omega)] at he;cases he
   ·rw[E0lt q.1 (zcc (k4 q hq))];exact he
  have hpre:∀ i o,(lay c.n0 c.pre .empty).ob i=some o→i<c.n0∧∃ o',h.ob (r i)=some o'∧subOb (rnO r o) o'=true∧(i,o)∈c.pre∧∃ q∈c.post,q.1=i:=fun i o hi=>by
   rcases zc5 hi with hm|⟨hm,_⟩
   ·obtain ⟨o',ho',hs⟩:=zcw (h4 _ (znj hm))
    exact ⟨zcc (k4 _ hm),o',ho',hs,hm,zdg (g4 _ hm)⟩
   ·cases hm
  have H0:HR E0 (lay c.n0 c.pre .empty) w:=by
   refine ⟨fun i hi=>E0ge i (by show ¬ i<c.n0;exact Nat.not_lt.2 hi),fun i o hi=>?_,fun i j o o' e e' hi hj he he' heq=>?_⟩
   ·obtain ⟨hlt,o',ho',hs,hm,_⟩:=hpre i o hi
    obtain ⟨e,he,hob⟩:=H.obj (r i) o' ho'
    refine ⟨e,(E0lt i hlt).trans he,?_⟩
    exact ObR.un hback rfl (k6 _ hm) (zdf hs hob)
   ·obtain ⟨hl1,o1,ho1,_,hm1,_⟩:=hpre i o hi
    obtain ⟨hl2,o2,ho2,_,hm2,_⟩:=hpre j o' hj
    rw[E0lt i hl1] at he;rw[E0lt j hl2] at he'
    have:=H.inj (r i) (r j) o1 o2 e e' ho1 ho2 he he' heq
    have:=zfl h4d hm1 hm2 this
    injection this
  have hg0:GOk x.ng E0:=⟨fun g hgl=>by
   obtain ⟨mm,hmm⟩:=hg.1 g hgl
   exact ⟨mm,by rw[E0lt g (by omega),hrlo g (by omega)];exact hmm⟩,hg.2⟩
  have ha0:LR E0 c.av av':=by
   rw[zdr] at ha
   exact F2.mapl_inv ha fun a hm b hab=>VR.unA hback rfl (k5 a hm) hab
  rw[zei] at hf
  refine (zcg hx hf H0 hg0 ha0).mono ?_
  rintro e w' ⟨E',u,rfl,st,hu⟩
  let E2:En:=⟨fun j=>if j<h.next then E j else E' (c.n0+(j - h.next)),E.s,E.one⟩
  have E2lt:∀ i,i<h.next→E2 i=E i:=fun i hi=>qX hi
  have E2ge:∀ i,¬ i<h.next→E2 i=E' (c.n0+(i - h.next)):=fun i hi=>qW hi
  have some_lt:∀ {i e},E i=some e→i<h.next:=fun {i e} he=>by
   apply Decidable.byContradiction;intro hn
   rw[H.fresh i (by omega)] at he;cases he
  have le2:E.le E2:=⟨rfl,fun i e he=>(E2lt i (some_lt he)).trans he⟩
  have hs2:E2.s=E'.s:=st.le.s.symm
  have fwd:∀ i e,nmF lo c.n0 c.pre i=true→E' i=some e→E2 (r i)=some e:=fun i e hi he=>by
   rcases pcase i hi with hi|⟨hi,hj⟩|⟨q,hq,rfl⟩
   ·obtain ⟨mm,hmm⟩:=hg0.1 i (by omega)
    have:=st.le _ _ hmm
    rw[he] at this;injection this with this;subst this
    rw[E0lt i (by omega)] at hmm
    exact le2 _ _ hmm
   ·rw[hrhi i hi hj,E2ge _ (by omega),show c.n0+(h.next+(i - c.n0) - h.next)=i by omega];exact he
   ·have hlt:=zcc (k4 q hq)
    obtain ⟨o',ho',hs⟩:=zcw (h4 _ (znj hq))
    obtain ⟨e2,he2,_⟩:=H.obj _ o' ho'
    have:=st.le _ _ ((E0lt q.1 hlt).trans he2)
    rw[he] at this;injection this with this;subst this
    exact le2 _ _ he2
  refine ⟨E2,u,rfl,?_,VR.rnV fwd hs2 k7 hu⟩
  have hpost:∀ q∈c.post,∃ o',hp1.ob q.1=some o'∧subOb q.2 o'=true:=fun q hq=>zcw (g3 q hq)
  have pn:∀ q∈c.post,nmF lo c.n0 c.pre q.1=true:=k9
  have hold:∀ i o,h.ob i=some o→(∀ q∈rnP r c.post,q.1≠i)→∀ e,E i=some e→¬ Img0 E0 (lay c.n0 c.pre .empty) e.blk:=fun i o hi hno e he=>by
   rintro ⟨j,o2,e2,hj,he2,hb⟩
   obtain ⟨hlt,o',ho',_,hm,q,hq,hqj⟩:=hpre j o2 hj
   rw[E0lt j hlt] at he2
   have:=H.inj (r j) i o' o e2 e ho' hi he2 he hb
   refine hno _ (znj hq) ?_
   show r q.1=i
   rw[hqj];exact this
  have img:∀ k,Img E0 (lay c.n0 c.pre .empty) k→Img E h k:=fun k hk=>by
   obtain ⟨i,o,e,hi,hwr,he,hb⟩:=hk
   obtain ⟨hlt,o',ho',hs,_⟩:=hpre i o hi
   exact ⟨r i,o',e,ho',zfk hs (zw2.trans hwr),(E0lt i hlt).symm.trans he,hb⟩
  have img0:∀ k,Img0 E0 (lay c.n0 c.pre .empty) k→Img0 E h k:=fun k hk=>by
   obtain ⟨i,o,e,hi,he,hb⟩:=hk
   obtain ⟨hlt,o',ho',_⟩:=hpre i o hi
   exact ⟨r i,o',e,ho',(E0lt i hlt).symm.trans he,hb⟩
  have imi:∀ k,Img E0 (lay c.n0 c.pre .empty) k→Img0 E0 (lay c.n0 c.pre .empty) k:=fun k ⟨i,o,e,hi,_,he,hb⟩=>⟨i,o,e,hi,he,hb⟩
  have new:∀ {i:Nat} {o:Ob} {e:Em},(i,o)∈rnP r c.post→E2 i=some e→∃ q o1,q∈c.post∧i=r q.1∧o=rnO r q.2∧hp1.ob q.1=some o1∧subOb q.2 o1=true∧E' q.1=some e:=fun {i o e} hi he=>by
   obtain ⟨q,hq,rfl,rfl⟩:=zsr hi
   obtain ⟨o1,ho1,hs⟩:=hpost q hq
   obtain ⟨e1,he1,_⟩:=st.hr.obj _ _ ho1
   have:=fwd _ _ (pn q hq) he1
   rw[he] at this;injection this with this;subst this
   exact ⟨q,o1,hq,rfl,rfl,ho1,hs,he1⟩
  have old:∀ {i:Nat} {o:Ob} {e:Em},h.ob i=some o→E2 i=some e→E i=some e∧e.blk<w.heap.size:=fun {i o e} hi he=>by
   obtain ⟨e2,he2,hob⟩:=H.obj i o hi
   have:=le2 _ _ he2
   rw[he] at this;injection this with this;subst this
   exact ⟨he2,hob.lt⟩
  refine ⟨le2,⟨fun i hi=>?_,fun i o hi=>?_,fun i j o o' e e' hi hj he he' heq=>?_⟩,st.os,st.tape,st.output,st.size,fun k hk hni=>⟨(st.keep k hk fun hi=>hni (img k hi)).1,?_⟩,fun k hk hni=>?_⟩
  ·change h.next+(c.n1 - c.n0)≤i at hi
   rw[E2ge i (by omega)]
   exact st.hr.fresh _ (by rw[g2];omega)
  ·rcases zc5 hi with hm|⟨hm,hno⟩
   ·obtain ⟨q,hq,rfl,rfl⟩:=zsr hm
    obtain ⟨o',ho',hs⟩:=hpost _ hq
    obtain ⟨e,he,hob⟩:=st.hr.obj _ o' ho'
    exact ⟨e,fwd _ _ (pn q hq) he,ObR.rn fwd hs2 (k8 _ hq) (zdf hs hob)⟩
   ·obtain ⟨e,he,hob⟩:=H.obj i o hm
    exact ⟨e,le2 _ _ he,hob.mono le2 (st.keep _ hob.lt fun hi=>hold i o hm hno e he (imi _ hi)).1⟩
  ·rcases zc5 hi with hm|⟨hm,hno⟩ <;> rcases zc5 hj with hn|⟨hn,hno'⟩
   ·obtain ⟨q1,o1,_,rfl,_,ho1,_,he1⟩:=new hm he
    obtain ⟨q2,o2,_,rfl,_,ho2,_,he2⟩:=new hn he'
    rw[st.hr.inj _ _ o1 o2 e e' ho1 ho2 he1 he2 heq]
   ·obtain ⟨q1,o1,_,rfl,_,ho1,_,he1⟩:=new hm he
    obtain ⟨hE,hlt⟩:=old hn he'
    exact absurd ⟨_,o1,e,ho1,he1,heq⟩ (st.keep0 _ hlt (hold j o' hn hno' e' hE))
   ·obtain ⟨q2,o2,_,rfl,_,ho2,_,he2⟩:=new hn he'
    obtain ⟨hE,hlt⟩:=old hm he
    exact absurd ⟨_,o2,e',ho2,he2,heq.symm⟩ (st.keep0 _ hlt (hold i o hm hno e hE))
   ·exact H.inj i j o o' e e' hm hn (old hm he).1 (old hn he').1 heq
  ·rintro ⟨i,o,e,hi,hwr,he,hb⟩
   rcases zc5 hi with hm|⟨hm,hno⟩
   ·obtain ⟨q1,o1,_,rfl,rfl,ho1,hs,he1⟩:=new hm he
    exact (st.keep k hk fun hi=>hni (img k hi)).2 ⟨_,o1,e,ho1,zfk hs (zw2.symm.trans hwr),he1,hb⟩
   ·exact hni ⟨i,o,e,hm,hwr,(old hm he).1,hb⟩
  ·rintro ⟨i,o,e,hi,he,hb⟩
   rcases zc5 hi with hm|⟨hm,hno⟩
   ·obtain ⟨q1,o1,_,rfl,_,ho1,_,he1⟩:=new hm he
    exact st.keep0 k hk (fun hi=>hni (img0 k hi)) ⟨_,o1,e,ho1,he1,hb⟩
   ·exact hni ⟨i,o,e,hm,(old hm he).1,hb⟩
end Go.Proofs.YtemgclnkgieldaaGreatDoor.CX
