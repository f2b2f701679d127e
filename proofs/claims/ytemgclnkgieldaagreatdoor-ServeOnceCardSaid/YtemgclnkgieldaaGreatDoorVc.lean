/- Maps in memory, read as lists: looked up, written, deleted from, gone through in the order that the tape says. -/
import Derived.Test.YtemgclnkgieldaaGreatDoorVb
set_option maxHeartbeats 2000000
set_option maxRecDepth 100000
namespace Go.Proofs.YtemgclnkgieldaaGreatDoor.Oc
open Go Go.RowKit Dk
structure KeyV (K:Type) where
 d:TypeDesc
 kv:K→Value
 inj:∀ a b,kv a=kv b→a=b
 key:∀ a,MapKept.IsKey d (kv a)
def KS:KeyV ByteArray:=⟨.string,.string,fun _ _ h=>by injection h,fun _=>trivial⟩
def KI:KeyV Nat:=⟨.int .i64,fun n => .int .i64 (n:Int),fun a b h=>by injection h with _ h;omega,fun _=>rfl⟩
section
variable {K:Type}[DecidableEq K]
def lkv (m:List (K×Value))(s:K):Option Value:=match m with
 | []=>none
 |p :: l=>if p.1=s then some p.2 else lkv l s
theorem zo3 {m:List (K×Value)}{s:K}:lkv m s=none↔∀ p∈m,p.1≠s:=by
 induction m with
 |nil=>simp[lkv]
 |cons p l ih =>
  unfold lkv
  split
  ·next h=>simp[h]
  ·next h=>simp[h,ih]
theorem zqr {m:List (K×Value)}(hn:(m.map (·.1)).Nodup){s:K}{v:Value}(h:(s,v)∈m):lkv m s=some v:=by
 induction m with
 |nil=>cases h
 |cons p l ih =>
  rw[kM,List.nodup_cons] at hn
  unfold lkv
  rcases List.mem_cons.1 h with h|h
  ·subst h
   rw[kZ rfl]
  ·rw[kT,ih hn.2 h]
   intro e
   exact hn.1 (kO.2 ⟨_,h,e.symm⟩)
end
def MapIs {K:Type}(w:World)(kv:KeyV K)(b:Nat)(m:List (K×Value)):Prop :=
 ∃ (es:Array MapEntry) (clock:Nat),w.heap[b]? = some (.map es clock)∧es.toList.map (fun e=>(e.key,e.val))=m.map (fun p=>(kv.kv p.1,p.2))∧MapKept.Stamped es clock
section
variable {K:Type}{kv:KeyV K}{w w':World}{b:Nat}{m:List (K×Value)}
theorem MapIs.lt (h:MapIs w kv b m):b<w.heap.size:=by
 obtain ⟨es,c,hb,_⟩:=h
 exact (Array.getElem?_eq_some_iff.1 hb).1
theorem MapIs.keep (h:MapIs w kv b m)(hk:w'.heap[b]? = w.heap[b]?):MapIs w' kv b m:=by
 obtain ⟨es,c,hb,he⟩:=h
 exact ⟨es,c,hk.trans hb,he⟩
theorem MapIs.alt {p:Nat→Prop}(h:MapIs w kv b m)(ha:Alt w w' p)(hp:¬ p b):MapIs w' kv b m:=h.keep (ha.block b h.lt hp)
theorem MapIs.below (h:MapIs w kv b m)(hb:Below w.heap.size w w'):MapIs w' kv b m:=h.keep (hb.block b h.lt)
theorem MapIs.far {a:Addr}(h:MapIs w kv b m)(hp:b≠a.block)(u:Value):MapIs (w.setCell a u) kv b m:=h.keep (Below.heap_setCell w a u b hp)
theorem MapIs.new (w:World)(kv:KeyV K):MapIs (w.alloc (.map #[] 0)) kv w.heap.size []:=⟨#[],0,(MapKept.heap_alloc w _).1,rfl,MapKept.stamped_empty 0⟩
theorem MapIs.ne_blk {g:Nat}{t:TypeId}{cs:Array Value}(h:MapIs w kv b m)(hg:Blk w g t cs):b≠g:=by
 rintro rfl
 obtain ⟨es,c,hb,_⟩:=h
 unfold Blk at hg
 rw[hb] at hg
 cases hg
theorem zs8 {es:Array MapEntry}(h:es.toList.map (fun e=>(e.key,e.val))=m.map (fun p=>(kv.kv p.1,p.2))):es.size=m.length:=by
 have:=congrArg List.length h
 simpa using this
theorem zkd {es:List MapEntry}(h:es.map (fun e=>(e.key,e.val))=m.map (fun p=>(kv.kv p.1,p.2))){e:MapEntry}(he:e∈es):∃ p∈m,e.key=kv.kv p.1∧e.val=p.2:=by
 have h1:(e.key,e.val)∈m.map (fun p=>(kv.kv p.1,p.2)):=by
  rw[← h]
  exact kO.2 ⟨e,he,rfl⟩
 obtain ⟨p,hp,e1⟩:=kO.1 h1
 injection e1 with e1 e2
 exact ⟨p,hp,e1.symm,e2.symm⟩
theorem zvn {es:List MapEntry}(h:es.map (fun e=>(e.key,e.val))=m.map (fun p=>(kv.kv p.1,p.2))){p:K×Value}(hp:p∈m):∃ e∈es,e.key=kv.kv p.1∧e.val=p.2:=by
 have h1:(kv.kv p.1,p.2)∈es.map (fun e=>(e.key,e.val)):=by
  rw[h]
  exact kO.2 ⟨p,hp,rfl⟩
 obtain ⟨e,he,e1⟩:=kO.1 h1
 injection e1 with e1 e2
 exact ⟨e,he,e1,e2⟩
theorem zen {es:Array MapEntry}{clock:Nat}(h:es.toList.map (fun e=>(e.key,e.val))=m.map (fun p=>(kv.kv p.1,p.2)))(hs:MapKept.Stamped es clock):(m.map (·.1)).Nodup:=by
 have h1:es.toList.map (·.key)=(m.map (·.1)).map kv.kv:=by
  have:=congrArg (List.map Prod.fst) h
  simpa [qK,Function.comp_def] using this
 have h2:=hs.2.2
 rw[h1] at h2
 exact List.Pairwise.of_map _ (fun a b hne e=>hne (by rw[e])) h2
theorem MapIs.nodup (h:MapIs w kv b m):(m.map (·.1)).Nodup:=by
 obtain ⟨es,c,_,he,hs⟩:=h
 exact zen he hs
theorem zy0 {es:Array MapEntry}(h:es.toList.map (fun e=>(e.key,e.val))=m.map (fun p=>(kv.kv p.1,p.2))):∀ x∈es.toList,MapKept.IsKey kv.d x.key:=fun x hx=>by
 obtain ⟨p,_,e,_⟩:=zkd h hx
 rw[e];exact kv.key _
end
section
variable {K:Type}[DecidableEq K]{kv:KeyV K}{w w':World}{b:Nat}{m:List (K×Value)}{P:Program}{t k e:TypeId}
theorem znn {es:Array MapEntry}{clock:Nat}(he:es.toList.map (fun e=>(e.key,e.val))=m.map (fun p=>(kv.kv p.1,p.2)))(hs:MapKept.Stamped es clock)(s:K) :
  (lkv m s=none∧Instr.findNow kv.d (kv.kv s) es.toList 0=some none∧∀ x∈es.toList,x.key≠kv.kv s)∨∃ v j e,lkv m s=some v∧Instr.findNow kv.d (kv.kv s) es.toList 0=some (some (j,v))∧es[j]? = some e∧e.key=kv.kv s∧m[j]? = some (s,v):=by
 rcases MapKept.findNow_spec (kv.key s) es.toList 0 (zy0 he) with ⟨h1,h2⟩|⟨j,e,h1,h2,h3⟩
 ·refine .inl ⟨zo3.2 fun p hp hps=>?_,h1,h2⟩
  obtain ⟨x,hx,e1,_⟩:=zvn he hp
  exact h2 x hx (by rw[e1,hps])
 ·have h4:(m.map (fun p=>(kv.kv p.1,p.2)))[j]? = some (e.key,e.val):=by
   rw[← he,List.getElem?_map,h2];rfl
  rw[List.getElem?_map] at h4
  obtain ⟨p,hp,e1⟩:=Option.map_eq_some_iff.1 h4
  injection e1 with e1 e2
  have e3:p.1=s:=kv.inj _ _ (by rw[e1,h3])
  have e4:p=(s,e.val):=by rw[← e3, ← e2]
  rw[e4] at hp
  refine .inr ⟨e.val,j,e,zqr (zen he hs) (qH hp),by simpa using h1,by simpa using h2,h3,hp⟩
theorem ze4 (ht:P.underlying t=some (.map k e))(hk:P.underlying k=some kv.d){z:Value}(hz:(zeroValue e).run P w = .ok z w)(h:MapIs w kv b m)(s:K)(c:Bool) :
  (Instr.lookup t (.map (some b)) (kv.kv s) c).run P w = .ok (if c then .tuple #[(lkv m s).getD z,.bool (lkv m s).isSome] else (lkv m s).getD z) w:=by
 obtain ⟨es,clock,hb,he,hs⟩:=h
 have hc:(Instr.checkKey es.isEmpty 10000 k (kv.kv s)).run P w = .ok () w:=MapKept.run_checkKey hk (kv.key s) _ 9999
 rcases znn he hs s with ⟨h1,h2,_⟩|⟨v,j,_,h1,h2,_⟩
 ·have hf:=MapKept.run_findKey (P:=P) (w:=w) hk h2
  simp[Instr.lookup,run_underlying ht,MapKept.run_getObj_map hb,hc,hf,Result.andThen,hz,h1]
 ·have hf:=MapKept.run_findKey (P:=P) (w:=w) hk h2
  simp[Instr.lookup,run_underlying ht,MapKept.run_getObj_map hb,hc,hf,Result.andThen,h1]
def putv (m:List (K×Value))(s:K)(v:Value):List (K×Value):=if (lkv m s).isSome then m.map (fun p=>if p.1=s then (s,v) else p) else m++[(s,v)]
def delv (m:List (K×Value))(s:K):List (K×Value):=m.filter (fun p=>decide (p.1≠s))
theorem zs9 (es:List MapEntry):∀ (m:List (K×Value)) (j:Nat) (s:K) (v:Value),(m.map (·.1)).Nodup→es.map (fun e=>(e.key,e.val))=m.map (fun p=>(kv.kv p.1,p.2))→(∃ u,m[j]? = some (s,u)) →
  (es.modify j (fun e=>{ e with key:=kv.kv s,val:=v })).map (fun e=>(e.key,e.val))=(m.map (fun p=>if p.1=s then (s,v) else p)).map (fun p=>(kv.kv p.1,p.2)):=by
 induction es with
 |nil =>
  intro m j s v _ h hu
  rcases m with _|⟨p,m⟩
  ·simp
  ·cases h
 |cons e es ih =>
  intro m j s v hn h hu
  rcases m with _|⟨p,m⟩
  ·cases h
  ·rw[kM,kM] at h
   injection h with h1 h2
   rw[kM,List.nodup_cons] at hn
   rcases j with _|j
   ·obtain ⟨u,hu⟩:=hu
    injection hu with hu
    have hps:p.1=s:=by rw[hu]
    have hrest:m.map (fun p=>if p.1=s then (s,v) else p)=m:=by
     conv=>rhs;rw[← List.map_id m]
     refine List.map_congr_left fun q hq=>?_
     rw[kT];rfl
     intro e1
     exact hn.1 (kO.2 ⟨q,hq,by rw[e1,hps]⟩)
    rw[kM,hrest,kZ hps]
    simp[List.modify,h2]
   ·obtain ⟨u,hu⟩:=hu
    have hu':m[j]? = some (s,u):=hu
    have hps:p.1≠s:=fun e1=>hn.1 (kO.2 ⟨(s,u),qH hu',e1.symm⟩)
    rw[List.modify_succ_cons,kM,kM,kT hps,kM,ih m j s v hn.2 h2 ⟨u,hu'⟩,h1]
theorem zd6 {α β:Type}(f:α→β):∀ (l:List α) (j:Nat),(l.eraseIdx j).map f=(l.map f).eraseIdx j
 | [],_=>by simp
 |a :: l,0=>rfl
 |a :: l,j+1=>by
  rw[List.eraseIdx_cons_succ,kM,kM,List.eraseIdx_cons_succ,zd6 f l j]
theorem zy1:∀ (m:List (K×Value)) (j:Nat) (s:K) (u:Value),(m.map (·.1)).Nodup→m[j]? = some (s,u)→delv m s=m.eraseIdx j:=by
 intro m
 induction m with
 |nil=>intro j s u _ h;cases h
 |cons p m ih =>
  intro j s u hn hu
  rw[kM,List.nodup_cons] at hn
  rcases j with _|j
  ·injection hu with hu
   have hps:p.1=s:=by rw[hu]
   unfold delv
   rw[qL,kT (by simp[hps]),List.eraseIdx_cons_zero,List.filter_eq_self]
   intro q hq
   have:q.1≠s:=fun e1=>hn.1 (kO.2 ⟨q,hq,by rw[e1,hps]⟩)
   simpa using this
  ·have hu':m[j]? = some (s,u):=hu
   have hps:p.1≠s:=fun e1=>hn.1 (kO.2 ⟨(s,u),qH hu',e1.symm⟩)
   have:=ih j s u hn.2 hu'
   unfold delv at this ⊢
   rw[qL,kZ (by simpa using hps),this,List.eraseIdx_cons_succ]
theorem zke {b:Nat}{o o':Obj}(hb:w.heap[b]? = some o):Alt w { w with heap:=w.heap.setIfInBounds b o' } (fun x=>x=b):=⟨rfl,rfl,rfl,by simp,fun _ _ hx=>(MapKept.heap_set hb).2 _ hx⟩
theorem zb9 (ht:P.underlying t=some (.map k e))(hk:P.underlying k=some kv.d)(h:MapIs w kv b m)(s:K)(v:Value) :
  ∃ w',(Instr.mapUpdate t (.map (some b)) (kv.kv s) v).run P w = .ok () w'∧MapIs w' kv b (putv m s v)∧Alt w w' (fun x=>x=b)∧w'.heap.size=w.heap.size:=by
 obtain ⟨es,clock,hb,he,hs⟩:=h
 have hc:(Instr.checkKey false 10000 k (kv.kv s)).run P w = .ok () w:=MapKept.run_checkKey hk (kv.key s) _ 9999
 rcases znn he hs s with ⟨h1,h2,h3⟩|⟨v0,j,e0,h1,h2,h3,h4,h5⟩
 ·have hf:=MapKept.run_findKey (P:=P) (w:=w) hk h2
  refine ⟨{ w with heap:=w.heap.setIfInBounds b (.map (es.push { key:=kv.kv s,val:=v,born:=clock }) (clock+1)) },?_,⟨_,_,(MapKept.heap_set hb).1,?_,MapKept.stamped_push hs h3⟩,zke hb,by simp⟩
  ·simp[Instr.mapUpdate,run_underlying ht,MapKept.run_getObj_map hb,hc,hf,MapKept.run_setObj_map _ hb,Result.andThen]
  ·rw[putv,h1,kT (by simp),Array.toList_push,kL,kL,he];rfl
 ·have hf:=MapKept.run_findKey (P:=P) (w:=w) hk h2
  have hkey:∀ e',es[j]? = some e'→({ e' with key:=kv.kv s,val:=v }:MapEntry).key=e'.key:=fun e' he'=>by rw[h3] at he';cases he';exact h4.symm
  refine ⟨{ w with heap:=w.heap.setIfInBounds b (.map (es.modify j fun e=>{ e with key:=kv.kv s,val:=v }) clock) },?_,⟨_,_,(MapKept.heap_set hb).1,?_,MapKept.stamped_modify hs _ _ (fun _ _=>rfl) (fun e' _ he'=>hkey e' he')⟩,zke hb,by simp⟩
  ·simp[Instr.mapUpdate,run_underlying ht,MapKept.run_getObj_map hb,hc,hf,h3,h4,MapKept.run_keyThatStays (kv.key s),MapKept.run_setObj_map _ hb,Result.andThen]
  ·rw[putv,h1,kZ (by simp),Array.toList_modify]
   exact zs9 es.toList m j s v (zen he hs) he ⟨_,h5⟩
theorem zvo (ht:P.underlying t=some (.map k e))(hk:P.underlying k=some kv.d)(h:MapIs w kv b m)(s:K)(ty kt:TypeId) :
  ∃ w',(Builtin.delete_ #[t,kt] ty #[.map (some b),kv.kv s]).run P w = .ok (.tuple #[]) w'∧MapIs w' kv b (delv m s)∧Alt w w' (fun x=>x=b)∧w'.heap.size=w.heap.size:=by
 obtain ⟨es,clock,hb,he,hs⟩:=h
 have hc:(Instr.checkKey es.isEmpty 10000 k (kv.kv s)).run P w = .ok () w:=MapKept.run_checkKey hk (kv.key s) _ 9999
 rcases znn he hs s with ⟨h1,h2,h3⟩|⟨v0,j,e0,h1,h2,h3,h4,h5⟩
 ·have hf:=MapKept.run_findKey (P:=P) (w:=w) hk h2
  refine ⟨{ w with heap:=w.heap.setIfInBounds b (.map es clock) },?_,⟨_,_,(MapKept.heap_set hb).1,?_,hs⟩,zke hb,by simp⟩
  ·simp[Builtin.delete_,run_underlying ht,MapKept.run_getObj_map hb,hc,hf,MapKept.run_setObj_map _ hb,Result.andThen]
  ·have:delv m s=m:=by
    unfold delv
    rw[List.filter_eq_self]
    intro p hp
    simpa using zo3.1 h1 p hp
   rw[this,he]
 ·have hf:=MapKept.run_findKey (P:=P) (w:=w) hk h2
  refine ⟨{ w with heap:=w.heap.setIfInBounds b (.map (es.eraseIdxIfInBounds j) clock) },?_,⟨_,_,(MapKept.heap_set hb).1,?_,MapKept.stamped_erase hs j⟩,zke hb,by simp⟩
  ·simp[Builtin.delete_,run_underlying ht,MapKept.run_getObj_map hb,hc,hf,MapKept.run_setObj_map _ hb,Result.andThen]
  ·have hj:j<es.size:=(Array.getElem?_eq_some_iff.1 h3).1
   rw[zy1 m j s v0 (zen he hs) h5]
   unfold Array.eraseIdxIfInBounds
   rw[dif_pos hj,Array.toList_eraseIdx,zd6,he,zd6]
end
def RIs {K:Type}(w:World)(kv:KeyV K)(b r:Nat)(m left:List (K×Value))(last:Option (K×Value)):Prop :=
 ∃ (es:Array MapEntry) (clock since:Nat) (seen:Array Nat) (c0:Nat),w.heap[b]? = some (.map es clock)∧es.toList.map (fun e=>(e.key,e.val))=m.map (fun p=>(kv.kv p.1,p.2))∧MapKept.Stamped es clock ∧
  w.heap[r]? = some (.mapIter (some b) since seen c0)∧(∀ x∈es.toList,x.born<since)∧since≤c0∧since≤clock ∧
  (leftOf es seen).toList.map (fun e=>(e.key,e.val))=left.map (fun p=>(kv.kv p.1,p.2)) ∧
  ∀ p,last=some p→p∈m∧c0=clock∧∃ e∈es.toList,e.key=kv.kv p.1∧e.val=p.2∧∃ seen':Array Nat,seen=seen'.push e.born
section
variable {K:Type}{kv:KeyV K}{w w':World}{b r:Nat}{m left:List (K×Value)}{last:Option (K×Value)}{P:Program}{t k e:TypeId}
theorem RIs.map (h:RIs w kv b r m left last):MapIs w kv b m:=by
 obtain ⟨es,clock,since,seen,c0,hb,he,hs,_⟩:=h
 exact ⟨es,clock,hb,he,hs⟩
theorem RIs.lt (h:RIs w kv b r m left last):r<w.heap.size:=by
 obtain ⟨es,clock,since,seen,c0,hb,he,hs,hr,_⟩:=h
 exact (Array.getElem?_eq_some_iff.1 hr).1
theorem RIs.ne (h:RIs w kv b r m left last):r≠b:=by
 obtain ⟨es,clock,since,seen,c0,hb,he,hs,hr,_⟩:=h
 rintro rfl
 rw[hb] at hr
 cases hr
theorem RIs.ne_blk {g:Nat}{t:TypeId}{cs:Array Value}(h:RIs w kv b r m left last)(hg:Blk w g t cs):r≠g:=by
 obtain ⟨es,clock,since,seen,c0,hb,he,hs,hr,_⟩:=h
 rintro rfl
 unfold Blk at hg
 rw[hr] at hg
 cases hg
theorem RIs.keep (h:RIs w kv b r m left last)(hb':w'.heap[b]? = w.heap[b]?)(hr':w'.heap[r]? = w.heap[r]?):RIs w' kv b r m left last:=by
 obtain ⟨es,clock,since,seen,c0,hb,he,hs,hr,rest⟩:=h
 exact ⟨es,clock,since,seen,c0,hb'.trans hb,he,hs,hr'.trans hr,rest⟩
theorem RIs.alt {p:Nat→Prop}(h:RIs w kv b r m left last)(ha:Alt w w' p)(hp:¬ p b)(hp':¬ p r):RIs w' kv b r m left last:=h.keep (ha.block b h.map.lt hp) (ha.block r h.lt hp')
theorem RIs.below (h:RIs w kv b r m left last)(hb:Below w.heap.size w w'):RIs w' kv b r m left last:=h.keep (hb.block b h.map.lt) (hb.block r h.lt)
theorem RIs.far {a:Addr}(h:RIs w kv b r m left last)(hp:b≠a.block)(hp':r≠a.block)(u:Value):RIs (w.setCell a u) kv b r m left last:=h.keep (Below.heap_setCell w a u b hp) (Below.heap_setCell w a u r hp')
theorem zgc (ht:P.underlying t=some (.map k e))(h:MapIs w kv b m) :
  ∃ w',(Instr.range t (.map (some b))).run P w = .ok (.pointer (some ⟨w.heap.size,0,none⟩)) w'∧RIs w' kv b w.heap.size m m none∧Below w.heap.size w w'∧w'.heap.size=w.heap.size+1:=by
 have hlt:=h.lt
 obtain ⟨es,clock,hb,he,hs⟩:=h
 refine ⟨_,run_range_map w t k e b es clock ht hb,⟨es,clock,clock,#[],clock,((MapKept.heap_alloc w _).2 b hlt).trans hb,he,hs,(MapKept.heap_alloc w _).1,hs.1,kJ _,kJ _,?_,fun p hp=>by cases hp⟩,Below.new1 w _,by simp⟩
 rw[← he]
 have:leftOf es #[]=es:=by
  unfold leftOf
  rw[Array.filter_eq_self]
  intro x _
  simp
 rw[this]
theorem zta {es:Array MapEntry}{seen:Array Nat}{x:MapEntry}(hn:(es.toList.map (·.born)).Nodup){L1 L2:List MapEntry}(hL:(leftOf es seen).toList=L1++x :: L2):(leftOf es (seen.push x.born)).toList=L1++L2:=by
 have h0:(leftOf es (seen.push x.born)).toList=((leftOf es seen).toList).filter (fun y => !(y.born == x.born)):=by
  unfold leftOf
  rw[Array.toList_filter,Array.toList_filter,List.filter_filter]
  refine List.filter_congr fun y _=>?_
  rw[contains_push]
  cases (seen.contains y.born) <;> cases (y.born == x.born) <;> rfl
 have hsub:((leftOf es seen).toList.map (·.born)).Nodup:=by
  unfold leftOf
  rw[Array.toList_filter]
  exact (List.Sublist.map _ List.filter_sublist).nodup hn
 rw[h0,hL]
 rw[hL,kL,kM] at hsub
 have hd:=List.nodup_append.1 hsub
 have hx:=(List.nodup_cons.1 hd.2.1).1
 rw[List.filter_append,qL,kT (by simp)]
 congr 1
 ·rw[List.filter_eq_self]
  intro y hy
  have:y.born≠x.born:=hd.2.2 y.born (kO.2 ⟨y,hy,rfl⟩) x.born qO
  simpa using this
 ·rw[List.filter_eq_self]
  intro y hy
  have:y.born≠x.born:=fun e=>hx (kO.2 ⟨y,hy,e⟩)
  simpa using this
theorem zl3 (w:World){w1:World}(h1:w1=w∨w1=w.drew){r:Nat}{o o':Obj}(hr:w.heap[r]? = some o):Alt w (ChangeMaps.setBlock w1 r o') (fun x=>x=r)∧(ChangeMaps.setBlock w1 r o').heap.size=w.heap.size∧(ChangeMaps.setBlock w1 r o').heap[r]? = some o':=by
 rcases h1 with rfl|rfl
 ·exact ⟨⟨rfl,rfl,rfl,by simp[ChangeMaps.setBlock],fun _ _ hx=>(MapKept.heap_set hr).2 _ hx⟩,by simp[ChangeMaps.setBlock],(MapKept.heap_set hr).1⟩
 ·exact ⟨⟨rfl,rfl,rfl,by show _≤(Array.setIfInBounds _ _ _).size;simp,fun _ _ hx=>(MapKept.heap_set hr).2 _ hx⟩,by show (Array.setIfInBounds _ _ _).size=_;simp,(MapKept.heap_set hr).1⟩
theorem zl4 (ty:TypeId)(h:RIs w kv b r m left last) :
  (left=[]∧(Instr.next (.pointer (some ⟨r,0,none⟩)) false ty).run P w = .ok (.tuple #[.bool false]) w) ∨
  ∃ l1 p l2 w',left=l1++p :: l2∧p∈m∧(Instr.next (.pointer (some ⟨r,0,none⟩)) false ty).run P w = .ok (.tuple #[.bool true,kv.kv p.1,p.2]) w'∧RIs w' kv b r m (l1++l2) (some p)∧Alt w w' (fun x=>x=r)∧w'.heap.size=w.heap.size:=by
 have hlt:=h.map.lt
 have hne:=h.ne
 obtain ⟨es,clock,since,seen,c0,hb,he,hs,hr,hold,hsc,hsk,hl,_⟩:=h
 rcases run_next_at (P:=P) w ty r b since c0 seen es clock hr hb hold hsc with ⟨h0,hrun⟩|⟨x,hx,w1,hw1,hrun⟩
 ·left
  refine ⟨?_,hrun⟩
  have:(leftOf es seen).toList=[]:=by
   have:(leftOf es seen).toList.length=0:=by simpa using h0
   exact qG this
  rw[this] at hl
  simpa using hl.symm
 ·right
  obtain ⟨hxe,_⟩:=mem_left hx
  obtain ⟨L1,L2,hL⟩:=List.append_of_mem hx
  rw[hL,kL,kM] at hl
  obtain ⟨l1,l2',e0,e1,e2⟩:=List.map_eq_append_iff.1 hl.symm
  obtain ⟨p,l2,e3,e4,e5⟩:=List.map_eq_cons_iff.1 e2
  injection e4 with e4 e6
  obtain ⟨q,hq,e7,e8⟩:=zkd he hxe
  have hpq:p=q:=by
   have h1:p.1=q.1:=kv.inj _ _ (by rw[e4,e7])
   have h2:p.2=q.2:=by rw[e6,e8]
   exact Prod.ext h1 h2
  obtain ⟨ha,hsz,hr'⟩:=zl3 w hw1 hr (o' := .mapIter (some b) since (seen.push x.born) clock)
  refine ⟨l1,p,l2,_,by rw[e0,e3],by rw[hpq];exact hq,by rw[hrun, ← e4, ← e6],⟨es,clock,since,seen.push x.born,clock,(ha.block b hlt (fun e=>hne e.symm)).trans hb,he,hs,hr',hold,hsk,hsk,?_,fun p' hp'=>?_⟩,ha,hsz⟩
  ·rw[zta hs.2.1 hL,kL,kL,e1,e5]
  ·injection hp' with hp'
   subst hp'
   exact ⟨by rw[hpq];exact hq,rfl,x,hxe,e4.symm,e6.symm,seen,rfl⟩
theorem zja {p:K×Value}(h:RIs w kv b r m left (some p)):(Instr.entry (.pointer (some ⟨r,0,none⟩))).run P w = .ok (.tuple #[kv.kv p.1,p.2]) w:=by
 obtain ⟨es,clock,since,seen,c0,hb,he,hs,hr,_,_,_,_,hp⟩:=h
 obtain ⟨_,rfl,x,hx,e1,e2,seen',rfl⟩:=hp p rfl
 rw[run_entry_at w r b since seen' es c0 x hr hb hx hs.2.1,e1,e2]
theorem zha {ty ty':TypeId}(ht:P.underlying ty=some (.map k e))(h:MapIs w kv b m):(Builtin.len_ #[ty] ty' #[.map (some b)]).run P w = .ok (.int .i64 (m.length:Int)) w:=by
 obtain ⟨es,clock,hb,he,hs⟩:=h
 simp[Builtin.len_,run_underlying ht,MapKept.run_getObj_map hb,Result.andThen,zs8 he,goInt]
theorem zvp {ty ty':TypeId}(ht:P.underlying ty=some (.map k e)):(Builtin.len_ #[ty] ty' #[.map none]).run P w = .ok (.int .i64 0) w:=by
 simp[Builtin.len_,run_underlying ht,Result.andThen,goInt]
end
structure Sh where
 name:ByteArray
 next:Nat
 live:Nat
 vs:List (Nat×List Int)
structure Vr where
 v:Nat
 ms:List Int
 x:Value
structure Ly where
 name:ByteArray
 next:Nat
 live:Nat
 g:Nat
 bv:Nat
 V:List Vr
def Ly.s (l:Ly):Sh:=⟨l.name,l.next,l.live,l.V.map fun r=>(r.v,r.ms)⟩
def Ly.vm (l:Ly):List (Nat×Value):=l.V.map fun r=>(r.v,r.x)
def shm (L:List Ly):List (ByteArray×Value):=L.map fun l=>(l.name,.pointer (some ⟨l.g,0,none⟩))
def Mt (g gd bm:Nat)(D:Option Nat)(L:List Ly)(k:Nat):Prop:=k=g∨k=gd∨some k=D∨k=bm∨k∈L.map (·.g)∨k∈L.map (·.bv)
def RowR (W:World)(ad:Addr)(c:Nat)(ms:List Int):Prop:=ad=⟨ad.block,ad.off,none⟩∧∃ (cur:Array Value) (fr:Nat×Nat),W.heap[ad.block]? = some (.cells cur 5 fr)∧ad.off+ms.length≤cur.size∧(cur.toList.drop ad.off).take ms.length=ms.map (Value.int .u8)∧(c=ms.length∨cur.size=ad.off+c)
theorem RowR.keep {W W':World}{ad:Addr}{c:Nat}{ms:List Int}(h:RowR W ad c ms)(hk:W'.heap[ad.block]? = W.heap[ad.block]?):RowR W' ad c ms:=by
 obtain ⟨h0,cur,fr,h1,h2⟩:=h
 exact ⟨h0,cur,fr,hk.trans h1,h2⟩
theorem RbB.row {W:World}{g c:Nat}{ms:List Int}(h:RbB W g c ms):RowR W ⟨g,0,none⟩ c ms:=by
 obtain ⟨cur,fr,h1,h2,h3,h4⟩:=h
 exact ⟨rfl,cur,fr,h1,by show 0 + _≤_;omega,by simpa using h4,.inr (by show _=0 + _;omega)⟩
def RowIs (w:World)(far:Nat→Prop)(v:Value)(ms:List Int):Prop:=∃ ad c,v = .slice (some ad) ms.length c∧0<ms.length∧Rb w (some ad) ms∧¬ far ad.block∧RowR w ad c ms
def shc (l:Ly):Array Value:=#[.int .i64 (l.next:Int),.int .i64 (l.live:Int),.map (some l.bv)]
structure Bk (w:World)(g gd bm:Nat)(D:Option Nat)(size:Nat)(L:List Ly):Prop where
 blk:Blk w g 157 #[.pointer (some ⟨gd,0,none⟩),.int .i64 (size:Int),.map (some bm)]
 map:MapIs w KS bm (shm L)
 sh:∀ l∈L,Blk w l.g 240 (shc l)∧MapIs w KI l.bv l.vm∧∀ r∈l.V,RowIs w (Mt g gd bm D L) r.x r.ms
 gs:(L.map (·.g)).Nodup
 bs:(bm :: L.map (·.bv)).Nodup
 sm:size≤4194304∧∀ l∈L,l.next≤1000000∧l.live≤1000000∧l.V.length≤1000000
theorem RowIs.alt {w w':World}{far far':Nat→Prop}{p:Nat→Prop}{v:Value}{ms:List Int}(h:RowIs w far v ms)(ha:Alt w w' p)(hp:∀ k,k<w.heap.size→p k→far k)(hf:∀ k,k<w.heap.size→far' k→far k):RowIs w' far' v ms:=by
 obtain ⟨ad,c,e,h0,hr,hn,hrr⟩:=h
 obtain ⟨ad',e',hlt,_⟩:=hr h0
 injection e' with e'
 subst e'
 exact ⟨ad,c,e,h0,hr.keep ha (fun ad' e' hpp=>by injection e' with e';subst e';exact hn (hp _ hlt hpp)),fun hff=>hn (hf _ hlt hff),hrr.keep (ha.block _ hlt fun hpp=>hn (hp _ hlt hpp))⟩
theorem zal {w w':World}{g gd bm size:Nat}{D:Option Nat}{L:List Ly}(h:Bk w g gd bm D size L)(hb:Below w.heap.size w w'):Bk w' g gd bm D size L:=by
 refine ⟨zab h.blk hb,h.map.below hb,fun l hl=>?_,h.gs,h.bs,h.sm⟩
 obtain ⟨h1,h2,h3⟩:=h.sh l hl
 have ha:Alt w w' (fun _=>False):=⟨hb.os,hb.tape,hb.output,hb.size,fun k hk _=>hb.block k hk⟩
 exact ⟨zab h1 hb,h2.below hb,fun r hr=>(h3 r hr).alt ha (fun _ _ hp=>hp.elim) (fun _ _ h=>h)⟩
def fnd (L:List Ly)(name:ByteArray):Option Ly:=L.find? (fun l=>decide (l.name=name))
theorem zax {L:List Ly}{name:ByteArray}{l:Ly}(h:fnd L name=some l):l∈L∧l.name=name:=⟨List.mem_of_find?_eq_some h,by simpa using List.find?_some h⟩
theorem zh3 (L:List Ly)(name:ByteArray):lkv (shm L) name=(fnd L name).map fun l => .pointer (some ⟨l.g,0,none⟩):=by
 induction L with
 |nil=>rfl
 |cons l L ih =>
  show (if l.name=name then some _ else lkv (shm L) name)=_
  unfold fnd
  rw[List.find?_cons]
  by_cases h:l.name=name
  ·rw[kZ h,kW h];rfl
  ·rw[kT h,kQ h,ih];rfl
def nextOf (L:List Ly)(name:ByteArray):Nat:=match fnd L name with
 |some l=>l.next
 |none=>1
def liveOf (L:List Ly)(name:ByteArray):Nat:=match fnd L name with
 |some l=>l.live
 |none=>0
def verOf (L:List Ly)(name:ByteArray):Option Nat:=match fnd L name with
 |some l=>some l.bv
 |none=>none
def numOf (L:List Ly)(name:ByteArray):Nat:=match fnd L name with
 |some l=>l.V.length
 |none=>0
def shv (L:List Ly)(name:ByteArray):Array Value:=#[.int .i64 (nextOf L name:Int),.int .i64 (liveOf L name:Int),.map (verOf L name)]
theorem zo4 {L:List Ly}{name:ByteArray}{l:Ly}(h:fnd L name=some l):shv L name=shc l:=by unfold shv nextOf liveOf verOf;rw[h];rfl
theorem zvq {L:List Ly}{name:ByteArray}(h:fnd L name=none):shv L name=#[.int .i64 1,.int .i64 0,.map none]:=by unfold shv nextOf liveOf verOf;rw[h];rfl
theorem zxc:(Tryz.prog.info? 240).map (·.size)=some 3:=by kernel_rfl
theorem infoSp:(Tryz.prog.info? 358).map (fun i=>(i.zero,i.size,i.bytes))=some (some (.pointer none),1,8):=by kernel_rfl
theorem zvr (w:World):(zeroValue 358).run Tryz.prog w = .ok (.pointer none) w:=by
 obtain ⟨i,hi,hz,_⟩:=info_parts infoSp
 simp[zeroValue,typeInfo,hi,hz]
theorem zgv {P:Program}{fn:Func}{t:Tmp}{ty t':TypeId}(h:fn.results=#[.cell t ty])(tmps:Array Value)(w:World)(g:Nat)(cs:Array Value)(fr:Nat×Nat)(d:TypeDesc)(hp:tmps.getD t undef = .pointer (some ⟨g,0,none⟩))
  (hg:w.heap[g]? = some (.cells cs t' fr)) (hu:P.underlying ty=some d) (hd:(match d with | .struct _ | .array _ _=>true|_=>false)=true) (hi:(P.info? ty).map (·.size)=some cs.size):(results fn tmps).run P w = .ok (.agg cs) w:=by
 have:=run_loadVar_row w g t' ty cs fr d hg hu hd hi
 have ha:(asAddr (.pointer (some ⟨g,0,none⟩))).run P w = .ok ⟨g,0,none⟩ w:=rfl
 have hp':tmps[t]?.getD undef = .pointer (some ⟨g,0,none⟩):=by simpa using hp
 simp[results,h,hp',ha,this]
theorem zat {w:World}{g:Nat}{t:TypeId}{a b c:Value}(h:Blk w g t #[a,b,c]) :
  (w.cell? ⟨g,0,none⟩=some a∧w.cell? ⟨g,1,none⟩=some b∧w.cell? ⟨g,2,none⟩=some c)∧∀ i,w.frozen? ⟨g,i,none⟩=false :=
 ⟨⟨h.cell 0,h.cell 1,h.cell 2⟩,fun i=>h.frozen i⟩
theorem zdk {w:World}{g gd bm size:Nat}{D:Option Nat}{L:List Ly}(h:Bk w g gd bm D size L)(name:ByteArray) :
  Calls Tryz.prog 90 #[.pointer (some ⟨g,0,none⟩),.string name] w fun e w'=>e = .returned (.agg (shv L name))∧Below w.heap.size w w':=by
 have hb:Bk (w.alloc (.cells #[.int .i64 0,.int .i64 0,.map none] 240)) g gd bm D size L:=zal h (Below.new1 w _)
 obtain ⟨⟨c0,c1,c2⟩,fz⟩:=zat hb.blk
 have hrun:(Instr.lookup 155 (.map (some bm)) (.string name) true).run Tryz.prog _=_:=ze4 (P:=Tryz.prog) Tryz.underlying155 Tryz.underlying9 (zvr _) hb.map name true
 rw[zh3] at hrun
 have HZ:=kA (Blk.new w 240 #[.int .i64 0,.int .i64 0,.map none])
 obtain ⟨⟨z0,z1,z2⟩,zf⟩:=zat HZ.out
 have HB:=kA (Below.new1 w (.cells #[.int .i64 0,.int .i64 0,.map none] 240))
 rcases hf:fnd L name with _|l
 ·rw[hf] at hrun
  have HF:=kA (zvq hf)
  clear h hb hf
  go_enter Tryz.func90,Tryz.ntmps90
  go_upto_region 1 with fail
  generalize w.alloc _=W at *
  go_wp2
  refine bodyPost_ret (zgv rfl _ _ w.heap.size #[.int .i64 1,.int .i64 0,.map none] _ _ rfl (show Blk _ _ _ _ from ((HZ.out.set_ 0 _).set_ 1 _).set_ 2 _) Tryz.underlying240 rfl zxc) rfl ⟨by rw[HF.out],?_⟩
  exact ((HB.out.setCell (p:=⟨w.heap.size,0,none⟩) (kJ _) _).setCell (p:=⟨w.heap.size,1,none⟩) (kJ _) _).setCell (p:=⟨w.heap.size,2,none⟩) (kJ _) _
 ·rw[hf] at hrun
  have HF:=kA (zo4 hf)
  obtain ⟨⟨s0,s1,s2⟩,sf⟩:=zat (hb.sh l (zax hf).1).1
  have hne:l.g≠w.heap.size:=Nat.ne_of_lt (h.sh l (zax hf).1).1.lt
  clear h hb hf
  go_enter Tryz.func90,Tryz.ntmps90
  go_upto_region 1 with fail
  generalize w.alloc _=W at *
  go_wp2
  refine bodyPost_ret (zgv rfl _ _ w.heap.size (shc l) _ _ rfl (show Blk _ _ _ _ from ((HZ.out.set_ 0 _).set_ 1 _).set_ 2 _) Tryz.underlying240 rfl zxc) rfl ⟨by rw[HF.out],?_⟩
  exact ((HB.out.setCell (p:=⟨w.heap.size,0,none⟩) (kJ _) _).setCell (p:=⟨w.heap.size,1,none⟩) (kJ _) _).setCell (p:=⟨w.heap.size,2,none⟩) (kJ _) _
theorem field0:∀ (W:World) (a b:Int) (m:Option Nat),(Instr.field 240 (.agg #[.int .i64 a,.int .i64 b,.map m]) 0).run Tryz.prog W = .ok (.int .i64 a) W:=fun _ _ _ _=>by kernel_rfl
theorem field2:∀ (W:World) (a b:Int) (m:Option Nat),(Instr.field 240 (.agg #[.int .i64 a,.int .i64 b,.map m]) 2).run Tryz.prog W = .ok (.map m) W:=fun _ _ _ _=>by kernel_rfl
theorem zl5 {w:World}{g gd bm size:Nat}{D:Option Nat}{L:List Ly}(h:Bk w g gd bm D size L)(name:ByteArray) :
  Calls Tryz.prog 84 #[.pointer (some ⟨g,0,none⟩),.string name] w fun e w'=>e = .returned (.int .i64 (nextOf L name:Int))∧Below w.heap.size w w':=by
 have hc:=kA (zdk h name)
 have hfield:=field0
 clear h
 go_enter Tryz.func84,Tryz.ntmps84
 go_wp2_with (go_at_call 90;refine hc.out.mono ?_;rintro e w' ⟨rfl,hb⟩;have HB:=kA hb;clear hb;unfold shv)
 go_ret
 exact ⟨rfl,HB.out⟩
def leftN (b r:Nat)(w:World):Nat:=match w.heap[b]?,w.heap[r]? with
 |some (.map es _),some (.mapIter _ _ seen _)=>(leftOf es seen).size
 |_,_=>0
theorem RIs.leftN_eq {K:Type}{kv:KeyV K}{w:World}{b r:Nat}{m left:List (K×Value)}{last:Option (K×Value)}(h:RIs w kv b r m left last):leftN b r w=left.length:=by
 obtain ⟨es,clock,since,seen,c0,hb,he,hs,hr,_,_,_,hl,_⟩:=h
 unfold leftN
 rw[hb,hr]
 have:=congrArg List.length hl
 simpa using this
theorem ztb {L:List Ly}{l1 l2:List (ByteArray×Value)}{p:ByteArray×Value}(h:shm L=l1++p :: l2):∃ M1 l M2,L=M1++l :: M2∧l1=shm M1∧l2=shm M2∧p=(l.name,.pointer (some ⟨l.g,0,none⟩)):=by
 obtain ⟨M1,M',e0,e1,e2⟩:=List.map_eq_append_iff.1 h
 obtain ⟨l,M2,e3,e4,e5⟩:=List.map_eq_cons_iff.1 e2
 exact ⟨M1,l,M2,by rw[e0,e3],e1.symm,e5.symm,e4.symm⟩
theorem zjb (L M:List Ly):shm (L++M)=shm L++shm M:=kL
theorem zl6 {P:Program}{w:World}{b r:Nat}{m:List (ByteArray×Value)}{Lf:List Ly}{last:Option (ByteArray×Value)}(ty:TypeId)(h:RIs w KS b r m (shm Lf) last) :
  (Lf=[]∧(Instr.next (.pointer (some ⟨r,0,none⟩)) false ty).run P w = .ok (.tuple #[.bool false]) w) ∨
  ∃ M1 l M2 w',Lf=M1++l :: M2∧(Instr.next (.pointer (some ⟨r,0,none⟩)) false ty).run P w = .ok (.tuple #[.bool true,.string l.name,.pointer (some ⟨l.g,0,none⟩)]) w' ∧
   (Instr.entry (.pointer (some ⟨r,0,none⟩))).run P w' = .ok (.tuple #[.string l.name,.pointer (some ⟨l.g,0,none⟩)]) w'∧RIs w' KS b r m (shm (M1++M2)) (some (l.name,.pointer (some ⟨l.g,0,none⟩)))∧Alt w w' (fun x=>x=r)∧w'.heap.size=w.heap.size:=by
 rcases zl4 (P:=P) ty h with ⟨h0,hrun⟩|⟨l1,p,l2,w',hl,hp,hrun,hr,ha,hsz⟩
 ·exact .inl ⟨by unfold shm at h0;simpa using h0,hrun⟩
 ·obtain ⟨M1,l,M2,e0,rfl,rfl,rfl⟩:=ztb hl
  exact .inr ⟨M1,l,M2,w',e0,hrun,zja hr,by rw[zjb];exact hr,ha,hsz⟩
def oth (name:ByteArray)(l:Ly):Bool:=(!(l.name.toList == name.toList)) && decide (0<l.V.length)
def cntO (f:Ly→Bool)(L:List Ly):Nat:=(L.filter f).length
theorem zjc (f:Ly→Bool)(M1 M2:List Ly)(l:Ly):cntO f (M1++l :: M2)=cntO f (M1++M2)+(if f l=true then 1 else 0):=by
 unfold cntO
 rw[List.filter_append,List.filter_append,qL]
 split
 ·simp;omega
 ·simp
theorem zy2 (f:Ly→Bool)(L:List Ly):cntO f L≤L.length:=List.length_filter_le _ _
def fullOf (L:List Ly)(name:ByteArray):Bool:=decide (20≤cntO (oth name) L) || decide (40≤numOf L name)
theorem zkf {w:World}{g gd bm size:Nat}{D:Option Nat}{L:List Ly}(h:Bk w g gd bm D size L)(name:ByteArray):∀ ty,(Builtin.len_ #[238] ty #[.map (verOf L name)]).run Tryz.prog w = .ok (.int .i64 (numOf L name:Int)) w:=by
 intro ty
 unfold verOf numOf
 cases hf:fnd L name with
 |none=>exact zvp Tryz.underlying238
 |some l =>
  have:=zha (P:=Tryz.prog) (ty':=ty) Tryz.underlying238 (h.sh l (zax hf).1).2.1
  have e:l.vm.length=l.V.length:=kN _
  rw[e] at this
  exact this
theorem zds {w:World}{g gd bm size:Nat}{D:Option Nat}{L:List Ly}(h:Bk w g gd bm D size L){l:Ly}(hl:l∈L):∀ ty,(Builtin.len_ #[238] ty #[.map (some l.bv)]).run Tryz.prog w = .ok (.int .i64 (l.V.length:Int)) w:=by
 intro ty
 have:=zha (P:=Tryz.prog) (ty':=ty) Tryz.underlying238 (h.sh l hl).2.1
 have e:l.vm.length=l.V.length:=kN _
 rw[e] at this
 exact this
theorem zno {w:World}{g gd bm size:Nat}{D:Option Nat}{L:List Ly}(h:Bk w g gd bm D size L)(name:ByteArray):numOf L name≤1000000∧nextOf L name≤1000000∧liveOf L name≤1000000:=by
 unfold numOf nextOf liveOf
 cases hf:fnd L name with
 |none=>exact ⟨kX _,by decide,kX _⟩
 |some l =>
  obtain ⟨h1,h2,h3⟩:=h.sm.2 l (zax hf).1
  exact ⟨h3,h1,h2⟩
theorem zh4 {w wr w':World}{r:Nat}(h:Below w.heap.size w wr)(hr:w.heap.size≤r)(ha:Alt wr w' (fun x=>x=r)):Below w.heap.size w w' :=
 h.trans (ha.below (fun _ e=>by rw[e];exact hr) h.size)
theorem zo5 {w:World}{g gd bm size:Nat}{D:Option Nat}{L:List Ly}(h:Bk w g gd bm D size L)(hn:L.length≤100000)(name:ByteArray) :
  Calls Tryz.prog 83 #[.pointer (some ⟨g,0,none⟩),.string name] w fun e w'=>e = .returned (.bool (fullOf L name))∧Below w.heap.size w w':=by
 obtain ⟨wi,hrg,hri,hbi,hsi⟩:=zgc (P:=Tryz.prog) Tryz.underlying155 h.map
 obtain ⟨⟨c0,c1,c2⟩,fz⟩:=zat h.blk
 have HBK:=kA h
 have HRI:=kA hri
 have HBI:=kA hbi
 have hfield:=field2
 obtain ⟨n40,hn40⟩:∃ n,n=numOf L name:=⟨_,rfl⟩
 have hlen:∀ w':World,Bk w' g gd bm D size L→∀ ty,(Builtin.len_ #[238] ty #[.map (verOf L name)]).run Tryz.prog w' = .ok (.int .i64 (n40:Int)) w':=fun w' hw ty=>by rw[hn40];exact zkf hw name ty
 have HL:=kA hlen
 have H40:=kA hn40
 have hb40:n40≤1000000:=by rw[hn40];exact (zno h name).1
 have HB40:=kA hb40
 clear h hri hbi hlen hn40 hsi hb40
 go_enter Tryz.func83,Tryz.ntmps83
 go_wp2
 go_loopw [5] (fun v wr=>∃ (q:Nat) (Lf:List Ly) (last:Option (ByteArray×Value)),v = .int .i64 (q:Int)∧RIs wr KS bm w.heap.size (shm L) (shm Lf) last∧Below w.heap.size w wr∧Hid (q+cntO (oth name) Lf=cntO (oth name) L)∧Hid (∀ l∈Lf,l∈L)) (fun _ wr=>leftN bm w.heap.size wr)
 case atStart=>exact ⟨0,L,none,rfl,HRI.out,HBI.out,kA (Nat.zero_add _),kA fun _ h=>h⟩
 case round =>
  obtain ⟨q,Lf,last,rfl,hri,hbel,hq,hsub⟩:=hrel
  have hle:=zy2 (oth name) L
  rcases zl6 (P:=Tryz.prog) 0 hri with ⟨rfl,hx⟩|⟨M1,l,M2,w3,rfl,hx,hent,hr3,ha3,hs3⟩
  ·have hq':q=cntO (oth name) L:=by have:=hq.out;simpa [cntO] using this
   have HB:=kA hbel
   have HBW:=kA (zal HBK.out hbel)
   have HQ:=kA hq'
   clear hri hbel hq hsub hq' hle
   by_cases h20:20≤q
   ·have H20:=kA h20
    have d20:decide ((20:Int)≤(q:Int))=true:=kW (by omega)
    go_wp2
    go_ret
    refine ⟨?_,HB.out⟩
    unfold fullOf
    rw[← HQ.out,kW H20.out];rfl
   ·have H20:=kA h20
    have d20:decide ((20:Int)≤(q:Int))=false:=kQ (by omega)
    go_wp2_with (go_at_call 90;refine (zdk HBW.out name).mono ?_;rintro e w2 ⟨rfl,hb3⟩;have hlen:=HL.out _ (zal HBW.out hb3);have HB3:=kA (HB.out.trans (hb3.mono HB.out.size));clear hb3;unfold shv)
    go_ret
    refine ⟨?_,HB3.out⟩
    have e40:decide ((40:Int)≤(n40:Int))=decide (40≤n40):=by
     by_cases h:40≤n40
     ·rw[kW h,kW (by omega)]
     ·rw[kQ h,kQ (by omega)]
    unfold fullOf
    rw[← HQ.out,kQ H20.out, ← H40.out]
    show Ending.returned (.bool (decide ((40:Int)≤(n40:Int))))=_
    rw[e40];rfl
  ·have hl:l∈L:=hsub.out l (by simp)
   have hb3:Below w.heap.size w w3:=zh4 hbel (kJ _) ha3
   have HBW:=kA (zal HBK.out hb3)
   obtain ⟨⟨s0,s1,s2⟩,sf⟩:=zat (HBW.out.sh l hl).1
   have hlen3:=zds HBW.out hl
   have HB3:=kA hb3
   have HR3:=kA hr3
   have hq':=hq.out
   rw[zjc] at hq'
   have hoth:oth name l=((!(l.name.toList == name.toList)) && decide (0<l.V.length)):=rfl
   rw[hoth] at hq'
   have HQ:=kA hq'
   have HSUB:Hid (∀ l∈M1++M2,l∈L):=kA fun x hx=>hsub.out x (by
    rcases kU.1 hx with h|h
    ·exact List.mem_append_left _ h
    ·exact List.mem_append_right _ (qP _ h))
   have hqb:q≤100000:=by omega
   have HV:=kA (HBW.out.sm.2 l hl).2.2
   have HM:Hid (leftN bm w.heap.size w3<leftN bm w.heap.size wr):=kA (by rw[hr3.leftN_eq,hri.leftN_eq];simp[shm])
   clear hri hbel hq hsub hb3 hr3 ha3 hs3 hq' hoth hle
   obtain ⟨nv,hnv⟩:∃ n,n=l.V.length:=⟨_,rfl⟩
   rw[← hnv] at hlen3 HQ HV
   by_cases hs:l.name.toList=name.toList
   ·have HS:=kA (show (!(l.name.toList == name.toList))=false by simp[hs])
    have hs3:(!(l.name.toList == name.toList))=false:=HS.out
    clear hnv hs
    go_wp2
    go_roundw
    case rel=>exact ⟨q,M1++M2,_,rfl,HR3.out,HB3.out,kA (by have:=HQ.out;rw[HS.out] at this;simpa using this),HSUB⟩
    case measure=>exact HM.out
   ·have HS:=kA (show (!(l.name.toList == name.toList))=true by simp[hs])
    have hs3:(!(l.name.toList == name.toList))=true:=HS.out
    clear hnv hs
    by_cases hl:0<nv
    ·have HLL:=kA hl
     have hl':(0:Int)<(nv:Int):=by omega
     go_wp2
     go_roundw
     case rel=>exact ⟨q+1,M1++M2,_,rfl,HR3.out,HB3.out,kA (by have:=HQ.out;rw[HS.out,kW HLL.out] at this;simp at this;omega),HSUB⟩
     case measure=>exact HM.out
    ·have HLL:=kA hl
     have hl2:decide (0<nv)=false:=kQ hl
     have hl3:nv=0:=by omega
     go_wp2
     go_roundw
     case rel=>exact ⟨q,M1++M2,_,rfl,HR3.out,HB3.out,kA (by have:=HQ.out;rw[HS.out,kQ HLL.out] at this;simpa using this),HSUB⟩
     case measure=>exact HM.out
def fndV (l:Ly)(v:Nat):Option Vr:=l.V.find? (fun r=>decide (r.v=v))
theorem zhb {l:Ly}{v:Nat}{r:Vr}(h:fndV l v=some r):r∈l.V∧r.v=v:=⟨List.mem_of_find?_eq_some h,by simpa using List.find?_some h⟩
theorem ztc (l:Ly)(v:Nat):lkv l.vm v=(fndV l v).map (·.x):=by
 unfold Ly.vm fndV
 generalize l.V=V
 induction V with
 |nil=>rfl
 |cons r V ih =>
  show (if r.v=v then some r.x else lkv (V.map fun r=>(r.v,r.x)) v)=_
  rw[List.find?_cons]
  by_cases h:r.v=v
  ·rw[kZ h,kW h];rfl
  ·rw[kT h,kQ h,ih]
theorem infoSl:(Tryz.prog.info? 31).map (fun i=>(i.zero,i.size,i.bytes))=some (some (.slice none 0 0),1,24):=by kernel_rfl
theorem zeroS (w:World):(zeroValue 31).run Tryz.prog w = .ok (.slice none 0 0) w:=by
 obtain ⟨i,hi,hz,_⟩:=info_parts infoSl
 simp[zeroValue,typeInfo,hi,hz]
theorem znp {w:World}{g gd bm size:Nat}{D:Option Nat}{L:List Ly}(h:Bk w g gd bm D size L){l:Ly}(hl:l∈L)(v:Nat) :
  (Instr.lookup 238 (.map (some l.bv)) (.int .i64 (v:Int)) true).run Tryz.prog w = .ok (.tuple #[((fndV l v).map (·.x)).getD (.slice none 0 0),.bool (fndV l v).isSome]) w:=by
 have:=ze4 (P:=Tryz.prog) Tryz.underlying238 Tryz.underlying3 (zeroS w) (h.sh l hl).2.1 v true
 rw[ztc,kZ rfl,Option.isSome_map] at this
 exact this
theorem zca {w:World}{g gd bm size:Nat}{D:Option Nat}{L:List Ly}(h:Bk w g gd bm D size L):Bk w.drew g gd bm D size L:=zal h (Below.refl _ _).drew
def stl (l:Ly):Prop:=(l.V.length=0→l.live=0)∧(0<l.V.length→(fndV l l.live).isSome=true∧l.V.length≤40)
def full1 (l:Ly):Bool:=decide (0<l.V.length)
theorem zh5 {w:World}{g gd bm size:Nat}{D:Option Nat}{L:List Ly}(h:Bk w g gd bm D size L)(_hn:L.length≤100000)(hs:∀ l∈L,stl l)(hc:cntO full1 L≤20) :
  Calls Tryz.prog 74 #[.pointer (some ⟨g,0,none⟩)] w fun e w'=>e = .returned (.bool true)∧Below w.heap.size w w':=by
 obtain ⟨wi,hrg,hri,hbi,hsi⟩:=zgc (P:=Tryz.prog) Tryz.underlying155 h.map
 obtain ⟨⟨c0,c1,c2⟩,fz⟩:=zat h.blk
 have HBK:=kA h
 have HRI:=kA hri
 have HBI:=kA hbi
 have HST:=kA hs
 clear h hri hbi hsi hs
 go_enter Tryz.func74,Tryz.ntmps74
 go_wp2
 go_loopw [3] (fun v wr=>∃ (q:Nat) (Lf:List Ly) (last:Option (ByteArray×Value)),v = .int .i64 (q:Int)∧RIs wr KS bm w.heap.size (shm L) (shm Lf) last∧Below w.heap.size w wr∧Hid (q+cntO full1 Lf=cntO full1 L)∧Hid (∀ l∈Lf,l∈L)) (fun _ wr=>leftN bm w.heap.size wr)
 case atStart=>exact ⟨0,L,none,rfl,HRI.out,HBI.out,kA (Nat.zero_add _),kA fun _ h=>h⟩
 case round =>
  obtain ⟨q,Lf,last,rfl,hri,hbel,hq,hsub⟩:=hrel
  rcases zl6 (P:=Tryz.prog) 0 hri with ⟨rfl,hx⟩|⟨M1,l,M2,w3,rfl,hx,hent,hr3,ha3,hs3⟩
  ·have hq':q=cntO full1 L:=by have:=hq.out;simpa [cntO] using this
   have HB:=kA hbel
   have hq20:q≤20:=by omega
   have d20:decide ((q:Int)≤(20:Int))=true:=kW (by omega)
   clear hri hbel hq hsub hq' hc
   go_wp2
   go_ret
   exact ⟨rfl,HB.out⟩
  ·have hl:l∈L:=hsub.out l (by simp)
   have hb3:Below w.heap.size w w3:=zh4 hbel (kJ _) ha3
   have HBW:=kA (zal HBK.out hb3)
   obtain ⟨⟨s0,s1,s2⟩,sf⟩:=zat (HBW.out.sh l hl).1
   have hlen3:=zds HBW.out hl
   have hver:=znp (zca HBW.out) hl l.live
   have HB3:=kA hb3
   have HR3:=kA hr3
   have hq':=hq.out
   rw[zjc] at hq'
   have HQ:=kA hq'
   have HSUB:Hid (∀ l∈M1++M2,l∈L):=kA fun x hx=>hsub.out x (by
    rcases kU.1 hx with h|h
    ·exact List.mem_append_left _ h
    ·exact List.mem_append_right _ (qP _ h))
   have hqb:q≤20:=by omega
   have HM:Hid (leftN bm w.heap.size w3<leftN bm w.heap.size wr):=kA (by rw[hr3.leftN_eq,hri.leftN_eq];simp[shm])
   obtain ⟨t1,t2⟩:=HST.out l hl
   clear hri hbel hq hsub hb3 hr3 ha3 hs3 hq' hc
   by_cases hv:l.V.length=0
   ·have h0:=t1 hv
    have HV:=kA hv
    have hf1:full1 l=false:=by unfold full1;rw[hv];rfl
    have HF1:=kA hf1
    rw[hv] at hlen3
    rw[h0] at s1 hver
    clear t1 t2 hv hf1
    go_wp2
    go_roundw
    case rel=>exact ⟨q,M1++M2,_,rfl,HR3.out,HB3.out,kA (by have:=HQ.out;rw[HF1.out] at this;simpa using this),HSUB⟩
    case measure=>exact HM.out
   ·obtain ⟨t3,t4⟩:=t2 (by omega)
    rw[t3] at hver
    have hf1:full1 l=true:=by unfold full1;exact kW (by omega)
    have HF1:=kA hf1
    obtain ⟨nv,hnv⟩:∃ n,n=l.V.length:=⟨_,rfl⟩
    have hlen4:=zds (zca HBW.out) hl
    rw[← hnv] at hlen3 hlen4 hv t4
    have hv0:((nv:Int) == 0)=false:=by simp;omega
    have hv1:decide ((40:Int)<(nv:Int))=false:=kQ (by omega)
    generalize ((fndV l l.live).map (·.x)).getD (.slice none 0 0)=X at hver
    clear t1 t2 t3 hnv hf1
    go_wp2
    go_region
    go_wp2
    go_roundw
    case rel=>exact ⟨q+1,M1++M2,_,rfl,HR3.out.keep rfl rfl,HB3.out.drew,kA (by have:=HQ.out;rw[HF1.out] at this;simp at this;omega),HSUB⟩
    case measure=>exact HM.out
def noteV (kind:Int)(name:ByteArray)(vy:Nat)(lv:Int)(v:Value):Array Value:=#[.int .i64 kind,.string name,.int .i64 (vy:Int),.int .i64 lv,v]
def refOf (L:List Ly)(kind:Int)(name:ByteArray)(vy:Nat):Int:=match fnd L name with
 |none=>11
 |some l=>if l.V.length=0 then 11 else if (fndV l vy).isSome=false then 16 else if kind=3∧vy=l.live∧1<l.V.length then 17 else 0
theorem zan {w:World}{g:Nat}{t:TypeId}{kind:Int}{name:ByteArray}{vy:Nat}{lv:Int}{v:Value}(h:Blk w g t (noteV kind name vy lv v)) :
  (w.cell? ⟨g,0,none⟩=some (.int .i64 kind)∧w.cell? ⟨g,1,none⟩=some (.string name)∧w.cell? ⟨g,2,none⟩=some (.int .i64 (vy:Int))∧w.cell? ⟨g,3,none⟩=some (.int .i64 lv)∧w.cell? ⟨g,4,none⟩=some v)∧∀ i,w.frozen? ⟨g,i,none⟩=false :=
 ⟨⟨h.cell 0,h.cell 1,h.cell 2,h.cell 3,h.cell 4⟩,fun i=>h.frozen i⟩
theorem ze5 {w:World}{g gd bm size:Nat}{D:Option Nat}{L:List Ly}(h:Bk w g gd bm D size L)(kind:Int)(name:ByteArray)(vy:Nat)(lv:Int)(v:Value)(hk:kind=2∨kind=3)(_hv:vy≤1000000)(_h1:v.oneCell'=true) :
  Calls Tryz.prog 179 #[.pointer (some ⟨g,0,none⟩),.agg (noteV kind name vy lv v)] w fun e w'=>e = .returned (.int .i64 (refOf L kind name vy))∧Below w.heap.size w w':=by
 have HBK:=kA h
 clear h
 go_enter Tryz.func179,Tryz.ntmps179
 unfold noteV
 go_upto_region 1 with fail
 have HN:Hid (Blk (w.alloc (.cells #[.int .i64 kind,.string name,.int .i64 (vy:Int),.int .i64 lv,v] 222)) w.heap.size 222 (noteV kind name vy lv v)):=kA (Blk.new w 222 (noteV kind name vy lv v))
 have HB:Hid (Below w.heap.size w (w.alloc (.cells #[.int .i64 kind,.string name,.int .i64 (vy:Int),.int .i64 lv,v] 222))):=kA (Below.new1 w _)
 have HBK1:Hid (Bk (w.alloc (.cells #[.int .i64 kind,.string name,.int .i64 (vy:Int),.int .i64 lv,v] 222)) g gd bm D size L):=kA (zal HBK.out HB.out)
 clear HBK
 generalize w.alloc (.cells #[.int .i64 kind,.string name,.int .i64 (vy:Int),.int .i64 lv,v] 222)=W1 at HN HB HBK1 ⊢
 obtain ⟨⟨n0,n1,n2,n3,n4⟩,nz⟩:=zan HN.out
 go_upto_region 2 with (go_at_call 90;refine (zdk HBK1.out name).mono ?_;rintro e w2 ⟨rfl,hb⟩;have HN2:=kA (zab HN.out hb);have HBK2:=kA (zal HBK1.out hb);have HB:=kA (HB.out.trans (hb.mono HB.out.size));clear hb;unfold shv)
 have HS:Hid (Blk (w2.alloc (.cells #[.int .i64 (nextOf L name:Int),.int .i64 (liveOf L name:Int),.map (verOf L name)] 240)) w2.heap.size 240 #[.int .i64 (nextOf L name:Int),.int .i64 (liveOf L name:Int),.map (verOf L name)]):=kA (Blk.new w2 _ _)
 have HN3:Hid (Blk (w2.alloc (.cells #[.int .i64 (nextOf L name:Int),.int .i64 (liveOf L name:Int),.map (verOf L name)] 240)) w.heap.size 222 (noteV kind name vy lv v)):=kA (HN2.out.alloc _)
 have HB3:Hid (Below w.heap.size w (w2.alloc (.cells #[.int .i64 (nextOf L name:Int),.int .i64 (liveOf L name:Int),.map (verOf L name)] 240))):=kA (HB.out.alloc HB.out.size _)
 have HBK3:Hid (Bk (w2.alloc (.cells #[.int .i64 (nextOf L name:Int),.int .i64 (liveOf L name:Int),.map (verOf L name)] 240)) g gd bm D size L):=kA (zal HBK2.out (Below.new1 w2 _))
 clear HN HN2 HB HBK1 HBK2 n0 n1 n2 n3 n4 nz
 generalize w2.alloc (.cells #[.int .i64 (nextOf L name:Int),.int .i64 (liveOf L name:Int),.map (verOf L name)] 240)=W3 at HS HN3 HB3 HBK3 ⊢
 generalize w2.heap.size=gs at HS ⊢
 generalize w.heap.size=gn at HN3 ⊢
 obtain ⟨⟨n0,n1,n2,n3,n4⟩,nz⟩:=zan HN3.out
 obtain ⟨⟨s0,s1,s2⟩,sz⟩:=zat HS.out
 have hlen:=zkf HBK3.out name
 have hnum:=zno HBK3.out name
 obtain ⟨b1,b2,b3⟩:=hnum
 by_cases h0:numOf L name=0
 ·have HR:Hid (refOf L kind name vy=11):=kA (by
   unfold refOf
   unfold numOf at h0
   cases hf:fnd L name with
   |none=>rfl
   |some l =>
    rw[hf] at h0
    exact kZ h0)
  rw[h0] at hlen
  go_wp2
  go_ret
  exact ⟨by rw[HR.out];rfl,HB3.out⟩
 ·have hne:((numOf L name:Int) == 0)=false:=by simp;omega
  have HH:Hid (∃ l,fnd L name=some l):=kA (by
   unfold numOf at h0
   cases hf:fnd L name with
   |none=>rw[hf] at h0;exact absurd rfl h0
   |some l=>exact ⟨l,rfl⟩)
  obtain ⟨l,hf⟩:=HH.out
  have hver:=znp HBK3.out (zax hf).1 vy
  have HNU:Hid (numOf L name=l.V.length):=kA (by unfold numOf;rw[hf])
  have HLI:Hid (liveOf L name=l.live):=kA (by unfold liveOf;rw[hf])
  have HVE:verOf L name=some l.bv:=by unfold verOf;rw[hf]
  have HRF:Hid (refOf L kind name vy=if l.V.length=0 then 11 else if (fndV l vy).isSome=false then 16 else if kind=3∧vy=l.live∧1<l.V.length then 17 else 0):=kA (by unfold refOf;rw[hf])
  rw[HVE] at s2 hlen
  have hnv:¬ l.V.length=0:=by rw[← HNU.out];exact h0
  have HNV:=kA hnv
  clear hnv h0 hf HVE HH
  generalize ((fndV l vy).map (·.x)).getD (.slice none 0 0)=X at hver
  cases hsome:(fndV l vy).isSome with
  |false =>
   rw[hsome] at hver
   have HR:Hid (refOf L kind name vy=16):=kA (by rw[HRF.out,kT HNV.out,kZ hsome])
   clear hsome
   go_wp2
   go_ret
   exact ⟨by rw[HR.out];rfl,HB3.out⟩
  |true =>
   rw[hsome] at hver
   have HR:Hid (refOf L kind name vy=if kind=3∧vy=l.live∧1<l.V.length then 17 else 0):=kA (by rw[HRF.out,kT HNV.out,kT (by rw[hsome];decide)])
   clear hsome
   rcases hk with rfl|rfl
   ·have HR2:Hid (refOf L 2 name vy=0):=kA (by rw[HR.out,kT (fun h=>absurd h.1 (by decide))])
    go_wp2
    go_ret
    exact ⟨by rw[HR2.out];rfl,HB3.out⟩
   ·by_cases hl:vy=liveOf L name
    ·have d1:((vy:Int) == (liveOf L name:Int))=true:=by simp;omega
     by_cases hg:1<numOf L name
     ·have d2:decide ((1:Int)<(numOf L name:Int))=true:=kW (by omega)
      have HR2:Hid (refOf L 3 name vy=17):=kA (by rw[HR.out,kZ ⟨rfl,by rw[← HLI.out];exact hl,by rw[← HNU.out];exact hg⟩])
      clear hl hg
      go_wp2
      go_ret
      exact ⟨by rw[HR2.out];rfl,HB3.out⟩
     ·have d2:decide ((1:Int)<(numOf L name:Int))=false:=kQ (by omega)
      have HR2:Hid (refOf L 3 name vy=0):=kA (by rw[HR.out,kT (fun h=>hg (by rw[HNU.out];exact h.2.2))])
      clear hl hg
      go_wp2
      go_ret
      exact ⟨by rw[HR2.out];rfl,HB3.out⟩
    ·have d1:((vy:Int) == (liveOf L name:Int))=false:=by simp;omega
     have HR2:Hid (refOf L 3 name vy=0):=kA (by rw[HR.out,kT (fun h=>hl (by rw[HLI.out];exact h.2.1))])
     clear hl
     go_wp2
     go_ret
     exact ⟨by rw[HR2.out];rfl,HB3.out⟩
def updL (L:List Ly)(name:ByteArray)(l':Ly):List Ly:=L.map fun x=>if x.name=name then l' else x
theorem zh6 {w:World}{g gd bm size:Nat}{D:Option Nat}{L:List Ly}(h:Bk w g gd bm D size L):(L.map (·.name)).Nodup:=by
 have:=h.map.nodup
 unfold shm at this
 rwa[qK] at this
theorem zo6 {L:List Ly}{name:ByteArray}{l x:Ly}(hn:(L.map (·.name)).Nodup)(hf:fnd L name=some l)(hx:x∈L)(he:x.name=name):x=l:=by
 obtain ⟨hl,hln⟩:=zax hf
 induction L with
 |nil=>cases hx
 |cons y L ih =>
  rw[kM,List.nodup_cons] at hn
  unfold fnd at hf
  rw[List.find?_cons] at hf
  by_cases hy:y.name=name
  ·rw[kW hy] at hf
   injection hf with hf
   subst hf
   rcases List.mem_cons.1 hx with e|e
   ·exact e
   ·exact absurd (kO.2 ⟨x,e,by rw[he,hy]⟩) hn.1
  ·rw[kQ hy] at hf
   have hx':x∈L:=by
    rcases List.mem_cons.1 hx with e|e
    ·subst e;exact absurd he hy
    ·exact e
   exact ih hn.2 hf hx' (List.mem_of_find?_eq_some hf)
theorem zc6 {α β:Type}{f:α→β}:∀ {L:List α},(L.map f).Nodup→∀ {x y:α},x∈L→y∈L→f x=f y→x=y
 | [],_,_,_,h,_,_=>by cases h
 |a :: L,hn,x,y,hx,hy,he=>by
  rw[kM,List.nodup_cons] at hn
  rcases List.mem_cons.1 hx with e1|e1
  ·rcases List.mem_cons.1 hy with e2|e2
   ·rw[e1,e2]
   ·exact absurd (kO.2 ⟨y,e2,by rw[← he,e1]⟩) hn.1
  ·rcases List.mem_cons.1 hy with e2|e2
   ·exact absurd (kO.2 ⟨x,e1,by rw[he,e2]⟩) hn.1
   ·exact zc6 hn.2 e1 e2 he
theorem znq {β:Type}(f:Ly→β){L:List Ly}{name:ByteArray}{l l':Ly}(hn:(L.map (·.name)).Nodup)(hf:fnd L name=some l)(he:f l'=f l):(updL L name l').map f=L.map f:=by
 unfold updL
 rw[qK]
 refine List.map_congr_left fun x hx=>?_
 show f (if x.name=name then l' else x)=f x
 split
 ·next h=>rw[he,zo6 hn hf hx h]
 ·rfl
theorem zkg {L:List Ly}{name:ByteArray}{l' x:Ly}(h:x∈updL L name l'):x=l'∨(x∈L∧x.name≠name):=by
 obtain ⟨y,hy,e⟩:=kO.1 h
 by_cases hyn:y.name=name
 ·rw[kZ hyn] at e
  exact .inl e.symm
 ·rw[kT hyn] at e
  subst e
  exact .inr ⟨hy,hyn⟩
theorem zo7 {w w':World}{g gd bm size:Nat}{D:Option Nat}{L:List Ly}(h:Bk w g gd bm D size L){name:ByteArray}{l:Ly}(hf:fnd L name=some l)(l':Ly)(e1:l'.name=l.name)(e2:l'.g=l.g)(e3:l'.bv=l.bv)
  (hblk:Blk w' l.g 240 (shc l')) (hmap:MapIs w' KI l.bv l'.vm) (hrows:∀ r∈l'.V,RowIs w' (Mt g gd bm D L) r.x r.ms) (hs:l'.next≤1000000∧l'.live≤1000000∧l'.V.length≤1000000) (ha:Alt w w' (fun k=>k=l.g∨k=l.bv)) :
  Bk w' g gd bm D size (updL L name l'):=by
 have hn:=zh6 h
 obtain ⟨hl,hln⟩:=zax hf
 obtain ⟨hb1,hb2,hb3⟩:=h.sh l hl
 have gs:=znq (·.g) hn hf e2
 have bs:=znq (·.bv) hn hf e3
 have hsm:shm (updL L name l')=shm L:=znq (fun x=>(x.name,Value.pointer (some ⟨x.g,0,none⟩))) hn hf (by simp only[e1,e2])
 have hmt:∀ k,Mt g gd bm D (updL L name l') k↔Mt g gd bm D L k:=fun k=>by unfold Mt;rw[gs,bs]
 have hbsn:=h.bs
 rw[List.nodup_cons] at hbsn
 have hm':MapIs w' KS bm (shm L):=h.map.alt ha (by
  rintro (e|e)
  ·exact h.map.ne_blk hb1 e
  ·exact hbsn.1 (kO.2 ⟨l,hl,e.symm⟩))
 refine ⟨h.blk.kept ha ?_,by rw[hsm];exact hm',fun x hx=>?_,by rw[gs];exact h.gs,by rw[bs];exact h.bs,h.sm.1,fun x hx=>?_⟩
 ·rintro (e|e)
  ·exact h.blk.ne_ hb1 (by decide) e
  ·exact (hb2.ne_blk h.blk) e.symm
 ·rcases zkg hx with e|⟨hx1,hx2⟩
  ·subst e
   refine ⟨by rw[e2];exact hblk,by rw[e3];exact hmap,fun r hr=>?_⟩
   obtain ⟨ad,c,q1,q2,q3,q4,q5⟩:=hrows r hr
   exact ⟨ad,c,q1,q2,q3,fun hm=>q4 ((hmt _).1 hm),q5⟩
  ·obtain ⟨k1,k2,k3⟩:=h.sh x hx1
   have hxl:x≠l:=fun e=>hx2 (by rw[e,hln])
   refine ⟨k1.kept ha ?_,k2.alt ha ?_,fun r hr=>(k3 r hr).alt ha ?_ (fun k _ hm=>(hmt k).1 hm)⟩
   ·rintro (e|e)
    ·exact hxl (zc6 h.gs hx1 hl e)
    ·exact (hb2.ne_blk k1) e.symm
   ·rintro (e|e)
    ·exact k2.ne_blk hb1 e
    ·exact hxl (zc6 hbsn.2 hx1 hl e)
   ·rintro k _ (e|e)
    ·exact .inr (.inr (.inr (.inr (.inl (by rw[e];exact kO.2 ⟨l,hl,rfl⟩)))))
    ·exact .inr (.inr (.inr (.inr (.inr (by rw[e];exact kO.2 ⟨l,hl,rfl⟩)))))
 ·rcases zkg hx with e|⟨hx1,_⟩
  ·subst e;exact hs
  ·exact h.sm.2 x hx1
theorem zxd {w w':World}{g gd bm size:Nat}{D:Option Nat}{L:List Ly}(h:Bk w g gd bm D size L){name:ByteArray}(_hf:fnd L name=none)(l:Ly)(e1:l.name=name)(hg:w.heap.size≤l.g)(hbv:w.heap.size≤l.bv)(_hD:∀ k,D=some k→k<w.heap.size)(_hgd:gd<w.heap.size)
  (hblk:Blk w' l.g 240 (shc l)) (hmap:MapIs w' KI l.bv l.vm) (hmap2:MapIs w' KS bm (shm L++[(name,.pointer (some ⟨l.g,0,none⟩))])) (hrows:∀ r∈l.V,RowIs w' (Mt g gd bm D (L++[l])) r.x r.ms) (hs:l.next≤1000000∧l.live≤1000000∧l.V.length≤1000000) (ha:Alt w w' (fun k=>k=bm)) :
  Bk w' g gd bm D size (L++[l]):=by
 have hbsn:=h.bs
 rw[List.nodup_cons] at hbsn
 have hgl:=h.blk.lt
 have hbm:=h.map.lt
 have hmt:∀ k,k<w.heap.size→Mt g gd bm D (L++[l]) k→Mt g gd bm D L k:=by
  rintro k hk (e|e|e|e|e|e)
  ·exact .inl e
  ·exact .inr (.inl e)
  ·exact .inr (.inr (.inl e))
  ·exact .inr (.inr (.inr (.inl e)))
  ·rw[kL,kU] at e
   rcases e with e|e
   ·exact .inr (.inr (.inr (.inr (.inl e))))
   ·simp at e;omega
  ·rw[kL,kU] at e
   rcases e with e|e
   ·exact .inr (.inr (.inr (.inr (.inr e))))
   ·simp at e;omega
 refine ⟨h.blk.kept ha (fun e=>h.map.ne_blk h.blk e.symm),by rw[zjb];show MapIs w' KS bm (shm L++[(l.name,_)]);rw[e1];exact hmap2,fun x hx=>?_,?_,?_,h.sm.1,fun x hx=>?_⟩
 ·rcases kU.1 hx with hx1|hx1
  ·obtain ⟨k1,k2,k3⟩:=h.sh x hx1
   refine ⟨k1.kept ha (fun e=>h.map.ne_blk k1 e.symm),k2.alt ha (fun e=>hbsn.1 (kO.2 ⟨x,hx1,e⟩)),fun r hr=>(k3 r hr).alt ha (fun k _ e => .inr (.inr (.inr (.inl e)))) hmt⟩
  ·rw[kP] at hx1
   subst hx1
   exact ⟨hblk,hmap,hrows⟩
 ·rw[kL,List.nodup_append]
  refine ⟨h.gs,by simp,fun a ha' b hb=>?_⟩
  obtain ⟨x,hx,rfl⟩:=kO.1 ha'
  have:=(h.sh x hx).1.lt
  simp at hb
  omega
 ·rw[kL, ← List.cons_append,List.nodup_append]
  refine ⟨h.bs,by simp,fun a ha' b hb=>?_⟩
  simp at hb
  rcases List.mem_cons.1 ha' with e|e
  ·omega
  ·obtain ⟨x,hx,rfl⟩:=kO.1 e
   have:=(h.sh x hx).2.1.lt
   omega
 ·rcases kU.1 hx with hx1|hx1
  ·exact h.sm.2 x hx1
  ·rw[kP] at hx1
   subst hx1
   exact hs
theorem zhc {w:World}{g gd bm size:Nat}{D:Option Nat}{L:List Ly}(h:Bk w g gd bm D size L){name:ByteArray}{l:Ly}(hf:fnd L name=some l) :
  (Instr.lookup 155 (.map (some bm)) (.string name) true).run Tryz.prog w = .ok (.tuple #[.pointer (some ⟨l.g,0,none⟩),.bool true]) w:=by
 have:=ze4 (P:=Tryz.prog) Tryz.underlying155 Tryz.underlying9 (zvr w) h.map name true
 rw[zh3,hf,kZ rfl] at this
 exact this
theorem alt_of_below {w w':World}{p:Nat→Prop}(h:Below w.heap.size w w'):Alt w w' p:=⟨h.os,h.tape,h.output,h.size,fun k hk _=>h.block k hk⟩
def putLy (l:Ly)(vy:Nat)(ms:List Int)(x:Value):Ly:={ l with next:=vy+1,live:=if l.V.length=0 then vy else l.live,V:=l.V++[⟨vy,ms,x⟩] }
theorem zkh (l:Ly)(vy:Nat)(ms:List Int)(x:Value)(hn:fndV l vy=none):putv l.vm vy x=(putLy l vy ms x).vm:=by
 unfold putv
 rw[ztc,hn,kT (by simp)]
 unfold Ly.vm putLy
 simp
theorem zh7 {w:World}{g gd bm size:Nat}{D:Option Nat}{L:List Ly}(h:Bk w g gd bm D size L){name:ByteArray}{l:Ly}(hf:fnd L name=some l)(vy:Nat)(lv:Int)(x:Value){ms:List Int}(hv:vy≤100000)(hn:fndV l vy=none)(hx:RowIs w (Mt g gd bm D L) x ms)(hlen:l.V.length≤100000) :
  Calls Tryz.prog 87 #[.pointer (some ⟨g,0,none⟩),.agg (noteV 1 name vy lv x)] w fun e w'=>e = .returned (.tuple #[])∧Bk w' g gd bm D size (updL L name (putLy l vy ms x))∧Alt w w' (fun k=>k=l.g∨k=l.bv):=by
 have HBK:=kA h
 have HF:=kA hf
 have HX:=kA hx
 have HNV:=kA hn
 clear h hf hx hn
 go_enter Tryz.func87,Tryz.ntmps87
 unfold noteV
 go_upto_region 1 with fail
 have HN:Hid (Blk (w.alloc (.cells #[.int .i64 1,.string name,.int .i64 (vy:Int),.int .i64 lv,x] 222)) w.heap.size 222 (noteV 1 name vy lv x)):=kA (Blk.new w 222 (noteV 1 name vy lv x))
 have HB:Hid (Below w.heap.size w (w.alloc (.cells #[.int .i64 1,.string name,.int .i64 (vy:Int),.int .i64 lv,x] 222))):=kA (Below.new1 w _)
 have HBK1:Hid (Bk (w.alloc (.cells #[.int .i64 1,.string name,.int .i64 (vy:Int),.int .i64 lv,x] 222)) g gd bm D size L):=kA (zal HBK.out HB.out)
 generalize w.alloc (.cells #[.int .i64 1,.string name,.int .i64 (vy:Int),.int .i64 lv,x] 222)=W1 at HN HB HBK1 ⊢
 obtain ⟨⟨n0,n1,n2,n3,n4⟩,nz⟩:=zan HN.out
 obtain ⟨⟨c0,c1,c2⟩,cz⟩:=zat HBK1.out.blk
 have hlk:=zhc (zca HBK1.out) HF.out
 go_region
 have HN2:=kA (show Blk W1.drew _ _ _ from HN.out)
 have HB2:=kA (HB.out.drew)
 have HBK2:=kA (zca HBK1.out)
 clear hlk HN HB HBK1 n0 n1 n2 n3 n4 nz c0 c1 c2 cz
 generalize W1.drew=W2 at HN2 HB2 HBK2 ⊢
 obtain ⟨⟨n0,n1,n2,n3,n4⟩,nz⟩:=zan HN2.out
 have HSH:=kA (HBK2.out.sh l (zax HF.out).1)
 obtain ⟨⟨s0,s1,s2⟩,sz⟩:=zat HSH.out.1
 have hlen2:=zds HBK2.out (zax HF.out).1
 have HNE:Hid (w.heap.size≠l.g):=kA (HN2.out.ne_ HSH.out.1 (by decide))
 have HA2:Hid (Alt w W2 (fun k=>k=l.g∨k=l.bv)):=kA (alt_of_below HB2.out)
 have HNB:Hid (l.bv≠w.heap.size):=kA (HSH.out.2.1.ne_blk HN2.out)
 have HNM:Hid (l.bv≠l.g):=kA (HSH.out.2.1.ne_blk HSH.out.1)
 have HXW:Hid (RowIs W2 (Mt g gd bm D L) x ms):=kA (HX.out.alt (alt_of_below (p:=fun _=>False) HB2.out) (fun _ _ h=>h.elim) (fun _ _ h=>h))
 obtain ⟨nv,hnv⟩:∃ n,n=l.V.length:=⟨_,rfl⟩
 rw[← hnv] at hlen2
 have HNVL:=kA hnv
 have fin:Hid (∀ W',Blk W' l.g 240 (shc (putLy l vy ms x))→MapIs W' KI l.bv (putLy l vy ms x).vm→Alt W2 W' (fun k=>k=l.g∨k=l.bv) →
   Bk W' g gd bm D size (updL L name (putLy l vy ms x))∧Alt w W' (fun k=>k=l.g∨k=l.bv)):=kA (fun W' hb hm ha=>by
  obtain ⟨hl,hln⟩:=zax HF.out
  refine ⟨zo7 HBK2.out HF.out _ rfl rfl rfl hb hm ?_ ?_ ha,HA2.out.trans ha (fun _ _ h=>h)⟩
  ·intro r hr
   have far:∀ k,k<W2.heap.size→(k=l.g∨k=l.bv)→Mt g gd bm D L k:=by
    rintro k _ (e|e)
    ·exact .inr (.inr (.inr (.inr (.inl (by rw[e];exact kO.2 ⟨l,hl,rfl⟩)))))
    ·exact .inr (.inr (.inr (.inr (.inr (by rw[e];exact kO.2 ⟨l,hl,rfl⟩)))))
   rcases kU.1 hr with hr|hr
   ·exact (HSH.out.2.2 r hr).alt ha far (fun _ _ h=>h)
   ·rw[kP] at hr
    subst hr
    exact HXW.out.alt ha far (fun _ _ h=>h)
  ·have:=HBK2.out.sm.2 l hl
   unfold putLy
   refine ⟨by show vy+1≤_;omega,?_,?_⟩
   ·show (if _ then _ else _)≤_
    split
    ·omega
    ·exact this.2.1
   ·show (l.V++[_]).length≤_
    rw[kI,qJ]
    omega)
 clear hnv
 rcases (show nv=0∨¬ nv=0 by omega) with h0|h0
 ·have HLV:Hid (putLy l vy ms x={ l with next:=vy+1,live:=vy,V:=l.V++[⟨vy,ms,x⟩] }):=kA (by unfold putLy;rw[kZ (by rw[← HNVL.out];exact h0)])
  rw[h0] at hlen2
  clear h0
  go_upto_region 9 with fail
  have HS3:=kA (show Blk (W2.setCell ⟨l.g,1,none⟩ (.int .i64 (vy:Int))) l.g 240 #[.int .i64 (l.next:Int),.int .i64 (vy:Int),.map (some l.bv)] from HSH.out.1.set_ 1 _)
  have HM3:=kA (HSH.out.2.1.far (a:=⟨l.g,1,none⟩) HNM.out (.int .i64 (vy:Int)))
  have HN3:=kA (HN2.out.far (p:=⟨l.g,1,none⟩) HNE.out (.int .i64 (vy:Int)))
  have HA3:=kA ((Alt.refl W2 (fun k=>k=l.g∨k=l.bv)).set_ (a:=⟨l.g,1,none⟩) (.inl rfl) (.int .i64 (vy:Int)))
  clear n0 n1 n2 n3 n4 nz s0 s1 s2 sz hlen2
  generalize W2.setCell ⟨l.g,1,none⟩ (.int .i64 (vy:Int))=W3 at HS3 HM3 HN3 HA3 ⊢
  obtain ⟨⟨n0,n1,n2,n3,n4⟩,nz⟩:=zan HN3.out
  obtain ⟨⟨s0,s1,s2⟩,sz⟩:=zat HS3.out
  have HM3':Hid (MapIs W3.drew KI l.bv l.vm):=kA (show MapIs W3.drew KI l.bv l.vm from HM3.out)
  obtain ⟨W4,hup0,hm4,ha4,hs4⟩:=zb9 (P:=Tryz.prog) Tryz.underlying238 Tryz.underlying3 HM3'.out vy x
  have hup:(Instr.mapUpdate 238 (.map (some l.bv)) (.int .i64 (vy:Int)) x).run Tryz.prog W3.drew = .ok () W4:=hup0
  rw[zkh l vy ms x HNV.out] at hm4
  have HM4:=kA hm4
  have HA4:Hid (Alt W3 W4 (fun k=>k=l.bv)):=kA (((Alt.refl W3 _).drewN 1).trans ha4 (fun _ _ h=>h))
  have HS4:=kA (HS3.out.kept HA4.out (fun e=>HNM.out e.symm))
  have HN4:=kA (HN3.out.kept HA4.out (fun e=>HNB.out e.symm))
  clear hm4 ha4 hs4 hup0
  go_region
  clear hup n0 n1 n2 n3 n4 nz s0 s1 s2 sz
  obtain ⟨⟨n0,n1,n2,n3,n4⟩,nz⟩:=zan HN4.out
  obtain ⟨⟨s0,s1,s2⟩,sz⟩:=zat HS4.out
  go_wp2
  go_end0
  refine ⟨rfl,fin.out _ ?_ ?_ ?_⟩
  ·have:=HS4.out.set_ 0 (.int .i64 (((vy+1:Nat)):Int))
   rw[HLV.out]
   exact this
  ·exact HM4.out.far (a:=⟨l.g,0,none⟩) HNM.out _
  ·exact (HA3.out.trans HA4.out (fun _ _ e => .inr e)).set_ (a:=⟨l.g,0,none⟩) (.inl rfl) _
 ·have HLV:Hid (putLy l vy ms x={ l with next:=vy+1,live:=l.live,V:=l.V++[⟨vy,ms,x⟩] }):=kA (by unfold putLy;rw[kT (by rw[← HNVL.out];exact h0)])
  have hne:((nv:Int) == 0)=false:=by simp;omega
  clear h0
  go_upto_region 9 with fail
  have HS3:=kA (show Blk W2 l.g 240 #[.int .i64 (l.next:Int),.int .i64 (l.live:Int),.map (some l.bv)] from HSH.out.1)
  have HM3:=kA HSH.out.2.1
  have HN3:=HN2
  have HA3:=kA (Alt.refl W2 (fun k=>k=l.g∨k=l.bv))
  clear n0 n1 n2 n3 n4 nz s0 s1 s2 sz hlen2 hne
  obtain ⟨W3,hW3⟩:∃ W,W=W2:=⟨_,rfl⟩
  rw[← hW3] at HS3 HM3 HN3 ⊢
  have HA3:Hid (Alt W2 W3 (fun k=>k=l.g∨k=l.bv)):=kA (by rw[hW3];exact HA3.out)
  clear hW3
  obtain ⟨⟨n0,n1,n2,n3,n4⟩,nz⟩:=zan HN3.out
  obtain ⟨⟨s0,s1,s2⟩,sz⟩:=zat HS3.out
  have HM3':Hid (MapIs W3.drew KI l.bv l.vm):=kA (show MapIs W3.drew KI l.bv l.vm from HM3.out)
  obtain ⟨W4,hup0,hm4,ha4,hs4⟩:=zb9 (P:=Tryz.prog) Tryz.underlying238 Tryz.underlying3 HM3'.out vy x
  have hup:(Instr.mapUpdate 238 (.map (some l.bv)) (.int .i64 (vy:Int)) x).run Tryz.prog W3.drew = .ok () W4:=hup0
  rw[zkh l vy ms x HNV.out] at hm4
  have HM4:=kA hm4
  have HA4:Hid (Alt W3 W4 (fun k=>k=l.bv)):=kA (((Alt.refl W3 _).drewN 1).trans ha4 (fun _ _ h=>h))
  have HS4:=kA (HS3.out.kept HA4.out (fun e=>HNM.out e.symm))
  have HN4:=kA (HN3.out.kept HA4.out (fun e=>HNB.out e.symm))
  clear hm4 ha4 hs4 hup0
  go_region
  clear hup n0 n1 n2 n3 n4 nz s0 s1 s2 sz
  obtain ⟨⟨n0,n1,n2,n3,n4⟩,nz⟩:=zan HN4.out
  obtain ⟨⟨s0,s1,s2⟩,sz⟩:=zat HS4.out
  go_wp2
  go_end0
  refine ⟨rfl,fin.out _ ?_ ?_ ?_⟩
  ·have:=HS4.out.set_ 0 (.int .i64 (((vy+1:Nat)):Int))
   rw[HLV.out]
   exact this
  ·exact HM4.out.far (a:=⟨l.g,0,none⟩) HNM.out _
  ·exact (HA3.out.trans HA4.out (fun _ _ e => .inr e)).set_ (a:=⟨l.g,0,none⟩) (.inl rfl) _
end Go.Proofs.YtemgclnkgieldaaGreatDoor.Oc
