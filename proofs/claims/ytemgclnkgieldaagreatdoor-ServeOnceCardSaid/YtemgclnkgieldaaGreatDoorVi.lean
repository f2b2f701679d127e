/- A server's groups, plainly; how they stand in memory together. -/
import Derived.Test.YtemgclnkgieldaaGreatDoorVh
set_option maxHeartbeats 4000000
set_option maxRecDepth 100000
namespace Go.Proofs.YtemgclnkgieldaaGreatDoor.Oc
open Go Go.RowKit Dk
structure Pq where
 id:Int
 xs:List Value
structure Pg where
 name:ByteArray
 ver:Nat
 ms:List Int
 time:Nat
 rs:List Pq
def Rq.p (r:Rq):Pq:=⟨r.id,r.xs⟩
def Gp.p (g:Gp):Pg:=⟨g.name,g.ver,g.ms,g.time,g.rs.map Rq.p⟩
def tdP (ans:List Int→List Value→List Value×Int)(ver time:Int)(ms:List Int)(q:Pq):Td:=⟨q.id,ver,time,(ans ms q.xs).2,(ans ms q.xs).1⟩
def keyP (nm:ByteArray)(v:Nat)(g:Pg):Bool:=(g.name.toList == nm.toList) && decide (g.ver=v)
def findP (nm:ByteArray)(v:Nat)(gs:List Pg):Nat:=(gs.takeWhile (fun g => !(keyP nm v g))).length
def askP (ans:List Int→List Value→List Value×Int)(Mo now:Nat)(nm:ByteArray)(v:Nat)(ms:List Int)(q:Pq)(gs:List Pg):List Pg×List Td :=
 match gs[findP nm v gs]? with
 |some g=>if g.rs.length+1<Mo then (gs.set (findP nm v gs) { g with rs:=g.rs++[q] },[]) else (gs.eraseIdx (findP nm v gs),(g.rs++[q]).map (tdP ans (g.ver:Int) (now:Int) g.ms))
 |none=>if 1<Mo then (gs++[⟨nm,v,ms,now,[q]⟩],[]) else (gs,[tdP ans (v:Int) (now:Int) ms q])
def expP (W:Nat)(now:Nat)(due:Bool)(g:Pg):Bool:=decide (g.time+W<now) || (due && decide (g.time+W=now))
def expTP (ans:List Int→List Value→List Value×Int)(W now:Nat)(due:Bool)(gs:List Pg):List Td:=(gs.filter (expP W now due)).flatMap fun g=>g.rs.map (tdP ans (g.ver:Int) ((g.time+W:Nat):Int) g.ms)
def expRP (W now:Nat)(due:Bool)(gs:List Pg):List Pg:=gs.filter fun g => !(expP W now due g)
theorem key_p (nm:ByteArray)(v:Nat)(g:Gp):keyP nm v g.p=keyG nm v g:=rfl
theorem exp_p (W now:Nat)(due:Bool)(g:Gp):expP W now due g.p=expG W now due g:=rfl
theorem zpj (nm:ByteArray)(v:Nat):∀ gs:List Gp,findP nm v (gs.map Gp.p)=findG nm v gs
 | []=>rfl
 |g :: gs=>by
  unfold findP findG
  rw[kM,List.takeWhile_cons,List.takeWhile_cons,key_p]
  cases keyG nm v g with
  |true=>rfl
  |false =>
   simp only[Bool.not_false,if_true,List.length_cons]
   have h:=zpj nm v gs
   unfold findP findG at h
   rw[h]
theorem zex (ans:List Int→List Value→List Value×Int)(W now:Nat)(due:Bool):∀ gs:List Gp,expTP ans W now due (gs.map Gp.p)=expT ans W now due gs
 | []=>rfl
 |g :: gs=>by
  have h:=zex ans W now due gs
  unfold expTP expT at h ⊢
  rw[kM,qL,qL,exp_p]
  cases expG W now due g with
  |true =>
   simp only[if_true,qN,h]
   congr 1
   show (g.rs.map Rq.p).map _=_
   rw[qK]
   rfl
  |false=>simpa using h
theorem zmj (W now:Nat)(due:Bool):∀ gs:List Gp,expRP W now due (gs.map Gp.p)=(expR W now due gs).map Gp.p
 | []=>rfl
 |g :: gs=>by
  have h:=zmj W now due gs
  unfold expRP expR at h ⊢
  rw[kM,qL,qL,exp_p]
  cases expG W now due g with
  |true=>simpa using h
  |false=>simpa using h
def Apart (gs:List Gp):Prop:=gs.Pairwise fun g g'=>∀ k,g.av.ownBlock=some k→¬ g'.av.ownBlock=some k
structure SG (PR:SMod)(M:List Int→Prop)(Cq:List Value→Prop)(w:World)(B:Nat)(v:Value)(gs:List Gp):Prop where
 row:GRow w B v gs
 ok:∀ g∈gs,GpOk PR M Cq w B g
 ap:Apart gs
section
variable {PR:SMod}{M:List Int→Prop}{Cq:List Value→Prop}{w:World}{B:Nat}{v:Value}{gs:List Gp}
theorem SG.nil (w:World)(B:Nat):SG PR M Cq w B (.slice none 0 0) []:=⟨World.ownsRow_nil _ _ _ _,(fun _ h=>by cases h),List.Pairwise.nil⟩
def Gb (v:Value)(gs:List Gp)(k:Nat):Prop:=v.ownBlock=some k∨∃ g∈gs,g.av.ownBlock=some k
theorem SG.alt (hst:StaysS PR){w':World}(h:SG PR M Cq w B v gs){p:Nat→Prop}(ha:Alt w w' p)(hp:∀ k,k<w.heap.size→p k→TS w k)(hno:∀ k,Gb v gs k→¬ p k):SG PR M Cq w' B v gs :=
 ⟨zas h.row ha fun k hk=>hno k (.inl hk),fun g hg=>(h.ok g hg).alt hst ha hp fun k hk=>hno k (.inr ⟨g,hg,hk⟩),h.ap⟩
theorem SG.below (hst:StaysS PR){w':World}(h:SG PR M Cq w B v gs)(hb:Below w.heap.size w w'):SG PR M Cq w' B v gs :=
 h.alt hst (alt_of_below (p:=fun _=>False) hb) (fun _ _ h=>h.elim) (fun _ _ h=>h)
theorem zq5 {g g':Gp}(hs:g.cs.size=59)(h1:g'.name=g.name)(h2:g'.ver=g.ver)(h3:g'.cs=g.cs)(h4:g'.time=g.time):cellsG g'=(cellsG g).set 62 g'.av:=by
 unfold cellsG
 rw[h1,h2,h3,h4]
 have e:∀ (L:List Value) (a b c:Value),L.length=59→(L++[a,b]).set 60 c=L++[a,c]:=fun L a b c hl=>by
  rw[List.set_append_right _ _ (by omega),hl]
  rfl
 rw[kF,kF,e _ _ _ _ (by simpa using hs)]
theorem zmk:∀ (gs:List Gp) (j t:Nat) (u:Value) (o:Gp),(hj:j<gs.length)→t<63→(∀ g∈gs,g.cs.size=59)→cellsG o=(cellsG gs[j]).set t u→((gs.set j o).map cellsG).flatten=((gs.map cellsG).flatten).set (j*63+t) u
 | [],j,_,_,_,hj,_,_,_=>by cases hj
 |x :: gs,0,t,u,o,_,ht,hz,he=>by
  have hx:=zbv (hz x (qO ..))
  simp only[kG,kM,qD,Nat.zero_mul,Nat.zero_add]
  rw[List.set_append_left _ _ (by rw[hx];exact ht),he]
  rfl
 |x :: gs,j+1,t,u,o,hj,ht,hz,he=>by
  have hx:=zbv (hz x (qO ..))
  simp only[kF,kM,qD]
  have e:(j+1)*63+t - (cellsG x).length=j*63+t:=by rw[hx];omega
  rw[List.set_append_right _ _ (by rw[hx];omega),e,zmk gs j t u o (by simpa using hj) ht (fun g hg=>hz g (qP _ hg)) he]
theorem zwf {P:TypeId}{g n c m:Nat}{xs:List Value}{size:Nat}(h:w.ownsRow B P size (.slice (some ⟨g,0,none⟩) n c) m xs)(i:Nat)(u:Value) :
  (w.setCell ⟨g,i,none⟩ u).ownsRow B P size (.slice (some ⟨g,0,none⟩) n c) m (xs.set i u):=by
 refine ⟨by rw[List.length_set];exact h.1,?_⟩
 rcases h.2 with ⟨e,_⟩|⟨g',cap,cur,e,h1,h2,h3,h4,h5,h6⟩
 ·cases e
 ·injection e with e1 e2 e3
  injection e1 with e1
  injection e1 with e1
  subst e1
  refine .inr ⟨g,cap,cur.setIfInBounds i u,by rw[e2,e3],h1,heap_setCell_same w g _ cur _ u h2,h3,h4,by simpa using h5,?_⟩
  rw[Array.toList_setIfInBounds,List.take_set,h6]
theorem SG.set (hst:StaysS PR){ga n c:Nat}(hrow:GRow w B (.slice (some ⟨ga,0,none⟩) n c) gs)(hap:Apart gs)(hz:∀ x∈gs,x.cs.size=59){j:Nat}{g g':Gp}(hj:gs[j]? = some g)(hoth:∀ i x,gs[i]? = some x→i≠j→GpOk PR M Cq w B x)(hg:GpOk PR M Cq w B g')(h1:g'.name=g.name)(h2:g'.ver=g.ver)(h3:g'.cs=g.cs)(h4:g'.time=g.time)
  (hn:∀ k,g'.av.ownBlock=some k→g.av.ownBlock=some k∨∀ x∈gs,¬ x.av.ownBlock=some k) :
  SG PR M Cq (w.setCell ⟨ga,j*63+62,none⟩ g'.av) B (.slice (some ⟨ga,0,none⟩) n c) (gs.set j g'):=by
 obtain ⟨hjl,hje⟩:=kK.1 hj
 have hlen:(gs.set j g').length=gs.length:=List.length_set
 have hgm:g∈gs:=by rw[← hje];exact List.getElem_mem hjl
 have hr:(w.setCell ⟨ga,j*63+62,none⟩ g'.av).ownsRow B 152 63 (.slice (some ⟨ga,0,none⟩) n c) gs.length (((gs.map cellsG).flatten).set (j*63+62) g'.av):=zwf hrow (j*63+62) g'.av
 have hab:Alt w (w.setCell ⟨ga,j*63+62,none⟩ g'.av) (fun k=>k=ga):=Alt.set_ (p:=fun k=>k=ga) (a:=⟨ga,j*63+62,none⟩) (Alt.refl _ _) rfl _
 obtain ⟨cur,hgk⟩:∃ cur,Blk w ga 152 cur:=by
  rcases hrow.2 with ⟨e,_⟩|⟨g'',cap,cur,e,_,hh,_⟩
  ·cases e
  ·injection e with e1
   injection e1 with e1
   injection e1 with e1
   subst e1
   exact ⟨cur,hh⟩
 have hts:∀ k,k<w.heap.size→k=ga→TS w k:=fun k _ e=>by rw[e];exact .inr ⟨_,_,_,hgk,.inr (.inl rfl)⟩
 have hne:∀ x,GpOk PR M Cq w B x→∀ k,x.av.ownBlock=some k→¬ k=ga:=fun x hx k hk e=>zai hx.row hgk (by decide) (by rw[← e];exact hk)
 refine ⟨?_,fun x hx=>?_,?_⟩
 ·unfold GRow
  rw[hlen,zmk gs j 62 g'.av g' hjl (by decide) hz (by rw[hje];exact zq5 (hz g hgm) h1 h2 h3 h4)]
  exact hr
 ·have hx':GpOk PR M Cq w B x:=by
   obtain ⟨i,hi,rfl⟩:=List.getElem_of_mem hx
   rw[List.length_set] at hi
   rw[List.getElem_set]
   split
   ·exact hg
   ·exact hoth i _ (kV hi) (fun e=>by omega)
  exact hx'.alt hst hab hts (hne x hx')
 ·unfold Apart at hap ⊢
  rw[List.pairwise_iff_getElem] at hap ⊢
  intro a b ha hb hlt k hk hk'
  rw[List.length_set] at ha hb
  rw[List.getElem_set] at hk hk'
  by_cases ea:j=a
  ·subst ea
   rw[kZ rfl] at hk
   rw[kT (by omega)] at hk'
   rcases hn k hk with e|e
   ·exact hap j b ha hb hlt k (by rw[hje];exact e) hk'
   ·exact e _ (List.getElem_mem hb) hk'
  ·rw[kT ea] at hk
   by_cases eb:j=b
   ·subst eb
    rw[kZ rfl] at hk'
    rcases hn k hk' with e|e
    ·exact hap a j ha hb hlt k hk (by rw[hje];exact e)
    ·exact e _ (List.getElem_mem ha) hk
   ·rw[kT eb] at hk'
    exact hap a b ha hb hlt k hk hk'
theorem Apart.ne {gs:List Gp}(h:Apart gs){i j:Nat}{g x:Gp}(hi:gs[i]? = some x)(hj:gs[j]? = some g)(hne:i≠j)(k:Nat)(hk:x.av.ownBlock=some k):¬ g.av.ownBlock=some k:=by
 unfold Apart at h
 rw[List.pairwise_iff_getElem] at h
 obtain ⟨hil,hie⟩:=kK.1 hi
 obtain ⟨hjl,hje⟩:=kK.1 hj
 intro hk'
 rcases Nat.lt_or_ge i j with hl|hl
 ·exact h i j hil hjl hl k (by rw[hie];exact hk) (by rw[hje];exact hk')
 ·exact h j i hjl hil (by omega) k (by rw[hje];exact hk') (by rw[hie];exact hk)
theorem zid:∀ (gs:List Gp) (i:Nat),(∀ x∈gs,x.cs.size=59)→((gs.map cellsG).flatten).take (i*63)=((gs.take i).map cellsG).flatten∧((gs.map cellsG).flatten).drop (i*63)=((gs.drop i).map cellsG).flatten
 | [],i,_=>by simp
 |g :: gs,0,_=>by simp
 |g :: gs,i+1,h=>by
  have hl:=zbv (h g (qO ..))
  obtain ⟨h1,h2⟩:=zid gs i (fun x hx=>h x (qP _ hx))
  have e:(i+1)*63=(cellsG g).length+i*63:=by rw[hl];omega
  rw[kM,qD,e,List.take_length_add_append,List.drop_length_add_append,h1,h2]
  exact ⟨rfl,rfl⟩
theorem zq6 {gs:List Gp}{j:Nat}(h:∀ x∈gs,x.cs.size=59):((gs.map cellsG).flatten).take (j*63)++((gs.map cellsG).flatten).drop ((j+1)*63)=((gs.eraseIdx j).map cellsG).flatten:=by
 rw[(zid gs j h).1,(zid gs (j+1) h).2,List.eraseIdx_eq_take_drop_succ,kL,qQ]
theorem zpk {PR:SMod}{M:List Int→Prop}{Cq:List Value→Prop}{w:World}{B:Nat}{gs:List Gp}(h:∀ g∈gs,GpOk PR M Cq w B g):∀ u∈(gs.map cellsG).flatten,u.oneCell'=true:=by
 intro u hu
 obtain ⟨l,hl,hu⟩:=List.mem_flatten.1 hu
 obtain ⟨g,hg,rfl⟩:=kO.1 hl
 have h1:=(h g hg).one
 unfold AllOne at h1
 rw[← Array.all_toList] at h1
 have h2:=List.all_eq_true.1 h1
 unfold cellsG at hu
 simp only[List.mem_cons,kU,List.mem_nil_iff,or_false] at hu
 rcases hu with rfl|rfl|hu|rfl|rfl
 ·rfl
 ·rfl
 ·exact h2 u hu
 ·rfl
 ·rfl
end
theorem zml (off:Nat):∀ (l:List Value) (k:Nat) (acc:Array Value),off+k+l.length≤acc.size→((l.zipIdx k).foldl (fun cs p=>cs.setIfInBounds (off+p.2) p.1) acc).toList=spl acc.toList (off+k) l
 | [],k,acc,_=>by
  unfold spl
  simp
 |v :: l,k,acc,h=>by
  rw[List.length_cons] at h
  rw[List.zipIdx_cons,List.foldl_cons,zml off l (k+1) _ (by simp;omega)]
  unfold spl
  apply List.ext_getElem?
  intro i
  simp only[Array.toList_setIfInBounds,List.length_cons]
  have hl:acc.toList.length=acc.size:=by simp
  rw[show off+(k+1)=off+k+1 by omega,show off+k+(l.length+1)=off+k+1+l.length by omega,kR,kR]
  rcases Nat.lt_trichotomy i (off+k) with hi|hi|hi
  ·rw[qB (by simp;omega),qB (by simp;omega),List.getElem?_take_of_lt (by omega),List.getElem?_take_of_lt (by omega),List.getElem?_set_ne (by omega)]
  ·subst hi
   rw[qB (by simp;omega),kY (by simp;omega),List.getElem?_take_of_lt (by omega),List.getElem?_set_self (by omega)]
   have e:off+k - (acc.toList.take (off+k)).length=0:=by simp;omega
   rw[e]
   rfl
  ·rw[kY (l₁:=(acc.toList.set (off+k) v).take (off+k+1)) (by simp;omega),kY (l₁:=acc.toList.take (off+k)) (by simp;omega)]
   have e1:((acc.toList.set (off+k) v).take (off+k+1)).length=off+k+1:=by simp;omega
   have e2:(acc.toList.take (off+k)).length=off+k:=by simp;omega
   rw[e1,e2,show i - (off+k)=(i - (off+k+1))+1 by omega,List.cons_append,List.getElem?_cons_succ]
   have e3:(acc.toList.set (off+k) v).drop (off+k+1+l.length)=acc.toList.drop (off+k+1+l.length):=by
    rw[List.drop_set,kZ (by omega)]
   rw[e3]
theorem zwg (off:Nat)(v acc:Array Value)(h:off+v.size≤acc.size):v.zipIdx.foldl (fun cs p=>cs.setIfInBounds (off+p.2) p.1) acc=(spl acc.toList off v.toList).toArray:=by
 have h1:=zml off v.toList 0 acc (by simpa using h)
 rw[Nat.add_zero] at h1
 rw[← h1, ← Array.foldl_toList,Array.toList_zipIdx]
theorem zn7 {A D v:List Value}{o:Nat}(h:A.length=o):spl (A++D) o v=A++v++D.drop v.length:=by
 subst h
 unfold spl
 rw[List.take_left,List.drop_append,List.drop_of_length_le (by omega),List.nil_append,Nat.add_sub_cancel_left]
theorem zie {place:Nat→Option (Nat×Nat)}{cells:Array Value}{i off size:Nat}{v:Value}{rest:List (Nat×Value)}(hp:place i=some (off,size))(hs:v.cells.size=size)(hle:off+size≤cells.size) :
  Instr.fill place cells ((i,v) :: rest)=Instr.fill place (spl cells.toList off v.cells.toList).toArray rest:=by
 have hc:¬ (v.cells.size≠size || decide (off+v.cells.size > cells.size))=true:=by
  rw[hs]
  simp
  exact hle
 rw[Instr.fill,hp]
 simp only
 rw[kT hc,zwg off _ _ (by rw[hs];exact hle)]
theorem zq7:(Tryz.prog.fieldsOf 152).toList.mapM (fun f=>(Tryz.prog.info? f.type).map fun i=>(f.offset,i.size))=some [(0,2),(2,59),(61,1),(62,1)]:=by kernel_rfl
theorem zwh:(Tryz.prog.info? 152).map (fun i=>i.zero.map (fun z=>z.cells.toList.drop 62))=some (some [.slice none 0 0]):=by kernel_rfl
theorem zn8 (nm:ByteArray)(v t:Nat)(cs:Array Value)(ms:List Int)(hs:cs.size=59) :
  Tryz.prog.built 152 [(0,.agg #[.string nm,.int .i64 (v:Int)]),(1,.agg cs),(2,.int .i64 (t:Int))]=some (cellsG ⟨nm,v,cs,ms,t,none,0,[]⟩).toArray:=by
 obtain ⟨i,z,hi,hz,hz1,_,hz3⟩:=zpi
 have hzd:=zwh
 rw[hi,Option.map_some,hz] at hzd
 simp only[Option.map_some,Option.some.injEq] at hzd
 have hu:Tryz.prog.underlying 152=some (.struct (Tryz.prog.fieldsOf 152)):=by rfl
 obtain ⟨Z,hZ⟩:∃ Z,Z=z.cells:=⟨_,rfl⟩
 obtain ⟨A1,hA⟩:∃ A1,A1=[Value.string nm,.int .i64 (v:Int)]:=⟨_,rfl⟩
 obtain ⟨C1,hC⟩:∃ C1,C1=cs.toList:=⟨_,rfl⟩
 have hA2:A1.length=2:=by rw[hA];rfl
 have hC2:C1.length=59:=by rw[hC];simpa using hs
 have hZ2:Z.toList.length=63:=by rw[hZ];simpa using hz3
 have s1:spl Z.toList 0 A1=A1++Z.toList.drop 2:=by
  have:=zn7 (A:=[]) (D:=Z.toList) (v:=A1) (o:=0) rfl
  rw[List.nil_append,List.nil_append,hA2] at this
  exact this
 have s2:spl (A1++Z.toList.drop 2) 2 C1=(A1++C1)++Z.toList.drop 61:=by
  rw[zn7 hA2,hC2,List.drop_drop]
 have s3:∀ T:Value,spl ((A1++C1)++Z.toList.drop 61) 61 [T]=(A1++C1)++[T]++Z.toList.drop 62:=fun T=>by
  rw[zn7 (by rw[kI,hA2,hC2]),qJ,List.drop_drop]
 have l1:(A1++Z.toList.drop 2).length=63:=by rw[kI,List.length_drop,hA2,hZ2]
 have l2:((A1++C1)++Z.toList.drop 61).length=63:=by rw[kI,kI,List.length_drop,hA2,hC2,hZ2]
 unfold Program.built
 rw[hi,hu]
 simp only[hz,zq7]
 rw[← hZ] at hzd ⊢
 rw[zie (off:=0) (size:=2) (by rfl) (by rfl) (by rw[show Z.size=63 by simpa using hZ2];decide)]
 rw[show (Value.agg #[Value.string nm,.int .i64 (v:Int)]).cells.toList=A1 from hA.symm,s1]
 rw[zie (off:=2) (size:=59) (by rfl) (by exact hs) (by rw[List.size_toArray,l1];decide)]
 rw[show (Value.agg cs).cells.toList=C1 from hC.symm,s2]
 rw[zie (off:=61) (size:=1) (by rfl) (by rfl) (by rw[List.size_toArray,l2];decide)]
 rw[show (Value.int .i64 (t:Int)).cells.toList=[Value.int .i64 (t:Int)] from rfl,s3,hzd,Instr.fill,hA,hC]
 congr 2
 simp[cellsG]
theorem ze7 {ops:Array Oper}{S:World→Prop}{op:Oper}{a:Act}(hw:Region.wanted op (yielded ops a.tmps)=true)(ty:TypeId)(x:Operand)(ho:op.op = .load ty x)
  (b o:Nat) (hx:a.eval x = .pointer (some ⟨b,o,none⟩)) (cs:Array Value) (d:TypeDesc) (hS:∀ w,S w→w.rangeAt b o cs.toList)
  (hu:Tryz.prog.underlying ty=some d) (hd:d.isRow=true) (hi:(Tryz.prog.info? ty).map (·.size)=some cs.size):YieldsIf Tryz.prog ops S op (.agg cs) a:=by
 have h:=yieldsIf_load_mid hw ty x ho b o hx cs.toList d hS hu hd (by rw[Array.length_toList];exact hi)
 rw[Array.toArray_toList] at h
 exact h
theorem infoRq:(Tryz.prog.info? 176).map (fun i=>(i.zero.map (fun z=>z.cells.size),i.size,decide (i.bytes≤1000)))=some (some 2,2,true):=by kernel_rfl
theorem zwi:∃ i z,Tryz.prog.info? 176=some i∧i.zero=some z∧i.size=2∧i.bytes≤1000∧z.cells.size=2:=by
 have h:=infoRq
 cases hi:Tryz.prog.info? 176 with
 |none=>rw[hi] at h;cases h
 |some i =>
  rw[hi] at h
  simp only[Option.map_some,Option.some.injEq,Prod.mk.injEq] at h
  obtain ⟨h1,h2,h3⟩:=h
  cases hz:i.zero with
  |none=>rw[hz] at h1;cases h1
  |some z =>
   rw[hz] at h1
   exact ⟨i,z,rfl,hz,h2,of_decide_eq_true h3,by simpa using h1⟩
theorem zzl:(Tryz.prog.info? 149).map (·.size)=some 2:=by kernel_rfl
theorem zzm (w:World)(t:TypeId)(cs:Array Value):(w.alloc (.cells cs t)).ownsRow w.heap.size t cs.size (.slice (some ⟨w.heap.size,0,none⟩) 1 1) 1 cs.toList :=
 ⟨by simp,.inr ⟨w.heap.size,1,cs,rfl,kJ _,heap_alloc_new w _,kJ _,by unfold maxLen;omega,by simp,by rw[List.take_of_length_le (by simp)]⟩⟩
def zR:List Value:=[.int .i64 0,.bool false,.int .u64 0,.string ⟨#[]⟩,.int .u64 0,.string ⟨#[]⟩]
def AskErr (w:World)(id:Int)(now:Nat)(er:Int)(e:Ending)(w':World):Prop:=∃ v,e = .returned v∧TRow w' w.heap.size v [⟨id,0,(now:Int),er,zR⟩]∧Below w.heap.size w w'
def AskOk (PR:SMod)(M:List Int→Prop)(Cq:List Value→Prop)(ans:List Int→List Value→List Value×Int)(w:World)(B sp bk Mo W now:Nat)(v0:Value)(gs:List Gp)(name:ByteArray)(kv:Nat)(ms:List Int)(q:Pq)(e:Ending)(w':World):Prop :=
 ∃ v gA' gc' gs',e = .returned v∧gs'.map Gp.p=(askP ans Mo now name kv ms q (gs.map Gp.p)).1∧TRow w' w.heap.size v (askP ans Mo now name kv ms q (gs.map Gp.p)).2∧Blk w' sp 116 (svC bk (Mo:Int) W now gA' gs'.length gc')∧SG PR M Cq w' B (.slice gA' gs'.length gc') gs'∧Alt w w' (fun k=>k=sp∨Gb v0 gs k)
def AskPost (PR:SMod)(M:List Int→Prop)(Cq:List Value→Prop)(ans:List Int→List Value→List Value×Int)(w:World)(B sp bk Mo W now:Nat)(v0:Value)(gs:List Gp)(name:ByteArray)(kv:Nat)(ms:List Int)(q:Pq)(er:Int)(e:Ending)(w':World):Prop :=
 (er≠0∧AskErr w q.id now er e w')∨(er=0∧AskOk PR M Cq ans w B sp bk Mo W now v0 gs name kv ms q e w')
def askF (ans:List Int→List Value→List Value×Int)(Mo now:Nat)(q:Pq)(gs:List Pg)(j:Nat)(g:Pg):List Pg×List Td :=
 if g.rs.length+1<Mo then (gs.set j { g with rs:=g.rs++[q] },[]) else (gs.eraseIdx j,(g.rs++[q]).map (tdP ans (g.ver:Int) (now:Int) g.ms))
theorem zud {ans:List Int→List Value→List Value×Int}{Mo now:Nat}{nm:ByteArray}{v:Nat}{ms:List Int}{q:Pq}{gs:List Pg}{g:Pg}(h:gs[findP nm v gs]? = some g):askP ans Mo now nm v ms q gs=askF ans Mo now q gs (findP nm v gs) g:=by
 unfold askP askF
 rw[h]
theorem zue {ans:List Int→List Value→List Value×Int}{Mo now:Nat}{nm:ByteArray}{v:Nat}{ms:List Int}{q:Pq}{gs:List Pg}(h:gs[findP nm v gs]? = none):askP ans Mo now nm v ms q gs=askF ans Mo now q (gs++[⟨nm,v,ms,now,[]⟩]) gs.length ⟨nm,v,ms,now,[]⟩:=by
 unfold askP askF
 rw[h]
 simp only[List.length_nil,Nat.zero_add,List.nil_append,kM,List.map_nil]
 rw[List.eraseIdx_append_of_length_le (kJ _),Nat.sub_self,List.set_append_right _ _ (kJ _),Nat.sub_self]
 simp
structure Mid (PR:SMod)(M:List Int→Prop)(Cq:List Value→Prop)(ans:List Int→List Value→List Value×Int)(w wx:World)(B sp bk Mo W now:Nat)(v0:Value)(gs:List Gp)(name:ByteArray)(kv:Nat)(ms:List Int)(q:Pq)(j:Nat)(gA:Option Addr)(gc:Nat)(gs2:List Gp)(g:Gp):Prop where
 gj:gs2[j]? = some g
 sv:Blk wx sp 116 (svC bk (Mo:Int) W now gA gs2.length gc)
 sg:SG PR M Cq wx B (.slice gA gs2.length gc) gs2
 al:Alt w wx (fun k=>k=sp∨Gb v0 gs k)
 own:∀ k,Gb (.slice gA gs2.length gc) gs2 k→Gb v0 gs k∨w.heap.size≤k
 ln:gs2.length≤991
 rl:∀ x∈gs2,x.rs.length≤990
 eq:askP ans Mo now name kv ms q (gs.map Gp.p)=askF ans Mo now q (gs2.map Gp.p) j g.p
theorem ziq {ops:Array Oper}{S:World→Prop}{op:Oper}{a:Act}(hw:Region.wanted op (yielded ops a.tmps)=true)(t:TypeId)(parts:Array (Nat×Operand))(ho:op.op = .build t parts){cs:Array Value}(h:Tryz.prog.built t (parts.toList.map fun x=>(x.1,a.eval x.2))=some cs):YieldsIf Tryz.prog ops S op (.agg cs) a :=
 .inl ⟨hw,fun w _=>by
  have h':Tryz.prog.built t (parts.map fun x=>(x.1,a.eval x.2)).toList=some cs:=by rw[Array.toList_map];exact h
  unfold execOp
  simp only[ho,Sem.run_bind,run_build w t _ cs h',Result.andThen_ok,Sem.run_pure]⟩
section
variable {PR:SMod}{M:List Int→Prop}{Cq:List Value→Prop}{ans:List Int→List Value→List Value×Int}(ha:AnsH PR M Cq ans){w:World}{B sp bk Mo W now:Nat}{gA:Option Addr}{gc:Nat}{gs:List Gp}{a:Ac}
include ha
theorem zuf (hpt:Blk w sp 116 (svC bk (Mo:Int) W now gA gs.length gc))(hsg:SG PR M Cq w B (.slice gA gs.length gc) gs)(_hsp:B≤sp){xs:List Value}(hcq:Cq xs)(hrow:w.ownsRow 0 124 7 (.slice a.cA a.cn a.cc) a.cn xs)(hx1:∀ u∈xs,u.oneCell'=true)(hcn:a.cn≤1000)(hBw:B≤w.heap.size)(hgn:gs.length≤990)(hrl:∀ g∈gs,g.rs.length≤990){er:Int}{ms:List Int}(hM:M ms)
  {ver0 lv kv:Nat} (hv0:a.ver=(ver0:Int)) (hkv:kv=if ver0=0 then lv else ver0)
  (hlive:ver0=0→er=0→∀ V,Below w.heap.size w V→Calls Tryz.prog 41 #[.pointer (some ⟨bk,0,none⟩),.string a.name] V fun e w'=>e = .returned (.tuple #[.int .i64 (lv:Int),.int .i64 0])∧Below V.heap.size V w')
  (hget:∀ V,Below w.heap.size w V→Calls Tryz.prog 40 #[.pointer (some ⟨bk,0,none⟩),.string a.name,.int .i64 a.ver] V fun e w'=>∃ cs,e = .returned (.tuple #[.agg cs,.int .i64 er])∧cs.size=59∧AllOne cs∧Below V.heap.size V w'∧(er=0→∀ W',Alt w' W' (fun k=>k<V.heap.size)→PR W' ms cs)) :
  Calls Tryz.prog 21 #[.pointer (some ⟨sp,0,none⟩),.agg (cellsA a)] w (AskPost PR M Cq ans w B sp bk Mo W now (.slice gA gs.length gc) gs a.name kv ms ⟨a.id,xs⟩ er):=by
 have HA:=kA ha
 have HPT:=kA hpt
 have HSG:=kA hsg
 have HGE:=kA hget
 have HBW:=kA hBw
 have HGN:=kA hgn
 have HRL:=kA hrl
 have HMS:=kA hM
 have HCQ:=kA hcq
 have HRW:=kA hrow
 have HX1:=kA hx1
 have HCN:=kA hcn
 have HLV:=kA hlive
 have HKV:=kA hkv
 have HV0:=kA hv0
 obtain ⟨n,hnn⟩:∃ n,n=gs.length:=⟨_,rfl⟩
 have HN:=kA hnn
 rw[← hnn] at HPT HSG
 obtain ⟨AC,hAC⟩:∃ x,x=cellsA a:=⟨_,rfl⟩
 have HAC:=kA hAC
 rw[← hAC]
 have HC1:Hid (AC[1]? = some (.int .i64 a.id)):=kA (by rw[hAC];rfl)
 have HC2:Hid (AC[2]? = some (.int .i64 a.ver)):=kA (by rw[hAC];rfl)
 have HC4:Hid (AC[4]? = some (.string a.name)):=kA (by rw[hAC];rfl)
 have HC6:Hid (AC[6]? = some (.slice a.cA a.cn a.cc)):=kA (by rw[hAC];rfl)
 clear ha hpt hsg hget hnn hAC hlive hkv hv0 hcq hrow hx1 hcn hBw hgn hrl hM
 go_enter Tryz.func21,Tryz.ntmps21
 have HB1:Hid (Below w.heap.size w (w.alloc (.cells AC 35))):=kA (Below.new1 w _)
 have HK1:Hid (Blk (w.alloc (.cells AC 35)) w.heap.size 35 AC):=kA (Blk.new w _ _)
 go_upto_region 1 with fail
 generalize w.alloc (.cells AC 35)=W1 at HB1 HK1 ⊢
 have HP1:=kA (zab HPT.out HB1.out)
 have HCA:Hid (∀ V,Below W1.heap.size W1 V→V.cell? ⟨w.heap.size,2,none⟩=some (.int .i64 a.ver)∧V.cell? ⟨w.heap.size,4,none⟩=some (.string a.name)∧V.cell? ⟨sp,0,none⟩=some (.pointer (some ⟨bk,0,none⟩))):=kA fun V hV=>by
  have h1:=zab HK1.out hV
  have h2:=zab HP1.out hV
  exact ⟨(h1.cell 2).trans HC2.out,(h1.cell 4).trans HC4.out,h2.cell 0⟩
 go_cut [5,6] from 11 to 22 (fun v5 v6 wx=>∃ (mb:Nat) (cs:Array Value),v5 = .pointer (some ⟨mb,0,none⟩)∧v6 = .int .i64 er∧Hid (Below W1.heap.size W1 wx∧W1.heap.size≤mb∧Blk wx mb 90 cs∧cs.size=59∧AllOne cs∧(er=0→PR wx ms cs)))
 case first =>
  refine wp_region_held_drew (S:=fun V=>Below W1.heap.size W1 V) (by kernel_rfl) (Below.refl _ W1).drew (fun hHeld=>?_)
  refine wpAnyH_take (i:=0) (oi:=_) (v:=?v0) rfl (by kernel_rfl) (by kernel_rfl) (by kernel_rfl) (fun _ _ _ h=>h) (Or.inl ⟨by rfl,?y0⟩) (by assumption) ?r0
  case y0=>(intro w' hSw;(try dsimp only at hSw);(try simp only[kD,kB]);go_simp;try (with_reducible rfl))
  try simp only[Act.put,kE,kG,kF,kD,kB]
  refine wpAnyH_take (i:=1) (oi:=_) (v:=?v1) rfl (by kernel_rfl) (by kernel_rfl) (by kernel_rfl) (fun _ _ _ h=>h) (Or.inl ⟨by rfl,?y1⟩) (by assumption) ?r1
  case y1=>(intro w' hSw;(try dsimp only at hSw);(try simp only[kD,kB,kC]);go_simp;try (with_reducible rfl))
  try simp only[Act.put,kE,kG,kF,kD,kB,kC]
  refine wpAnyH_take (i:=2) (oi:=_) (v:=?v2) rfl (by kernel_rfl) (by kernel_rfl) (by kernel_rfl) (fun _ _ _ h=>h) (Or.inl ⟨by rfl,?y2⟩) (by assumption) ?r2
  case y2=>(intro w' hSw;(try dsimp only at hSw);(try simp only[kD,kB,kC]);go_simp;try (with_reducible rfl))
  try simp only[Act.put,kE,kG,kF,kD,kB,kC]
  refine wpAnyH_take (i:=3) (oi:=_) (v:=?v3) rfl (by kernel_rfl) (by kernel_rfl) (by kernel_rfl) (fun _ _ _ h=>h) (Or.inl ⟨by rfl,?y3⟩) (by assumption) ?r3
  case y3=>(intro w' hSw;obtain ⟨hx2,hx4,hx0⟩:=HCA.out w' hSw;clear hSw;(try dsimp only at hSw);(try simp only[kD,kB,kC]);go_simp;try (with_reducible rfl))
  try simp only[Act.put,kE,kG,kF,kD,kB,kC]
  refine wpAnyH_take (i:=4) (oi:=_) (v:=?v4) rfl (by kernel_rfl) (by kernel_rfl) (by kernel_rfl) (fun _ _ _ h=>h) (Or.inl ⟨by rfl,?y4⟩) (by assumption) ?r4
  case y4=>(intro w' hSw;(try dsimp only at hSw);(try simp only[kD,kB,kC]);go_simp;try (with_reducible rfl))
  try simp only[Act.put,kE,kG,kF,kD,kB,kC]
  refine wpAnyH_take (i:=5) (oi:=_) (v:=?v5) rfl (by kernel_rfl) (by kernel_rfl) (by kernel_rfl) (fun _ _ _ h=>h) (Or.inl ⟨by rfl,?y5⟩) (by assumption) ?r5
  case y5=>(intro w' hSw;obtain ⟨hx2,hx4,hx0⟩:=HCA.out w' hSw;clear hSw;(try dsimp only at hSw);(try simp only[kD,kB,kC]);go_simp;try (with_reducible rfl))
  try simp only[Act.put,kE,kG,kF,kD,kB,kC]
  refine wpAnyH_take (i:=6) (oi:=_) (v:=?v6) rfl (by kernel_rfl) (by kernel_rfl) (by kernel_rfl) (fun _ _ _ h=>h) (Or.inl ⟨by rfl,?y6⟩) (by assumption) ?r6
  case y6=>(intro w' hSw;(try dsimp only at hSw);(try simp only[kD,kB,kC]);go_simp;try (with_reducible rfl))
  try simp only[Act.put,kE,kG,kF,kD,kB,kC]
  refine wpAnyH_take (i:=7) (oi:=_) (v:=?v7) rfl (by kernel_rfl) (by kernel_rfl) (by kernel_rfl) (fun _ _ _ h=>h) (Or.inl ⟨by rfl,?y7⟩) (by assumption) ?r7
  case y7=>(intro w' hSw;obtain ⟨hx2,hx4,hx0⟩:=HCA.out w' hSw;clear hSw;(try dsimp only at hSw);(try simp only[kD,kB,kC]);go_simp;try (with_reducible rfl))
  try simp only[Act.put,kE,kG,kF,kD,kB,kC]
  refine wpAnyH_ready (rs:=[8,12]) (by kernel_rfl) (by simp) ?_
  refine (AllReadyH.cons rfl (fun K hK=>?_) (AllReadyH.cons rfl (fun K hK=>?_) AllReadyH.nil))
  ·try simp only[kD,kB,kC]
   go_simp
   go_at_call 40
   refine (HGE.out _ (HB1.out.trans (hHeld.mono HB1.out.size))).mono ?_
   rintro e w2 ⟨cs,rfl,hs2,ho2,hb2,hr2⟩
   have HS2:=kA hs2
   have HO2:=kA ho2
   have HB2:Hid (Below W1.heap.size W1 w2):=kA (hHeld.trans (hb2.mono hHeld.size))
   have HR2:=kA hr2
   clear hs2 ho2 hr2
   clear hb2
   refine hK.out _ _ HB2.out (fun hHeld=>?_)
   clear hK K
   try simp only[Act.put,kE,kG,kF,kD,kB,kC]
   refine wpAnyH_take (i:=9) (oi:=_) (v:=?v9a) rfl (by kernel_rfl) (by kernel_rfl) (by kernel_rfl) (fun _ _ _ h=>h) (Or.inl ⟨by rfl,?y9a⟩) (by assumption) ?r9a
   case y9a=>(intro w' hSw;(try dsimp only at hSw);(try simp only[kD,kB,kC]);go_simp;try (with_reducible rfl))
   try simp only[Act.put,kE,kG,kF,kD,kB,kC]
   refine wpAnyH_take (i:=10) (oi:=_) (v:=?v10a) rfl (by kernel_rfl) (by kernel_rfl) (by kernel_rfl) (fun _ _ _ h=>h) (Or.inl ⟨by rfl,?y10a⟩) (by assumption) ?r10a
   case y10a=>(intro w' hSw;(try dsimp only at hSw);(try simp only[kD,kB,kC]);go_simp;try (with_reducible rfl))
   try simp only[Act.put,kE,kG,kF,kD,kB,kC]
   refine wpAnyH_take (i:=11) (oi:=_) (v:=?v11a) rfl (by kernel_rfl) (by kernel_rfl) (by kernel_rfl) (fun _ _ _ h=>h) (Or.inl ⟨by rfl,?y11a⟩) (by assumption) ?r11a
   case y11a=>(intro w' hSw;(try dsimp only at hSw);(try simp only[kD,kB,kC]);go_simp;try (with_reducible rfl))
   try simp only[Act.put,kE,kG,kF,kD,kB,kC]
   refine wpAnyH_ready (rs:=[12]) (by kernel_rfl) (by simp) ?_
   refine (AllReadyH.cons rfl (fun K hK=>?_) AllReadyH.nil)
   try simp only[kD,kB,kC]
   go_simp
   have HB3:Hid (Below W1.heap.size W1 (w2.alloc (.cells zM 90))):=kA (HB2.out.alloc HB2.out.size _)
   refine hK.out _ _ HB3.out (fun hHeld=>?_)
   clear hK K
   try simp only[Act.put,kE,kG,kF,kD,kB,kC]
   refine wpAnyH_ready (rs:=[13]) (by kernel_rfl) (by simp) ?_
   refine (AllReadyH.cons rfl (fun K hK=>?_) AllReadyH.nil)
   try simp only[kD,kB,kC]
   rw[kZ (by rfl)]
   refine zbt _ 90 (.tmp 5) (.tmp 21) rfl w2.heap.size zM cs 90 rfl rfl (by exact Blk.new w2 _ _) (HS2.out.symm ▸ zba) (by rw[HS2.out];rfl) HO2.out ?_
   intro w4 hb4 ha4 hs4
   have HB4:Hid (Below W1.heap.size W1 w4):=kA (HB3.out.trans ((ha4.below (B:=W1.heap.size) (fun k e=>by rw[e];exact HB2.out.size) HB3.out.size)))
   refine hK.out _ _ HB4.out (fun hHeld=>?_)
   clear hK K
   try simp only[Act.put]
   refine wpAnyH_take (i:=14) (oi:=_) (v:=?v14a) rfl (by kernel_rfl) (by kernel_rfl) (by kernel_rfl) (fun _ _ _ h=>h) (Or.inl ⟨by rfl,?y14a⟩) (by assumption) ?r14a
   case y14a=>(intro w' hSw;(try dsimp only at hSw);(try simp only[kD,kB,kC]);go_simp;try (with_reducible rfl))
   try simp only[Act.put,kE,kG,kF,kD,kB,kC]
   refine wpAnyH_done (by kernel_rfl) ?_ _
   go_wp2_with fail
   go_meet
   refine ⟨_,cs,rfl,rfl,kA ⟨HB4.out,HB2.out.size,hb4,HS2.out,HO2.out,fun he=>?_⟩⟩
   exact HA.out.st _ _ _ _ _ (HR2.out he _ (Alt.refl _ _)) (alt_of_below (p:=fun _=>False) ((Below.new1 w2 _).trans (ha4.below (B:=w2.heap.size) (fun k e=>by rw[e];exact kJ _) (by rw[World.size_alloc];omega)))) (fun _ _ h=>h.elim)
  ·try simp only[kD,kB,kC]
   go_simp
   have HB2:Hid (Below W1.heap.size W1 (W1.alloc (.cells zM 90)).drew):=kA ((Below.refl _ W1).alloc (by simp) _).drew
   have HK2:Hid (Blk (W1.alloc (.cells zM 90)).drew W1.heap.size 90 zM):=kA (Blk.new W1 _ _)
   refine hK.out _ _ HB2.out (fun hHeld=>?_)
   clear hK K
   try simp only[Act.put,kE,kG,kF,kD,kB,kC]
   refine wpAnyH_ready (rs:=[8]) (by kernel_rfl) (by simp) ?_
   refine (AllReadyH.cons rfl (fun K hK=>?_) AllReadyH.nil)
   try simp only[kD,kB,kC]
   go_simp
   unfold zM at HB2 HK2
   generalize (World.alloc W1 _).drew=W2 at HB2 HK2 hHeld ⊢
   go_at_call 40
   refine (HGE.out _ (HB1.out.trans (HB2.out.mono HB1.out.size))).mono ?_
   rintro e w3 ⟨cs,rfl,hs2,ho2,hb3,hr3⟩
   have HS2:=kA hs2
   have HO2:=kA ho2
   have HB3:Hid (Below W1.heap.size W1 w3):=kA (HB2.out.trans (hb3.mono HB2.out.size))
   have HK3:=kA (zab HK2.out hb3)
   have HR3:=kA hr3
   have HLT:Hid (W1.heap.size<W2.heap.size):=kA HK2.out.lt
   have HB23:=kA hb3
   clear hs2 ho2 hb3 hr3
   refine hK.out _ _ HB3.out (fun hHeld=>?_)
   clear hK K
   try simp only[Act.put,kE,kG,kF,kD,kB,kC]
   refine wpAnyH_take (i:=9) (oi:=_) (v:=?v9b) rfl (by kernel_rfl) (by kernel_rfl) (by kernel_rfl) (fun _ _ _ h=>h) (Or.inl ⟨by rfl,?y9b⟩) (by assumption) ?r9b
   case y9b=>(intro w' hSw;(try dsimp only at hSw);(try simp only[kD,kB,kC]);go_simp;try (with_reducible rfl))
   try simp only[Act.put,kE,kG,kF,kD,kB,kC]
   refine wpAnyH_take (i:=10) (oi:=_) (v:=?v10b) rfl (by kernel_rfl) (by kernel_rfl) (by kernel_rfl) (fun _ _ _ h=>h) (Or.inl ⟨by rfl,?y10b⟩) (by assumption) ?r10b
   case y10b=>(intro w' hSw;(try dsimp only at hSw);(try simp only[kD,kB,kC]);go_simp;try (with_reducible rfl))
   try simp only[Act.put,kE,kG,kF,kD,kB,kC]
   refine wpAnyH_take (i:=11) (oi:=_) (v:=?v11b) rfl (by kernel_rfl) (by kernel_rfl) (by kernel_rfl) (fun _ _ _ h=>h) (Or.inl ⟨by rfl,?y11b⟩) (by assumption) ?r11b
   case y11b=>(intro w' hSw;(try dsimp only at hSw);(try simp only[kD,kB,kC]);go_simp;try (with_reducible rfl))
   try simp only[Act.put,kE,kG,kF,kD,kB,kC]
   refine wpAnyH_ready (rs:=[13]) (by kernel_rfl) (by simp) ?_
   refine (AllReadyH.cons rfl (fun K hK=>?_) AllReadyH.nil)
   try simp only[kD,kB,kC]
   rw[kZ (by rfl)]
   refine zbt _ 90 (.tmp 5) (.tmp 21) rfl W1.heap.size zM cs 90 rfl rfl (by exact HK3.out) (HS2.out.symm ▸ zba) (by rw[HS2.out];rfl) HO2.out ?_
   intro w4 hb4 ha4 hs4
   have HB4:Hid (Below W1.heap.size W1 w4):=kA (HB3.out.trans (ha4.below (B:=W1.heap.size) (fun k e=>by rw[e];exact kJ _) HB3.out.size))
   refine hK.out _ _ HB4.out (fun hHeld=>?_)
   clear hK K
   try simp only[Act.put]
   refine wpAnyH_take (i:=14) (oi:=_) (v:=?v14b) rfl (by kernel_rfl) (by kernel_rfl) (by kernel_rfl) (fun _ _ _ h=>h) (Or.inl ⟨by rfl,?y14b⟩) (by assumption) ?r14b
   case y14b=>(intro w' hSw;(try dsimp only at hSw);(try simp only[kD,kB,kC]);go_simp;try (with_reducible rfl))
   try simp only[Act.put,kE,kG,kF,kD,kB,kC]
   refine wpAnyH_done (by kernel_rfl) ?_ _
   go_wp2_with fail
   go_meet
   refine ⟨_,cs,rfl,rfl,kA ⟨HB4.out,kJ _,hb4,HS2.out,HO2.out,fun he=>?_⟩⟩
   exact HR3.out he _ (ha4.mono fun k e=>by rw[e];exact HLT.out)
 case rest =>
  obtain ⟨mb,cs,rfl,rfl,hmid⟩:=hcut
  have HBc:Hid (Below w.heap.size w wc):=kA (HB1.out.trans (hmid.out.1.mono HB1.out.size))
  have HKc:=kA (zab HK1.out hmid.out.1)
  have HPc:=kA (zab HP1.out hmid.out.1)
  have HMB:Hid (w.heap.size<mb∧Blk wc mb 90 cs∧cs.size=59∧AllOne cs):=kA ⟨qE HK1.out.lt hmid.out.2.1,hmid.out.2.2.1,hmid.out.2.2.2.1,hmid.out.2.2.2.2.1⟩
  have HRc:=kA hmid.out.2.2.2.2.2
  clear HCA HK1 HP1 HB1 HGE hmid
  by_cases he:er=0
  ·subst he
   revert HBc HKc HPc HMB HRc
   generalize wc=V1
   intro HBc HKc HPc HMB HRc
   have y2:V1.cell? ⟨w.heap.size,2,none⟩=some (.int .i64 a.ver):=(HKc.out.cell 2).trans HC2.out
   have y4:V1.cell? ⟨w.heap.size,4,none⟩=some (.string a.name):=(HKc.out.cell 4).trans HC4.out
   go_upto_if 41 with fail
   have HKB:Hid (Blk (V1.alloc (.cells #[.string a.name,.int .i64 a.ver] 149)) V1.heap.size 149 #[.string a.name,.int .i64 a.ver]):=kA (Blk.new V1 _ _)
   have HB4:Hid (Below V1.heap.size V1 (V1.alloc (.cells #[.string a.name,.int .i64 a.ver] 149))):=kA (Below.new1 V1 _)
   have HSZ:Hid (w.heap.size<V1.heap.size):=kA HKc.out.lt
   generalize V1.alloc (.cells #[.string a.name,.int .i64 a.ver] 149)=W4 at HKB HB4 ⊢
   have HZC:Hid (∀ V,Below V1.heap.size V1 V→V.cell? ⟨w.heap.size,4,none⟩=some (.string a.name)∧V.cell? ⟨sp,0,none⟩=some (.pointer (some ⟨bk,0,none⟩))):=kA fun V hV=>⟨((zab HKc.out hV).cell 4).trans HC4.out,(zab HPc.out hV).cell 0⟩
   have HSN:Hid (¬ sp=V1.heap.size):=kA fun e=>by have:=HPc.out.lt;omega
   clear y2 y4
   go_cut [] from 34 to 52 (fun wx=>Hid (Blk wx V1.heap.size 149 #[.string a.name,.int .i64 (kv:Int)]∧Below V1.heap.size V1 wx))
   case first =>
    by_cases h0:ver0=0
    ·have h1:(a.ver == 0)=true:=by rw[HV0.out,h0];rfl
     obtain ⟨y4,y0⟩:=HZC.out W4 HB4.out
     have HL:=kA (HLV.out h0 rfl W4.drew ((HBc.out.trans (HB4.out.mono HBc.out.size)).drew))
     go_upto_region 6 with fail
     go_region_held3 (fun w'=>w'.cell? ⟨w.heap.size,4,none⟩=some (.string a.name)∧w'.cell? ⟨sp,0,none⟩=some (.pointer (some ⟨bk,0,none⟩))) (go_keep) (first|(go_at_call 41;refine HL.out.mono ?_;rintro e w5 ⟨rfl,hb5⟩;have HB5:Hid (Below V1.heap.size V1 w5):=kA (HB4.out.drew.trans (hb5.mono HB4.out.drew.size));have HK5:=kA (zab (show Blk W4.drew _ _ _ from HKB.out) hb5);obtain ⟨z4,z0⟩:=HZC.out w5 HB5.out;have zf:w5.frozen? ⟨V1.heap.size,1,none⟩=false:=HK5.out.frozen 1;have z1:w5.cell? ⟨V1.heap.size,1,none⟩=some (.int .i64 a.ver):=HK5.out.cell 1;have:=HSZ.out;have hne1:¬ w.heap.size=V1.heap.size:=(by omega);have hne2:¬ sp=V1.heap.size:=HSN.out;have q4:(w5.setCell ⟨V1.heap.size,1,none⟩ (.int .i64 (lv:Int))).cell? ⟨w.heap.size,4,none⟩=some (.string a.name):=(World.cell?_setCell_other _ _ _ _ (by intro e;first|exact hne1 (congrArg Addr.block e)|exact hne1 (congrArg Addr.block e).symm)).trans z4;have q0:(w5.setCell ⟨V1.heap.size,1,none⟩ (.int .i64 (lv:Int))).cell? ⟨sp,0,none⟩=some (.pointer (some ⟨bk,0,none⟩)):=(World.cell?_setCell_other _ _ _ _ (by intro e;first|exact hne2 (congrArg Addr.block e)|exact hne2 (congrArg Addr.block e).symm)).trans z0;clear hb5))
     go_wp2_with fail
     go_meet
     have hkv0:kv=lv:=by rw[HKV.out,kZ h0]
     have hav:a.ver=0:=by rw[HV0.out,h0];rfl
     refine kA ⟨?_,?_⟩
     ·have h2:=HK5.out.set_ 1 (.int .i64 (lv:Int))
      rw[hkv0]
      exact h2
     ·exact HB5.out.trans (Alt.toBelow (Alt.set_ (p:=fun k=>k=V1.heap.size) (a:=⟨V1.heap.size,1,none⟩) (Alt.refl w5 _) rfl _) (fun k _ e=>by rw[e];exact kJ _) HB5.out.size)
    ·have h1:(a.ver == 0)=false:=by rw[kS,HV0.out];omega
     go_wp2_with fail
     go_meet
     exact kA ⟨by rw[HKV.out,kT h0, ← HV0.out];exact HKB.out,HB4.out⟩
   case rest =>
    have HB2:Hid (Below w.heap.size w wc):=kA (HBc.out.trans (hcut.out.2.mono HBc.out.size))
    have HKY:=kA hcut.out.1
    have HP2:=kA (zab HPc.out hcut.out.2)
    have HA2:=kA (zab HKc.out hcut.out.2)
    have HMB2:=kA (zab HMB.out.2.1 hcut.out.2)
    have HPM:=kA (HA.out.st _ _ _ _ _ (HRc.out rfl) (alt_of_below (p:=fun _=>False) hcut.out.2) (fun _ _ h=>h.elim))
    have HS2:=kA (SG.below HA.out.st HSG.out HB2.out)
    clear HB4 HKB HZC HSN HPc HKc HRc HLV hcut
    obtain ⟨f,hf⟩:∃ f,f=findG a.name kv gs:=⟨_,rfl⟩
    obtain ⟨iv,hiv⟩:∃ iv:Int,iv=if f<n then (f:Int) else -1:=⟨_,rfl⟩
    have HF:=kA hf
    have HIV:=kA hiv
    have HIX:Hid (Calls Tryz.prog 42 #[.slice gA n gc,.func (.func 43) #[] #[.pointer (some ⟨V1.heap.size,0,none⟩)]] wc fun e w'=>e = .returned (.int .i64 iv)∧Below wc.heap.size wc w'):=kA (by
     have h0:=HS2.out.row
     have h1:=HS2.out.ok
     rw[HN.out] at h0
     have h2:=zua (PR:=PR) (M:=M) (Cq:=Cq) (w:=wc) (B:=B) a.name kv V1.heap.size HKY.out h0 h1 (kH HGN.out (by decide))
     rw[← hf, ← HN.out, ← hiv] at h2
     exact h2)
    have y4:wc.cell? ⟨sp,4,none⟩=some (.slice gA n gc):=HP2.out.cell 4
    clear hf hiv
    go_upto_region 8 with (first|(go_at_call 42;refine HIX.out.mono ?_;rintro e w7 ⟨rfl,hb7⟩;have HB7:=kA hb7;clear hb7))
    have HBW7:Hid (Below w.heap.size w w7):=kA (HB2.out.trans (HB7.out.mono HB2.out.size))
    have HKY7:=kA (zab HKY.out HB7.out)
    have HP7:=kA (zab HP2.out HB7.out)
    have HA7:=kA (zab HA2.out HB7.out)
    have HMB7:=kA (zab HMB2.out HB7.out)
    have HPM7:=kA (HA.out.st _ _ _ _ _ HPM.out (alt_of_below (p:=fun _=>False) HB7.out) (fun _ _ h=>h.elim))
    have HS7:=kA (SG.below HA.out.st HS2.out HB7.out)
    clear y4 HIX HB2 HKY HP2 HA2 HMB2 HPM HS2 HB7
    go_upto_if 60 with fail
    go_cut [8] from 53 to 81 (fun v8 wx=>∃ (j:Nat),v8 = .int .i64 (j:Int)∧Hid (∃ gA' gc' gs2 g,Mid PR M Cq ans w wx B sp bk Mo W now (.slice gA n gc) gs a.name kv ms ⟨a.id,xs⟩ j gA' gc' gs2 g∧Blk wx w.heap.size 35 AC))
    case first =>
     by_cases hfn:f<n
     ·have hiv:iv=(f:Int):=by rw[HIV.out,kZ hfn]
      subst hiv
      have hd:decide ((f:Int)<0)=false:=kQ (by omega)
      go_wp2_with fail
      go_meet
      refine ⟨f,rfl,kA ⟨gA,gc,gs,gs[f]'(by rw[← HN.out];exact hfn),⟨?_,?_,?_,?_,?_,?_,?_,?_⟩,HA7.out⟩⟩
      ·exact kV _
      ·rw[← HN.out];exact HP7.out
      ·rw[← HN.out];exact HS7.out
      ·exact alt_of_below HBW7.out
      ·rw[← HN.out];exact fun k h => .inl h
      ·exact kH HGN.out (by decide)
      ·exact HRL.out
      ·have h1:(gs.map Gp.p)[findP a.name kv (gs.map Gp.p)]? = some (gs[f]'(by rw[← HN.out];exact hfn)).p:=by
        rw[zpj, ← HF.out,List.getElem?_map,kV (by rw[← HN.out];exact hfn)]
        rfl
       rw[zud h1,zpj, ← HF.out]
     ·have hiv:iv = -1:=by rw[HIV.out,kT hfn]
      subst hiv
      obtain ⟨iG,zG,hi0,hz0,hz1,hz2,hz3⟩:=zpi
      have HIG:=kA hi0
      have HZ0G:=kA hz0
      have HZ1G:=kA hz1
      have HZ2G:=kA hz2
      have HZ3G:=kA hz3
      clear hi0 hz0 hz1 hz2 hz3
      obtain ⟨gN,hgN⟩:∃ g:Gp,g=⟨a.name,kv,cs,ms,now,none,0,[]⟩:=⟨_,rfl⟩
      obtain ⟨GC,hGC⟩:∃ x,x=(cellsG gN).toArray:=⟨_,rfl⟩
      have HBG:Hid (Tryz.prog.built 152 [(0,.agg #[.string a.name,.int .i64 (kv:Int)]),(1,.agg cs),(2,.int .i64 (now:Int))]=some GC):=kA (by rw[hGC,hgN];exact zn8 a.name kv now cs ms HMB.out.2.2.1)
      have HGZ:Hid (GC.size=63):=kA (by rw[hGC,hgN];simpa using zbv (g:=⟨a.name,kv,cs,ms,now,none,0,[]⟩) HMB.out.2.2.1)
      have HG1:Hid (∀ u∈GC.toList,u.oneCell'=true):=kA (by
       rw[hGC,hgN]
       have h1:=HMB.out.2.2.2
       unfold AllOne at h1
       rw[← Array.all_toList] at h1
       have h2:=List.all_eq_true.1 h1
       intro u hu
       unfold cellsG at hu
       simp only[List.mem_cons,kU,List.mem_nil_iff,or_false] at hu
       rcases hu with rfl|rfl|hu|rfl|rfl
       ·rfl
       ·rfl
       ·exact h2 u hu
       ·rfl
       ·rfl)
      have HGC:=kA hGC
      have HGN1:=kA hgN
      have HRW7:Hid ((w7.alloc (.cells GC 152)).drew.ownsRow B 152 63 (.slice gA n gc) n ((gs.map cellsG).flatten)):=kA (by
       have h1:=HS7.out.row
       unfold GRow at h1
       rw[← HN.out] at h1
       exact zad h1 (Below.new1 w7 _).drew)
      have hn9:n≤990:=by rw[HN.out];exact HGN.out
      have HW7:Hid (sp<w7.heap.size∧w.heap.size≤w7.heap.size):=kA ⟨HP7.out.lt,HBW7.out.size⟩
      have x4:w7.cell? ⟨sp,4,none⟩=some (.slice gA n gc):=HP7.out.cell 4
      have x3:w7.cell? ⟨sp,3,none⟩=some (.int .i64 (now:Int)):=HP7.out.cell 3
      clear hGC hgN
      go_upto_region 10 with fail
      refine Hl.wp_region_L 16 (S:=fun W=>W.cell? ⟨sp,4,none⟩=some (.slice gA n gc)∧W.cell? ⟨sp,3,none⟩=some (.int .i64 (now:Int))∧Blk W V1.heap.size 149 #[.string a.name,.int .i64 (kv:Int)]∧Blk W mb 90 cs) (by kernel_rfl) (by exact ⟨x4,x3,HKY7.out,HMB7.out⟩) (fun hHeld=>?_)
      refine Hl.wpAnyL_take (i:=0) (oi:=_) (v:=?v0L1) rfl (by kernel_rfl) (by kernel_rfl) (by kernel_rfl) (by kernel_rfl) (fun _ _ _ h=>h) (Or.inl ⟨by rfl,?y0L1⟩) (by assumption) ?r0L1
      case y0L1=>(intro w' hSw;(try dsimp only at hSw);(try simp only[kD,kB]);go_simp;try (with_reducible rfl))
      try simp only[Act.put,kE,kG,kF,kD,kB]
      refine Hl.wpAnyL_take (i:=1) (oi:=_) (v:=?v1L2) rfl (by kernel_rfl) (by kernel_rfl) (by kernel_rfl) (by kernel_rfl) (fun _ _ _ h=>h) (Or.inl ⟨by rfl,?y1L2⟩) (by assumption) ?r1L2
      case y1L2=>(intro w' hSw;(try dsimp only at hSw);(try simp only[kD,kB,kC]);go_simp;try (with_reducible rfl))
      try simp only[Act.put,kE,kG,kF,kD,kB,kC]
      refine Hl.wpAnyL_take (i:=2) (oi:=_) (v:=?v2L3) rfl (by kernel_rfl) (by kernel_rfl) (by kernel_rfl) (by kernel_rfl) (fun _ _ _ h=>h) (Or.inl ⟨by rfl,?y2L3⟩) (by assumption) ?r2L3
      case y2L3=>(intro w' hSw;(try dsimp only at hSw);(try simp only[kD,kB,kC]);go_simp;try (with_reducible rfl))
      try simp only[Act.put,kE,kG,kF,kD,kB,kC]
      refine Hl.wpAnyL_take (i:=3) (oi:=_) (v:=?v3L4) rfl (by kernel_rfl) (by kernel_rfl) (by kernel_rfl) (by kernel_rfl) (fun _ _ _ h=>h) (Or.inl ⟨by rfl,?y3L4⟩) (by assumption) ?r3L4
      case y3L4=>(intro w' hSw;(try dsimp only at hSw);(try simp only[kD,kB,kC]);go_simp;try (with_reducible rfl))
      try simp only[Act.put,kE,kG,kF,kD,kB,kC]
      refine Hl.wpAnyL_take (i:=4) (oi:=_) (v:=?v4L5) rfl (by kernel_rfl) (by kernel_rfl) (by kernel_rfl) (by kernel_rfl) (fun _ _ _ h=>h) (Or.inl ⟨by rfl,?y4L5⟩) (by assumption) ?r4L5
      case y4L5=>(intro w' hSw;have hx:=hSw.1;clear hSw;(try dsimp only at hSw);(try simp only[kD,kB,kC]);go_simp;try (with_reducible rfl))
      try simp only[Act.put,kE,kG,kF,kD,kB,kC]
      refine Hl.wpAnyL_take (i:=5) (oi:=_) (v := .agg #[.string a.name,.int .i64 (kv:Int)]) rfl (by kernel_rfl) (by kernel_rfl) (by kernel_rfl) (by kernel_rfl) (fun _ _ _ h=>h) (zcj (by rfl) 149 (.tmp 7) rfl V1.heap.size rfl #[.string a.name,.int .i64 (kv:Int)] 149 _ (fun W hW=>hW.2.2.1) Tryz.underlying149 rfl zzl) (by assumption) ?r5L6
      try simp only[Act.put,kE,kG,kF,kD,kB,kC]
      refine Hl.wpAnyL_take (i:=6) (oi:=_) (v := .agg cs) rfl (by kernel_rfl) (by kernel_rfl) (by kernel_rfl) (by kernel_rfl) (fun _ _ _ h=>h) (zcj (by rfl) 90 (.tmp 5) rfl mb rfl cs 90 _ (fun W hW=>hW.2.2.2) Tryz.underlying90 rfl (HMB.out.2.2.1.symm ▸ zba)) (by assumption) ?r6L7
      try simp only[Act.put,kE,kG,kF,kD,kB,kC]
      refine Hl.wpAnyL_take (i:=7) (oi:=_) (v:=?v7L8) rfl (by kernel_rfl) (by kernel_rfl) (by kernel_rfl) (by kernel_rfl) (fun _ _ _ h=>h) (Or.inl ⟨by rfl,?y7L8⟩) (by assumption) ?r7L8
      case y7L8=>(intro w' hSw;(try dsimp only at hSw);(try simp only[kD,kB,kC]);go_simp;try (with_reducible rfl))
      try simp only[Act.put,kE,kG,kF,kD,kB,kC]
      refine Hl.wpAnyL_take (i:=8) (oi:=_) (v:=?v8L9) rfl (by kernel_rfl) (by kernel_rfl) (by kernel_rfl) (by kernel_rfl) (fun _ _ _ h=>h) (Or.inl ⟨by rfl,?y8L9⟩) (by assumption) ?r8L9
      case y8L9=>(intro w' hSw;(try dsimp only at hSw);(try simp only[kD,kB,kC]);go_simp;try (with_reducible rfl))
      try simp only[Act.put,kE,kG,kF,kD,kB,kC]
      refine Hl.wpAnyL_take (i:=9) (oi:=_) (v:=?v9L10) rfl (by kernel_rfl) (by kernel_rfl) (by kernel_rfl) (by kernel_rfl) (fun _ _ _ h=>h) (Or.inl ⟨by rfl,?y9L10⟩) (by assumption) ?r9L10
      case y9L10=>(intro w' hSw;(try dsimp only at hSw);(try simp only[kD,kB,kC]);go_simp;try (with_reducible rfl))
      try simp only[Act.put,kE,kG,kF,kD,kB,kC]
      refine Hl.wpAnyL_take (i:=10) (oi:=_) (v:=?v10L11) rfl (by kernel_rfl) (by kernel_rfl) (by kernel_rfl) (by kernel_rfl) (fun _ _ _ h=>h) (Or.inl ⟨by rfl,?y10L11⟩) (by assumption) ?r10L11
      case y10L11=>(intro w' hSw;have hx:=hSw.2.1;clear hSw;(try dsimp only at hSw);(try simp only[kD,kB,kC]);go_simp;try (with_reducible rfl))
      try simp only[Act.put,kE,kG,kF,kD,kB,kC]
      refine Hl.wpAnyL_take (i:=11) (oi:=_) (v := .agg GC) rfl (by kernel_rfl) (by kernel_rfl) (by kernel_rfl) (by kernel_rfl) (fun _ _ _ h=>h) (ziq (by rfl) 152 _ rfl (by exact HBG.out)) (by assumption) ?r11L12
      try simp only[Act.put,kE,kG,kF,kD,kB,kC]
      refine Hl.wpAnyL_one (i:=12) (by kernel_rfl) rfl (fun K hK=>?_)
      refine zew w7.drew ?_ 114 (.tmp 77) ?_ 152 iG zG GC Tryz.underlying114 HIG.out HZ0G.out (HZ1G.out.trans HGZ.out.symm) (by rw[HGZ.out];decide) (by rw[HGZ.out];decide) ?_ ?_
      ·rfl
      ·rfl
      ·rfl
      refine hK.out _ _ (fun _=>by exact ⟨(World.cell?_alloc_lt _ _ _ HW7.out.1).trans x4,(World.cell?_alloc_lt _ _ _ HW7.out.1).trans x3,HKY7.out.alloc _,HMB7.out.alloc _⟩) (fun hHeld=>?_)
      replace hHeld:=hHeld (by decide)
      clear hK K
      try simp only[Act.put,kE,kG,kF,kD,kB,kC]
      refine Hl.wpAnyL_one (i:=13) (by kernel_rfl) rfl (fun K hK=>?_)
      refine step_append_lies ((w7.alloc (.cells GC 152)).drew) ?_ (.tmp 70) (.tmp 78) 114 ?_ B 152 iG zG 63 912 Tryz.underlying114 HIG.out HZ0G.out HZ1G.out HZ2G.out HZ3G.out (by decide) (.slice gA n gc) n ((gs.map cellsG).flatten) ?_ (HRW7.out) ⟨w7.heap.size,0,none⟩ 1 1 GC.toList ?_ (by rw[Array.length_toList,HGZ.out]) (za3 w7 152 GC) (HG1.out) (by decide) (by unfold maxLen;omega) (by omega) (by have h1:=HW7.out.2;have h2:=HBW.out;simp[World.size_drew];omega) (w7.heap.size+1) (by simp[World.size_drew]) ?_
      ·rfl
      ·rfl
      ·rfl
      ·rfl
      intro g8 c8 w8 hown8 hgrow8 hlie8 hlt8
      have HO8:=kA hown8
      have HLI8:=kA hlie8
      have HA8:Hid (Alt w7 w8 (fun k=>(Value.slice gA n gc).ownBlock=some k)):=kA (Alt.trans (Alt.drewN (Alt.alloc (Alt.refl w7 _) _) 1) (Alt.grow hgrow8) (fun _ _ h=>h))
      have HNS:Hid (¬ (Value.slice gA n gc).ownBlock=some sp):=kA (zai HRW7.out ((HP7.out.alloc _).drewN 1) (by decide))
      have q4:w8.cell? ⟨sp,4,none⟩=some (.slice gA n gc):=(World.cell?_of_block (HA8.out.block sp HP7.out.lt HNS.out)).trans x4
      have q3:w8.cell? ⟨sp,3,none⟩=some (.int .i64 (now:Int)):=(World.cell?_of_block (HA8.out.block sp HP7.out.lt HNS.out)).trans x3
      have f4:w8.frozen? ⟨sp,4,none⟩=false:=(World.frozen?_of_block (HA8.out.block sp HP7.out.lt HNS.out)).trans (HP7.out.frozen 4)
      have HKY8:=kA (HKY7.out.kept HA8.out (fun e=>zai HRW7.out ((HKY7.out.alloc _).drewN 1) (by decide) e))
      have HMB8:=kA (HMB7.out.kept HA8.out (fun e=>zai HRW7.out ((HMB7.out.alloc _).drewN 1) (by decide) e))
      clear hown8 hgrow8 hlie8 hlt8
      try simp only[Act.put,kE]
      refine hK.out _ _ (fun _=>by exact ⟨q4,q3,HKY8.out,HMB8.out⟩) (fun hHeld=>?_)
      replace hHeld:=hHeld (by decide)
      clear hK K
      try simp only[kG,kF,kD,kB,kC]
      refine Hl.wpAnyL_one (i:=14) (by kernel_rfl) rfl (fun K hK=>?_)
      try simp only[kD,kB,kC]
      go_simp
      refine hK.out _ _ (fun _=>by exact ⟨q4,q3,HKY8.out,HMB8.out⟩) (fun hHeld=>?_)
      replace hHeld:=hHeld (by decide)
      clear hK K
      try simp only[Act.put,kE,kG,kF,kD,kB,kC]
      refine Hl.wpAnyL_one (i:=15) (by kernel_rfl) rfl (fun K hK=>?_)
      try simp only[kD,kB,kC]
      go_simp
      refine hK.out _ _ (fun _=>by exact ⟨q4,q3,HKY8.out,HMB8.out⟩) (fun hHeld=>?_)
      replace hHeld:=hHeld (by decide)
      clear hK K
      try simp only[Act.put,kE,kG,kF,kD,kB,kC]
      refine Hl.wpAnyL_one (i:=16) (by kernel_rfl) rfl (fun K hK=>?_)
      try simp only[kD,kB,kC]
      go_simp
      refine hK.out _ _ (fun h=>(h rfl).elim) (fun _=>?_)
      clear hK K
      try simp only[Act.put,kE,kG,kF,kD,kB,kC]
      refine Hl.wpAnyL_done (by kernel_rfl) ?_ _
      go_wp2_with fail
      go_meet
      have ha9:Alt w7 (w8.setCell ⟨sp,4,none⟩ (.slice (some ⟨g8,0,none⟩) (n+1) c8)) (fun k=>(Value.slice gA n gc).ownBlock=some k∨k=sp):=Alt.set_ (a:=⟨sp,4,none⟩) (HA8.out.mono fun _ h => .inl h) (.inr rfl) _
      have hp9:Blk (w8.setCell ⟨sp,4,none⟩ (.slice (some ⟨g8,0,none⟩) (n+1) c8)) sp 116 (svC bk (Mo:Int) W now (some ⟨g8,0,none⟩) (n+1) c8):=(HP7.out.kept HA8.out HNS.out).set_ 4 _
      have hr9:(w8.setCell ⟨sp,4,none⟩ (.slice (some ⟨g8,0,none⟩) (n+1) c8)).ownsRow B 152 63 (.slice (some ⟨g8,0,none⟩) (n+1) c8) (n+1) ((gs.map cellsG).flatten++GC.toList):=zas HO8.out (Alt.set_ (p:=fun k=>k=sp) (a:=⟨sp,4,none⟩) (Alt.refl _ _) rfl _) (fun k hk e=>zai HO8.out (HP7.out.kept HA8.out HNS.out) (by decide) (by rw[← e];exact hk))
      have ha7:=HA7.out.kept ha9 (fun h=>h.elim (fun e=>zai HRW7.out ((HA7.out.alloc _).drewN 1) (by decide) e) (fun e=>Blk.ne_ HA7.out HP7.out (by decide) e))
      generalize w8.setCell ⟨sp,4,none⟩ (.slice (some ⟨g8,0,none⟩) (n+1) c8)=w9 at ha9 hp9 hr9 ha7 ⊢
      refine ⟨n,rfl,kA ⟨some ⟨g8,0,none⟩,c8,gs++[gN],gN,⟨?_,?_,?_,?_,?_,?_,?_,?_⟩,ha7⟩⟩
      ·rw[HN.out,kY (kJ _),Nat.sub_self];rfl
      ·rw[kI,qJ, ← HN.out];exact hp9
      ·have hts:∀ k,k<w7.heap.size→((Value.slice gA n gc).ownBlock=some k∨k=sp)→TS w7 k:=by
        rintro k hk (e|e)
        ·have h1:=HS7.out.row
         unfold GRow at h1
         rcases h1.2 with ⟨e1,_⟩|⟨g',cap,cur,e1,_,hh,_⟩
         ·rw[e1] at e;cases e
         ·rw[e1] at e
          have e3:g'=k:=by simpa [Value.ownBlock] using e
          rw[← e3]
          exact .inr ⟨_,_,_,hh,.inr (.inl rfl)⟩
        ·rw[e];exact .inr ⟨_,_,_,HP7.out,.inl rfl⟩
       refine ⟨?_,fun g hg=>?_,?_⟩
       ·unfold GRow
        rw[kI,qJ, ← HN.out,kL,qQ]
        rw[HGC.out] at hr9
        simpa using hr9
       ·rcases kU.1 hg with hg|hg
        ·have hok:=HS7.out.ok g hg
         refine hok.alt HA.out.st ha9 hts (fun k hk e=>?_)
         rcases e with e|e
         ·exact zbu hok.row HS7.out.row (by decide) k hk e
         ·exact zai hok.row HP7.out (by decide) (by rw[← e];exact hk)
        ·rw[kP.1 hg,HGN1.out]
         exact ⟨HMB.out.2.2.1,HMB.out.2.2.2,HA.out.st _ _ _ _ _ HPM7.out ha9 hts,HMS.out,World.ownsRow_nil _ _ _ _,(fun r hr=>by cases hr)⟩
       ·refine List.pairwise_append.2 ⟨HS7.out.ap,List.pairwise_singleton _ _,fun x _ y hy k hk=>?_⟩
        rw[kP.1 hy,HGN1.out]
        exact fun e=>by cases e
      ·exact (alt_of_below (p:=fun k=>k=sp∨Gb (.slice gA n gc) gs k) HBW7.out).trans ha9 (fun k _ e=>e.elim (fun h => .inr (.inl h)) .inl)
      ·rintro k (hk|⟨g,hg,hk⟩)
       ·have hk':g8=k:=by simpa [Value.ownBlock] using hk
        rw[← hk']
        rcases HLI8.out with h1|h1
        ·exact .inl (.inl h1)
        ·exact .inr (by have:=HW7.out.2;omega)
       ·rcases kU.1 hg with hg|hg
        ·exact .inl (.inr ⟨g,hg,hk⟩)
        ·rw[kP.1 hg,HGN1.out] at hk
         cases hk
      ·rw[kI,qJ, ← HN.out];omega
      ·intro x hx
       rcases kU.1 hx with hx|hx
       ·exact HRL.out x hx
       ·rw[kP.1 hx,HGN1.out];exact kX _
      ·have h1:(gs.map Gp.p)[findP a.name kv (gs.map Gp.p)]? = none:=by
        rw[zpj, ← HF.out,List.getElem?_eq_none_iff,kN, ← HN.out]
        omega
       rw[zue h1,kN,kL, ← HN.out,HGN1.out]
       rfl
    case rest =>
     obtain ⟨j,rfl,hmid⟩:=hcut
     obtain ⟨gA2,gc2,gs2,g,hmd,hac⟩:=hmid.out
     have HMD:=kA hmd
     have HACT:=kA hac
     obtain ⟨n2,hn2⟩:∃ n2,n2=gs2.length:=⟨_,rfl⟩
     have HN2:=kA hn2
     have hjn:j<n2:=by rw[hn2];exact (kK.1 hmd.gj).1
     have hgm:g∈gs2:=by obtain ⟨h1,h2⟩:=kK.1 hmd.gj;rw[← h2];exact List.getElem_mem h1
     have HGM:=kA hgm
     obtain ⟨ga,gc',hav,_,_⟩:=World.ownsRow.form hmd.sg.row (by rw[← hn2];omega)
     obtain ⟨rfl,_⟩:gA2=some ⟨ga,0,none⟩∧True:=by injection hav with e;exact ⟨e,trivial⟩
     have HGRW:Hid (wc.ownsRow B 152 63 (.slice (some ⟨ga,0,none⟩) n2 gc2) n2 ((gs2.map cellsG).flatten)):=kA (by rw[hn2];exact hmd.sg.row)
     have HSV:Hid (Blk wc sp 116 (svC bk (Mo:Int) W now (some ⟨ga,0,none⟩) n2 gc2)):=kA (by rw[hn2];exact hmd.sv)
     have HGOK:=kA (hmd.sg.ok g hgm)
     have HCELL:Hid (∀ t u,(cellsG g)[t]? = some u→wc.cell? ⟨ga,j*63+t,none⟩=some u):=kA (fun t u hu=>by
      have h1:=HGRW.out.cells (g:=ga) rfl (j*63+t) u (zq0 gs2 j t u (fun x hx=>(hmd.sg.ok x hx).sz) hmd.gj hu)
      rw[add0] at h1
      exact h1)
     obtain ⟨cur,hcur⟩:∃ cur,Blk wc ga 152 cur:=by
      rcases hmd.sg.row.2 with ⟨e,_⟩|⟨g'',cap,cur,e,_,hh,_⟩
      ·cases e
      ·injection e with e1
       injection e1 with e1
       injection e1 with e1
       subst e1
       exact ⟨cur,hh⟩
     have HCUR:=kA hcur
     have hm9:g.rs.length≤990:=hmd.rl g hgm
     obtain ⟨m,hm⟩:∃ m,m=g.rs.length:=⟨_,rfl⟩
     rw[← hm] at hm9
     have HM:=kA hm
     have HRG:Hid (wc.ownsRow B 176 2 (.slice g.aA m g.ac) m ((g.rs.map cellsR).flatten)):=kA (by rw[hm];exact (hmd.sg.ok g hgm).row)
     have HRWC:Hid (wc.ownsRow 0 124 7 (.slice a.cA a.cn a.cc) a.cn xs):=kA (zas HRW.out hmd.al (fun k hk hp=>by
      rcases hp with e|e|⟨x,hx,e⟩
      ·exact zai HRW.out HPT.out (by decide) (by rw[← e];exact hk)
      ·exact zbu HRW.out HSG.out.row (by decide) k hk e
      ·exact zbu HRW.out (HSG.out.ok x hx).row (by decide) k hk e))
     have HSA:Hid (∀ W,Alt wc W (fun k=>g.av.ownBlock=some k)→W.cell? ⟨ga,j*63+62,none⟩=some (.slice g.aA m g.ac)∧W.cell? ⟨w.heap.size,1,none⟩=some (.int .i64 a.id)∧W.cell? ⟨w.heap.size,6,none⟩=some (.slice a.cA a.cn a.cc)):=kA (fun W hW=>by
      have h1:=HACT.out.kept hW (fun e=>zai HGOK.out.row HACT.out (by decide) e)
      refine ⟨?_,(h1.cell 1).trans HC1.out,(h1.cell 6).trans HC6.out⟩
      rw[World.cell?_of_block (hW.block ga HCUR.out.lt (fun e=>zai HGOK.out.row HCUR.out (by decide) e)),HM.out]
      exact HCELL.out 62 _ (zdu HGOK.out.sz))
     have HSH:Hid (∀ W,Below wc.heap.size wc W→W.cell? ⟨ga,j*63+62,none⟩=some (.slice g.aA m g.ac)∧W.cell? ⟨w.heap.size,1,none⟩=some (.int .i64 a.id)∧W.cell? ⟨w.heap.size,6,none⟩=some (.slice a.cA a.cn a.cc)):=kA (fun W hW=>HSA.out W (alt_of_below hW))
     have HFR:Hid (∀ W,Alt wc W (fun k=>g.av.ownBlock=some k)→W.frozen? ⟨ga,j*63+62,none⟩=false):=kA (fun W hW=>(World.frozen?_of_block (hW.block ga HCUR.out.lt (fun e=>zai HGOK.out.row HCUR.out (by decide) e))).trans (HCUR.out.frozen _))
     have HBWS:Hid (w.heap.size≤wc.heap.size):=kA hmd.al.size
     clear hmid hmd hac hn2 hgm hav hcur hm
     have y4:wc.cell? ⟨sp,4,none⟩=some (.slice (some ⟨ga,0,none⟩) n2 gc2):=HSV.out.cell 4
     have hjn':(j:Int)<(n2:Int):=by omega
     go_upto_region 12 with fail
     obtain ⟨iR,zR0,hi0,hz0,hz1,hz2,hz3⟩:=zwi
     have HIR:=kA hi0
     have HZ0R:=kA hz0
     have HZ1R:=kA hz1
     have HZ2R:=kA hz2
     have HZ3R:=kA hz3
     clear y4 hjn' hi0 hz0 hz1 hz2 hz3
     refine Hl.wp_region_L 15 (S:=fun W=>W.cell? ⟨ga,j*63+62,none⟩=some (.slice g.aA m g.ac)∧W.cell? ⟨w.heap.size,1,none⟩=some (.int .i64 a.id)∧W.cell? ⟨w.heap.size,6,none⟩=some (.slice a.cA a.cn a.cc)) (by kernel_rfl) (by exact HSH.out wc.drew (Below.refl _ wc).drew) (fun hHeld=>?_)
     refine Hl.wpAnyL_take (i:=0) (oi:=_) (v:=?v0L13) rfl (by kernel_rfl) (by kernel_rfl) (by kernel_rfl) (by kernel_rfl) (fun _ _ _ h=>h) (Or.inl ⟨by rfl,?y0L13⟩) (by assumption) ?r0L13
     case y0L13=>(intro w' hSw;(try dsimp only at hSw);(try simp only[kD,kB]);go_simp;try (with_reducible rfl))
     try simp only[Act.put,kE,kG,kF,kD,kB]
     refine Hl.wpAnyL_take (i:=1) (oi:=_) (v:=?v1L14) rfl (by kernel_rfl) (by kernel_rfl) (by kernel_rfl) (by kernel_rfl) (fun _ _ _ h=>h) (Or.inl ⟨by rfl,?y1L14⟩) (by assumption) ?r1L14
     case y1L14=>(intro w' hSw;(try dsimp only at hSw);(try simp only[kD,kB,kC]);go_simp;try (with_reducible rfl))
     try simp only[Act.put,kE,kG,kF,kD,kB,kC]
     refine Hl.wpAnyL_take (i:=2) (oi:=_) (v:=?v2L15) rfl (by kernel_rfl) (by kernel_rfl) (by kernel_rfl) (by kernel_rfl) (fun _ _ _ h=>h) (Or.inl ⟨by rfl,?y2L15⟩) (by assumption) ?r2L15
     case y2L15=>(intro w' hSw;(try dsimp only at hSw);(try simp only[kD,kB,kC]);go_simp;try (with_reducible rfl))
     try simp only[Act.put,kE,kG,kF,kD,kB,kC]
     refine Hl.wpAnyL_take (i:=3) (oi:=_) (v:=?v3L16) rfl (by kernel_rfl) (by kernel_rfl) (by kernel_rfl) (by kernel_rfl) (fun _ _ _ h=>h) (Or.inl ⟨by rfl,?y3L16⟩) (by assumption) ?r3L16
     case y3L16=>(intro w' hSw;(try dsimp only at hSw);(try simp only[kD,kB,kC]);go_simp;try (with_reducible rfl))
     try simp only[Act.put,kE,kG,kF,kD,kB,kC]
     refine Hl.wpAnyL_take (i:=4) (oi:=_) (v:=?v4L17) rfl (by kernel_rfl) (by kernel_rfl) (by kernel_rfl) (by kernel_rfl) (fun _ _ _ h=>h) (Or.inl ⟨by rfl,?y4L17⟩) (by assumption) ?r4L17
     case y4L17=>(intro w' hSw;have hx:=hSw.1;clear hSw;(try dsimp only at hSw);(try simp only[kD,kB,kC]);go_simp;try (with_reducible rfl))
     try simp only[Act.put,kE,kG,kF,kD,kB,kC]
     refine Hl.wpAnyL_take (i:=5) (oi:=_) (v:=?v5L18) rfl (by kernel_rfl) (by kernel_rfl) (by kernel_rfl) (by kernel_rfl) (fun _ _ _ h=>h) (Or.inl ⟨by rfl,?y5L18⟩) (by assumption) ?r5L18
     case y5L18=>(intro w' hSw;(try dsimp only at hSw);(try simp only[kD,kB,kC]);go_simp;try (with_reducible rfl))
     try simp only[Act.put,kE,kG,kF,kD,kB,kC]
     refine Hl.wpAnyL_take (i:=6) (oi:=_) (v:=?v6L19) rfl (by kernel_rfl) (by kernel_rfl) (by kernel_rfl) (by kernel_rfl) (fun _ _ _ h=>h) (Or.inl ⟨by rfl,?y6L19⟩) (by assumption) ?r6L19
     case y6L19=>(intro w' hSw;have hx:=hSw.2.1;clear hSw;(try dsimp only at hSw);(try simp only[kD,kB,kC]);go_simp;try (with_reducible rfl))
     try simp only[Act.put,kE,kG,kF,kD,kB,kC]
     refine Hl.wpAnyL_take (i:=7) (oi:=_) (v:=?v7L20) rfl (by kernel_rfl) (by kernel_rfl) (by kernel_rfl) (by kernel_rfl) (fun _ _ _ h=>h) (Or.inl ⟨by rfl,?y7L20⟩) (by assumption) ?r7L20
     case y7L20=>(intro w' hSw;(try dsimp only at hSw);(try simp only[kD,kB,kC]);go_simp;try (with_reducible rfl))
     try simp only[Act.put,kE,kG,kF,kD,kB,kC]
     refine Hl.wpAnyL_take (i:=8) (oi:=_) (v:=?v8L21) rfl (by kernel_rfl) (by kernel_rfl) (by kernel_rfl) (by kernel_rfl) (fun _ _ _ h=>h) (Or.inl ⟨by rfl,?y8L21⟩) (by assumption) ?r8L21
     case y8L21=>(intro w' hSw;have hx:=hSw.2.2;clear hSw;(try dsimp only at hSw);(try simp only[kD,kB,kC]);go_simp;try (with_reducible rfl))
     try simp only[Act.put,kE,kG,kF,kD,kB,kC]
     refine Hl.wpAnyL_one (i:=9) (by kernel_rfl) rfl (fun K hK=>?_)
     try simp only[kD,kB,kC]
     go_simp
     go_at_call 44
     refine (zfm (show World.ownsRow wc.drew 0 _ _ _ _ _ from HRWC.out) HX1.out HCN.out).mono ?_
     rintro e wd ⟨cA',cc',rfl,hod,hbd⟩
     have HOD:=kA (zau hod (kX _))
     have HBD:Hid (Below wc.heap.size wc wd):=kA ((Below.refl _ wc).drew.trans (hbd.mono (kJ _)))
     clear hod hbd
     refine hK.out _ _ (fun _=>HSH.out wd HBD.out) (fun hHeld=>?_)
     replace hHeld:=hHeld (by decide)
     clear hK K
     try simp only[Act.put,kE,kG,kF,kD,kB,kC]
     refine Hl.wpAnyL_take (i:=10) (oi:=_) (v:=?v10L22) rfl (by kernel_rfl) (by kernel_rfl) (by kernel_rfl) (by kernel_rfl) (fun _ _ _ h=>h) (Or.inl ⟨by rfl,?y10L22⟩) (by assumption) ?r10L22
     case y10L22=>(intro w' hSw;(try dsimp only at hSw);(try simp only[kD,kB,kC]);go_simp;try (with_reducible rfl))
     try simp only[Act.put,kE,kG,kF,kD,kB,kC]
     refine Hl.wpAnyL_one (i:=11) (by kernel_rfl) rfl (fun K hK=>?_)
     refine zew wd ?_ 150 (.tmp 98) ?_ 176 iR zR0 #[.int .i64 a.id,.slice cA' a.cn cc'] Tryz.underlying150 HIR.out HZ0R.out HZ1R.out (by simp) (by simp) ?_ ?_
     ·rfl
     ·rfl
     ·rfl
     refine hK.out _ _ (fun _=>HSH.out _ (HBD.out.alloc HBD.out.size _)) (fun hHeld=>?_)
     replace hHeld:=hHeld (by decide)
     clear hK K
     try simp only[Act.put,kE,kG,kF,kD,kB,kC]
     refine Hl.wpAnyL_one (i:=12) (by kernel_rfl) rfl (fun K hK=>?_)
     refine step_append_lies (wd.alloc (.cells #[.int .i64 a.id,.slice cA' a.cn cc'] 176)) ?_ (.tmp 92) (.tmp 99) 150 ?_ B 176 iR zR0 2 iR.bytes Tryz.underlying150 HIR.out HZ0R.out HZ1R.out rfl HZ3R.out (by decide) (.slice g.aA m g.ac) m ((g.rs.map cellsR).flatten) ?_ (zad HRG.out (HBD.out.alloc HBD.out.size _)) ⟨wd.heap.size,0,none⟩ 1 1 [.int .i64 a.id,.slice cA' a.cn cc'] ?_ rfl (za3 wd 176 #[.int .i64 a.id,.slice cA' a.cn cc']) (fun u hu=>by simp only[List.mem_cons,List.mem_nil_iff,or_false] at hu;rcases hu with rfl|rfl <;> rfl) (by decide) (by unfold maxLen;omega) (by have:=HZ2R.out;have:=Nat.mul_le_mul (show m+1≤1000 by omega) HZ2R.out;omega) (by have h1:=HBD.out.size;have h2:=HBWS.out;have h3:=HBW.out;simp;omega) (wd.heap.size+1) (by simp) ?_
     ·rfl
     ·rfl
     ·rfl
     ·rfl
     intro g12 c12 we howne hgrowe hliee hlte
     have HOE:=kA howne
     have HLIE:=kA hliee
     have HAE:Hid (Alt wc we (fun k=>g.av.ownBlock=some k)):=kA (Alt.trans (alt_of_below (p:=fun k=>g.av.ownBlock=some k) (HBD.out.alloc HBD.out.size _)) (Alt.grow hgrowe) (fun k _ h=>by rw[HM.out] at h;exact h))
     have HAD:Hid (Alt wd we (fun k=>g.av.ownBlock=some k)):=kA (Alt.trans (alt_of_below (p:=fun k=>g.av.ownBlock=some k) (Below.new1 wd _)) (Alt.grow hgrowe) (fun k _ h=>by rw[HM.out] at h;exact h))
     have HSE:=kA (HSA.out we HAE.out)
     have fe:we.frozen? ⟨ga,j*63+62,none⟩=false:=HFR.out we HAE.out
     obtain ⟨s0,s1,s2⟩:=HSE.out
     clear howne hgrowe hliee hlte
     try simp only[Act.put,kE]
     refine hK.out _ _ (fun _=>HSE.out) (fun hHeld=>?_)
     replace hHeld:=hHeld (by decide)
     clear hK K
     try simp only[kG,kF,kD,kB,kC]
     refine Hl.wpAnyL_one (i:=13) (by kernel_rfl) rfl (fun K hK=>?_)
     try simp only[kD,kB,kC]
     go_simp
     refine hK.out _ _ (fun _=>HSE.out) (fun hHeld=>?_)
     replace hHeld:=hHeld (by decide)
     clear hK K
     try simp only[Act.put,kE,kG,kF,kD,kB,kC]
     refine Hl.wpAnyL_one (i:=14) (by kernel_rfl) rfl (fun K hK=>?_)
     try simp only[kD,kB,kC]
     go_simp
     refine hK.out _ _ (fun _=>HSE.out) (fun hHeld=>?_)
     replace hHeld:=hHeld (by decide)
     clear hK K
     try simp only[Act.put,kE,kG,kF,kD,kB,kC]
     refine Hl.wpAnyL_one (i:=15) (by kernel_rfl) rfl (fun K hK=>?_)
     try simp only[kD,kB,kC]
     go_simp
     refine hK.out _ _ (fun h=>(h rfl).elim) (fun _=>?_)
     clear hK K
     try simp only[Act.put,kE,kG,kF,kD,kB,kC]
     refine Hl.wpAnyL_done (by kernel_rfl) ?_ _
     obtain ⟨rN,hrN⟩:∃ r:Rq,r=⟨a.id,cA',a.cn,cc',xs⟩:=⟨_,rfl⟩
     obtain ⟨g',hg'⟩:∃ x:Gp,x={ g with aA:=some ⟨g12,0,none⟩,ac:=c12,rs:=g.rs++[rN] }:=⟨_,rfl⟩
     have HRN:=kA hrN
     have HGP:=kA hg'
     have hav':g'.av = .slice (some ⟨g12,0,none⟩) (m+1) c12:=by rw[hg',HM.out];simp
     have hl':g'.rs.length=m+1:=by rw[hg',HM.out];simp
     have htsk:∀ k,k<wc.heap.size→g.av.ownBlock=some k→TS wc k:=fun k hk e=>by
      rcases HGOK.out.row.2 with ⟨e1,_⟩|⟨q,cap,cur,e1,_,hh,_⟩
      ·rw[e1] at e;cases e
      ·rw[e1] at e
       have e3:q=k:=by simpa [Value.ownBlock] using e
       rw[← e3]
       exact .inr ⟨_,_,_,hh,.inr (.inr (.inl rfl))⟩
     have hgk:GpOk PR M Cq we B g':=by
      have h0:=HGOK.out
      refine ⟨by rw[hg'];exact h0.sz,by rw[hg'];exact h0.one,by rw[hg'];exact HA.out.st _ _ _ _ _ h0.md HAE.out htsk,by rw[hg'];exact h0.m,?_,?_⟩
      ·rw[hav',hl']
       have h1:=HOE.out
       have e:(g'.rs.map cellsR).flatten=(g.rs.map cellsR).flatten++[.int .i64 a.id,.slice cA' a.cn cc']:=by rw[hg',hrN];simp[cellsR]
       rw[e]
       exact h1
      ·intro r hr
       rw[hg'] at hr
       rcases kU.1 hr with hr|hr
       ·exact (h0.rq r hr).ks HAE.out htsk
       ·rw[kP.1 hr,hrN]
        exact ⟨HCQ.out,zas HOD.out HAD.out (fun k hk e=>zbu HOD.out (zad HRG.out HBD.out) (by decide) k hk (by rw[HM.out];exact e))⟩
     have HSG3:Hid (SG PR M Cq (we.setCell ⟨ga,j*63+62,none⟩ (.slice (some ⟨g12,0,none⟩) (m+1) c12)) B (.slice (some ⟨ga,0,none⟩) n2 gc2) (gs2.set j g')):=kA (by
      rw[← hav']
      refine SG.set HA.out.st (j:=j) (g:=g) ?_ HMD.out.sg.ap (fun x hx=>(HMD.out.sg.ok x hx).sz) HMD.out.gj (fun i x hi hne=>?_) hgk (by rw[hg']) (by rw[hg']) (by rw[hg']) (by rw[hg']) (fun k hk=>?_)
      ·have h1:=zas HGRW.out HAE.out (fun k hk e=>zbu HGOK.out.row HGRW.out (by decide) k e hk)
       rw[HN2.out] at h1 ⊢
       exact h1
      ·have hx:=HMD.out.sg.ok x (by obtain ⟨h1,h2⟩:=kK.1 hi;rw[← h2];exact List.getElem_mem h1)
       exact hx.alt HA.out.st HAE.out htsk (fun k hk=>HMD.out.sg.ap.ne hi HMD.out.gj hne k hk)
      ·rw[hav'] at hk
       have hk':g12=k:=by simpa [Value.ownBlock] using hk
       rw[← hk']
       rcases HLIE.out with h1|h1
       ·exact .inl (by rw[HM.out] at h1;exact h1)
       ·refine .inr fun x hx e=>?_
        have h2:=zd9 (HMD.out.sg.ok x hx).row g12 e
        have h3:=HBD.out.size
        omega)
     have hsvk:Blk we sp 116 (svC bk (Mo:Int) W now (some ⟨ga,0,none⟩) n2 gc2):=HSV.out.kept HAE.out (fun e=>zai HGOK.out.row HSV.out (by decide) e)
     have hsg:sp≠ga:=Blk.ne_ HSV.out HCUR.out (by decide)
     have HSV3:Hid (Blk (we.setCell ⟨ga,j*63+62,none⟩ (.slice (some ⟨g12,0,none⟩) (m+1) c12)) sp 116 (svC bk (Mo:Int) W now (some ⟨ga,0,none⟩) n2 gc2)):=kA (hsvk.kept (Alt.set_ (p:=fun k=>k=ga) (a:=⟨ga,j*63+62,none⟩) (Alt.refl _ _) rfl _) hsg)
     have HAL3:Hid (Alt w (we.setCell ⟨ga,j*63+62,none⟩ (.slice (some ⟨g12,0,none⟩) (m+1) c12)) (fun k=>k=sp∨Gb (.slice gA n gc) gs k)):=kA (by
      have h1:Alt wc (we.setCell ⟨ga,j*63+62,none⟩ (.slice (some ⟨g12,0,none⟩) (m+1) c12)) (fun k=>g.av.ownBlock=some k∨k=ga):=Alt.set_ (a:=⟨ga,j*63+62,none⟩) (HAE.out.mono fun _ h => .inl h) (.inr rfl) _
      refine Alt.trans HMD.out.al h1 (fun k hk e=>?_)
      have h2:Gb (.slice (some ⟨ga,0,none⟩) gs2.length gc2) gs2 k:=by
       rcases e with e|e
       ·exact .inr ⟨g,HGM.out,e⟩
       ·rw[e];exact .inl rfl
      rcases HMD.out.own k h2 with h3|h3
      ·exact .inr h3
      ·omega)
     have hgb3:Blk we ga 152 cur:=HCUR.out.kept HAE.out (fun e=>zai HGOK.out.row HCUR.out (by decide) e)
     have x62:(we.setCell ⟨ga,j*63+62,none⟩ (.slice (some ⟨g12,0,none⟩) (m+1) c12)).cell? ⟨ga,j*63+62,none⟩=some (.slice (some ⟨g12,0,none⟩) (m+1) c12):=by
      have h1:=hgb3.set_ (j*63+62) (.slice (some ⟨g12,0,none⟩) (m+1) c12)
      rw[h1.cell,Array.getElem?_setIfInBounds_self]
      have h2:=(hgb3.cell (j*63+62)).symm.trans s0
      rw[kZ (Array.getElem?_eq_some_iff.1 h2).1]
     have HEQ:=kA HMD.out.eq
     have HOWN:Hid (∀ k,k<w.heap.size→k=ga→k=sp∨Gb (.slice gA n gc) gs k):=kA (fun k hk e=>by
      rcases HMD.out.own k (by rw[e];exact .inl rfl) with h3|h3
      ·exact .inr h3
      ·omega)
     have HRL2:Hid (∀ x∈gs2.set j g',x.rs.length≤1000):=kA (fun x hx=>by
      rcases List.mem_or_eq_of_mem_set hx with hx|rfl
      ·exact kH (HMD.out.rl x hx) (by decide)
      ·rw[hl'];omega)
     have HLN:=kA HMD.out.ln
     have HGJ:=kA HMD.out.gj
     have hx1:(we.setCell ⟨ga,j*63+62,none⟩ (.slice (some ⟨g12,0,none⟩) (m+1) c12)).cell? ⟨sp,1,none⟩=some (.int .i64 (Mo:Int)):=HSV3.out.cell 1
     have HAVL:=kA (And.intro hav' hl')
     clear hrN hg' hav' hl' htsk hgk hsvk hsg hgb3 s0 s1 s2 fe hHeld HMD HSH HSA HFR HOE HOD HAE HAD HSE HLIE HBD HRG
     generalize we.setCell ⟨ga,j*63+62,none⟩ (.slice (some ⟨g12,0,none⟩) (m+1) c12)=w13 at HSG3 HSV3 HAL3 x62 hx1 ⊢
     have HFP:Hid ((m+1<Mo→askF ans Mo now (⟨a.id,xs⟩:Pq) (gs2.map Gp.p) j g.p=((gs2.map Gp.p).set j { g.p with rs:=g.p.rs++[(⟨a.id,xs⟩:Pq)] },[]))∧(¬ m+1<Mo→askF ans Mo now (⟨a.id,xs⟩:Pq) (gs2.map Gp.p) j g.p=((gs2.map Gp.p).eraseIdx j,(g.p.rs++[(⟨a.id,xs⟩:Pq)]).map (tdP ans (g.p.ver:Int) (now:Int) g.p.ms)))∧g'.p={ g.p with rs:=g.p.rs++[(⟨a.id,xs⟩:Pq)] }):=kA (by
      have e:g.p.rs.length=m:=by rw[HM.out];exact kN _
      refine ⟨fun h=>?_,fun h=>?_,?_⟩
      ·unfold askF;rw[kZ (by rw[e];exact h)]
      ·unfold askF;rw[kT (by rw[e];exact h)]
      ·rw[HGP.out,HRN.out];simp[Gp.p,Rq.p])
     by_cases hfull:m+1<Mo
     ·have hd:decide (((m:Int)+1)<(Mo:Int))=true:=kW (by omega)
      have hd2:decide (((m+1:Nat):Int)<(Mo:Int))=true:=kW (by omega)
      go_upto_region 13 with fail
      go_region_held3 (fun w'=>w'.cell? ⟨ga,j*63+62,none⟩=some (.slice (some ⟨g12,0,none⟩) (m+1) c12)∧w'.cell? ⟨sp,1,none⟩=some (.int .i64 (Mo:Int))) (simp[*]) (first|(go_at_call 9999))
      go_wp2_with fail
      go_ret
      have hsg4:=SG.below HA.out.st HSG3.out (Below.refl w13.heap.size w13).drew
      refine Or.inr ⟨rfl,.slice none 0 0,some ⟨ga,0,none⟩,gc2,gs2.set j g',rfl,?_,?_,?_,?_,?_⟩
      ·rw[HEQ.out,HFP.out.1 hfull,List.map_set,HFP.out.2.2]
      ·rw[HEQ.out,HFP.out.1 hfull]
       exact World.ownsRow_nil _ _ _ _
      ·rw[List.length_set, ← HN2.out];exact HSV3.out
      ·rw[List.length_set, ← HN2.out];exact hsg4
      ·have h0:=HAL3.out.drewN 1
       rw[HN.out] at h0
       exact h0
     ·have hd:decide (((m:Int)+1)<(Mo:Int))=false:=kQ (by omega)
      have hd2:decide (((m+1:Nat):Int)<(Mo:Int))=false:=kQ (by omega)
      go_upto_region 13 with fail
      go_region_held3 (fun w'=>w'.cell? ⟨ga,j*63+62,none⟩=some (.slice (some ⟨g12,0,none⟩) (m+1) c12)∧w'.cell? ⟨sp,1,none⟩=some (.int .i64 (Mo:Int))) (simp[*]) (first|(go_at_call 9999))
      have HSG4:Hid (SG PR M Cq w13.drew B (.slice (some ⟨ga,0,none⟩) n2 gc2) (gs2.set j g')):=kA (SG.below HA.out.st HSG3.out (Below.refl w13.heap.size w13).drew)
      have HSV4:Hid (Blk w13.drew sp 116 (svC bk (Mo:Int) W now (some ⟨ga,0,none⟩) n2 gc2)):=kA HSV3.out
      have HAL4:Hid (Alt w w13.drew (fun k=>k=sp∨Gb (.slice gA n gc) gs k)):=kA (HAL3.out.drewN 1)
      go_upto_region 15 with fail
      have HW14:Hid (w.heap.size≤w13.drew.heap.size):=kA HAL4.out.size
      clear hd hd2 x62 hx1 HSG3 HSV3 HAL3
      generalize w13.drew=w14 at HSG4 HSV4 HAL4 HW14 ⊢
      obtain ⟨GD,hGD⟩:∃ x,x=(cellsG g').toArray:=⟨_,rfl⟩
      have HGJ3:Hid ((gs2.set j g')[j]? = some g'):=kA (List.getElem?_set_self (by rw[← HN2.out];exact hjn))
      have HMEM:Hid (g'∈gs2.set j g'):=kA (qH HGJ3.out)
      have HOK4:=kA (HSG4.out.ok g' HMEM.out)
      have HRA:Hid (∀ V,Below w14.heap.size w14 V→V.rangeAt ga (j*63) GD.toList):=kA (fun V hV t u hu=>by
       have h1:=(zad HSG4.out.row hV).cells (g:=ga) rfl (j*63+t) u (zq0 _ j t u (fun x hx=>(HSG4.out.ok x hx).sz) HGJ3.out (by rw[hGD] at hu;simpa using hu))
       rw[add0] at h1
       exact h1)
      have HGZ4:Hid (GD.size=63):=kA (by rw[hGD];simpa using zbv HOK4.out.sz)
      have HNW:Hid (∀ V,Below w14.heap.size w14 V→V.cell? ⟨sp,3,none⟩=some (.int .i64 (now:Int))):=kA (fun V hV=>(zab HSV4.out hV).cell 3)
      have HANS:Hid (∀ V,Below w14.heap.size w14 V→Calls Tryz.prog 34 #[.agg GD,.int .i64 (now:Int)] V fun e w'=>∃ b c,e = .returned (.slice (some ⟨b,0,none⟩) (m+1) c)∧TRow w' V.heap.size (.slice (some ⟨b,0,none⟩) (m+1) c) (g'.rs.map (tdOf ans (g'.ver:Int) (now:Int) g'.ms))∧Below V.heap.size V w'):=kA (fun V hV=>by
       have h1:=zjh HA.out (w:=V) (HOK4.out.below HA.out.st hV) (HRL2.out g' HMEM.out) (now:Int)
       rw[← hGD,HAVL.out.2] at h1
       exact h1)
      clear hGD
      refine wp_region_held_drew (S:=fun V=>Below w14.heap.size w14 V) (by kernel_rfl) (Below.refl _ w14).drew (fun hHeld=>?_)
      refine wpAnyH_take (i:=0) (oi:=_) (v:=?v0z) rfl (by kernel_rfl) (by kernel_rfl) (by kernel_rfl) (fun _ _ _ h=>h) (Or.inl ⟨by rfl,?y0z⟩) (by assumption) ?r0z
      case y0z=>(intro w' hSw;(try dsimp only at hSw);(try simp only[kD,kB]);go_simp;try (with_reducible rfl))
      try simp only[Act.put,kE,kG,kF,kD,kB]
      refine wpAnyH_take (i:=1) (oi:=_) (v:=?v1z) rfl (by kernel_rfl) (by kernel_rfl) (by kernel_rfl) (fun _ _ _ h=>h) (Or.inl ⟨by rfl,?y1z⟩) (by assumption) ?r1z
      case y1z=>(intro w' hSw;(try dsimp only at hSw);(try simp only[kD,kB,kC]);go_simp;try (with_reducible rfl))
      try simp only[Act.put,kE,kG,kF,kD,kB,kC]
      refine wpAnyH_take (i:=2) (oi:=_) (v := .agg GD) rfl (by kernel_rfl) (by kernel_rfl) (by kernel_rfl) (fun _ _ _ h=>h) (ze7 (by rfl) 152 (.tmp 115) rfl ga (j*63) rfl GD _ (fun W hW=>HRA.out W hW) Tryz.underlying152 rfl (HGZ4.out.symm ▸ zct)) (by assumption) ?r2z
      try simp only[Act.put,kE,kG,kF,kD,kB,kC]
      refine wpAnyH_take (i:=3) (oi:=_) (v:=?v3z) rfl (by kernel_rfl) (by kernel_rfl) (by kernel_rfl) (fun _ _ _ h=>h) (Or.inl ⟨by rfl,?y3z⟩) (by assumption) ?r3z
      case y3z=>(intro w' hSw;(try dsimp only at hSw);(try simp only[kD,kB,kC]);go_simp;try (with_reducible rfl))
      try simp only[Act.put,kE,kG,kF,kD,kB,kC]
      refine wpAnyH_take (i:=4) (oi:=_) (v:=?v4z) rfl (by kernel_rfl) (by kernel_rfl) (by kernel_rfl) (fun _ _ _ h=>h) (Or.inl ⟨by rfl,?y4z⟩) (by assumption) ?r4z
      case y4z=>(intro w' hSw;(try dsimp only at hSw);(try simp only[kD,kB,kC]);go_simp;try (with_reducible rfl))
      try simp only[Act.put,kE,kG,kF,kD,kB,kC]
      refine wpAnyH_take (i:=5) (oi:=_) (v:=?v5z) rfl (by kernel_rfl) (by kernel_rfl) (by kernel_rfl) (fun _ _ _ h=>h) (Or.inl ⟨by rfl,?y5z⟩) (by assumption) ?r5z
      case y5z=>(intro w' hSw;(try dsimp only at hSw);(try simp only[kD,kB,kC]);go_simp;try (with_reducible rfl))
      try simp only[Act.put,kE,kG,kF,kD,kB,kC]
      refine wpAnyH_take (i:=6) (oi:=_) (v:=?v6z) rfl (by kernel_rfl) (by kernel_rfl) (by kernel_rfl) (fun _ _ _ h=>h) (Or.inl ⟨by rfl,?y6z⟩) (by assumption) ?r6z
      case y6z=>(intro w' hSw;have hx:=HNW.out w' hSw;clear hSw;(try dsimp only at hSw);(try simp only[kD,kB,kC]);go_simp;try (with_reducible rfl))
      try simp only[Act.put,kE,kG,kF,kD,kB,kC]
      refine wpAnyH_ready (rs:=[7]) (by kernel_rfl) (by simp) ?_
      refine (AllReadyH.cons rfl (fun K hK=>?_) AllReadyH.nil)
      try simp only[kD,kB,kC]
      go_simp
      go_at_call 34
      refine (HANS.out _ hHeld).mono ?_
      rintro e wf ⟨bf,cf,rfl,htf,hbf⟩
      have HTF:=kA htf
      have HBF0:Hid (Below w14.heap.size w14 wf):=kA (hHeld.trans (hbf.mono hHeld.size))
      clear htf hbf
      refine hK.out _ _ HBF0.out (fun hHeld=>?_)
      clear hK K
      try simp only[Act.put,kE,kG,kF,kD,kB,kC]
      refine wpAnyH_take (i:=8) (oi:=_) (v:=?v8z) rfl (by kernel_rfl) (by kernel_rfl) (by kernel_rfl) (fun _ _ _ h=>h) (Or.inl ⟨by rfl,?y8z⟩) (by assumption) ?r8z
      case y8z=>(intro w' hSw;(try dsimp only at hSw);(try simp only[kD,kB,kC]);go_simp;try (with_reducible rfl))
      try simp only[Act.put,kE,kG,kF,kD,kB,kC]
      refine wpAnyH_done (by kernel_rfl) ?_ _
      have HBF:Hid (Below w14.heap.size w14 wf):=kA HBF0.out
      have HSGF:=kA (SG.below HA.out.st HSG4.out HBF.out)
      have HSVF:=kA (zab HSV4.out HBF.out)
      have HALF:Hid (Alt w wf (fun k=>k=sp∨Gb (.slice gA n gc) gs k)):=kA (Alt.trans HAL4.out (alt_of_below (p:=fun _=>False) HBF.out) (fun _ _ h=>h.elim))
      have HDEL:Hid (Calls Tryz.prog 45 #[.slice (some ⟨ga,0,none⟩) n2 gc2,.int .i64 (j:Int),.int .i64 ((j:Int)+1)] wf fun e w'=>e = .returned (.slice (some ⟨ga,0,none⟩) (n2 - 1) gc2)∧GRow w' B (.slice (some ⟨ga,0,none⟩) (n2 - 1) gc2) ((gs2.set j g').eraseIdx j)∧Alt wf w' (fun k=>k=ga)):=kA (by
       have h1:=HSGF.out.row
       unfold GRow at h1
       rw[List.length_set, ← HN2.out] at h1
       refine (zq3 h1 (zpk HSGF.out.ok) hjn (by have:=HLN.out;rw[HN2.out];omega)).mono ?_
       rintro e w' ⟨he,hr,ha⟩
       refine ⟨he,?_,ha⟩
       rw[zq6 (fun x hx=>(HSGF.out.ok x hx).sz)] at hr
       unfold GRow
       rw[List.length_eraseIdx_of_lt (by rw[List.length_set, ← HN2.out];exact hjn),List.length_set, ← HN2.out]
       exact hr)
      have HSGA:Hid (sp≠ga):=kA (Blk.ne_ HSV.out HCUR.out (by decide))
      have z4:wf.cell? ⟨sp,4,none⟩=some (.slice (some ⟨ga,0,none⟩) n2 gc2):=HSVF.out.cell 4
      have hn29:n2≤991:=by rw[HN2.out];exact HLN.out
      have hwr:IntKind.i64.wrap ((j:Int)+1)=(j:Int)+1:=qR _ (by omega)
      clear HSG4 HSV4 HAL4 HOK4 HRA HGZ4 HNW HANS
      go_upto_region 17 with (first|(go_at_call 45;refine HDEL.out.mono ?_;rintro e wg ⟨rfl,hrg,hag⟩;have HRGG:=kA hrg;have HAG:=kA hag;have hbl:=HSVF.out.kept hag HSGA.out;have HSVG:=kA hbl;have z4g:wg.cell? ⟨sp,4,none⟩=some (.slice (some ⟨ga,0,none⟩) n2 gc2):=hbl.cell 4;have zfg:wg.frozen? ⟨sp,4,none⟩=false:=hbl.frozen 4;clear hrg hag hbl))
      go_wp2_with fail
      go_ret
      have hah:Alt wf (wg.setCell ⟨sp,4,none⟩ (.slice (some ⟨ga,0,none⟩) (n2 - 1) gc2)) (fun k=>k=ga∨k=sp):=Alt.set_ (a:=⟨sp,4,none⟩) (HAG.out.mono fun _ h => .inl h) (.inr rfl) _
      have hsh:=HSVG.out.set_ 4 (.slice (some ⟨ga,0,none⟩) (n2 - 1) gc2)
      have hal1:Alt wg (wg.setCell ⟨sp,4,none⟩ (.slice (some ⟨ga,0,none⟩) (n2 - 1) gc2)) (fun k=>k=sp):=Alt.set_ (p:=fun k=>k=sp) (a:=⟨sp,4,none⟩) (Alt.refl _ _) rfl _
      have hgf:∃ cur,Blk wf ga 152 cur:=by
       rcases HSGF.out.row.2 with ⟨e,_⟩|⟨g'',cap,cur,e,_,hh,_⟩
       ·cases e
       ·injection e with e1
        injection e1 with e1
        injection e1 with e1
        subst e1
        exact ⟨cur,hh⟩
      obtain ⟨curf,hcf⟩:=hgf
      have hle:((gs2.set j g').eraseIdx j).length=n2 - 1:=by rw[List.length_eraseIdx_of_lt (by rw[List.length_set, ← HN2.out];exact hjn),List.length_set, ← HN2.out]
      have hts:∀ k,k<wf.heap.size→(k=ga∨k=sp)→TS wf k:=by
       rintro k _ (e|e)
       ·rw[e];exact .inr ⟨_,_,_,hcf,.inr (.inl rfl)⟩
       ·rw[e];exact .inr ⟨_,_,_,HSVF.out,.inl rfl⟩
      have hrow:GRow (wg.setCell ⟨sp,4,none⟩ (.slice (some ⟨ga,0,none⟩) (n2 - 1) gc2)) B (.slice (some ⟨ga,0,none⟩) (n2 - 1) gc2) ((gs2.set j g').eraseIdx j):=zas HRGG.out hal1 (fun k hk e=>zai HRGG.out HSVG.out (by decide) (by rw[← e];exact hk))
      have htr:(wg.setCell ⟨sp,4,none⟩ (.slice (some ⟨ga,0,none⟩) (n2 - 1) gc2)).ownsRow w14.heap.size 47 10 (.slice (some ⟨bf,0,none⟩) (m+1) cf) (g'.rs.map (tdOf ans (g'.ver:Int) (now:Int) g'.ms)).length ((g'.rs.map (tdOf ans (g'.ver:Int) (now:Int) g'.ms)).map cellsT).flatten:=by
       refine zas HTF.out hah (fun k hk e=>?_)
       rcases e with e|e
       ·exact zai HTF.out hcf (by decide) (by rw[← e];exact hk)
       ·exact zai HTF.out HSVF.out (by decide) (by rw[← e];exact hk)
      have hw14:w.heap.size≤w14.heap.size:=HW14.out
      have hal9:Alt w (wg.setCell ⟨sp,4,none⟩ (.slice (some ⟨ga,0,none⟩) (n2 - 1) gc2)) (fun k=>k=sp∨Gb (.slice gA n gc) gs k):=Alt.trans HALF.out hah (fun k hk e=>e.elim (fun h=>HOWN.out k hk h) .inl)
      generalize wg.setCell ⟨sp,4,none⟩ (.slice (some ⟨ga,0,none⟩) (n2 - 1) gc2)=wh at hah hsh hrow htr hal9 ⊢
      have hset:(gs2.set j g').eraseIdx j=gs2.eraseIdx j:=by rw[List.eraseIdx_set_eq]
      have hsg9:SG PR M Cq wh B (.slice (some ⟨ga,0,none⟩) (n2 - 1) gc2) ((gs2.set j g').eraseIdx j):=by
       refine ⟨hrow,fun x hx=>?_,List.Pairwise.sublist (List.eraseIdx_sublist _ _) HSGF.out.ap⟩
       have hok:=HSGF.out.ok x ((List.eraseIdx_sublist _ _).mem hx)
       refine hok.alt HA.out.st hah hts (fun k hk e=>?_)
       rcases e with e|e
       ·exact zai hok.row hcf (by decide) (by rw[← e];exact hk)
       ·exact zai hok.row HSVF.out (by decide) (by rw[← e];exact hk)
      have hpl:(g.p.rs++[(⟨a.id,xs⟩:Pq)]).map (tdP ans (g.p.ver:Int) (now:Int) g.p.ms)=g'.rs.map (tdOf ans (g'.ver:Int) (now:Int) g'.ms):=by
       have h1:g.p.rs++[(⟨a.id,xs⟩:Pq)]=g'.p.rs:=by rw[HFP.out.2.2]
       have h2:g'.p.ver=g.p.ver:=by rw[HFP.out.2.2]
       have h3:g'.p.ms=g.p.ms:=by rw[HFP.out.2.2]
       rw[h1, ← h2, ← h3]
       show (g'.rs.map Rq.p).map _=_
       rw[qK]
       rfl
      refine Or.inr ⟨rfl,.slice (some ⟨bf,0,none⟩) (m+1) cf,some ⟨ga,0,none⟩,gc2,(gs2.set j g').eraseIdx j,rfl,?_,?_,?_,?_,?_⟩
      ·rw[HEQ.out,HFP.out.2.1 hfull,hset,List.eraseIdx_eq_take_drop_succ,List.eraseIdx_eq_take_drop_succ,kL,List.map_take,List.map_drop]
      ·rw[HEQ.out,HFP.out.2.1 hfull]
       show TRow wh w.heap.size _ _
       rw[hpl]
       exact zau htr hw14
      ·rw[hle];exact hsh
      ·rw[hle];exact hsg9
      ·rw[HN.out] at hal9
       exact hal9
  ·have he1:(er == 0)=false:=by rw[kS];exact he
   have y1:wc.cell? ⟨w.heap.size,1,none⟩=some (.int .i64 a.id):=(HKc.out.cell 1).trans HC1.out
   have y3:wc.cell? ⟨sp,3,none⟩=some (.int .i64 (now:Int)):=HPc.out.cell 3
   have:=World.new_ne wc _ y1
   have:=World.new_ne wc _ y3
   go_upto_region 3 with fail
   go_region_held3 (fun w'=>w'.cell? ⟨w.heap.size,1,none⟩=some (.int .i64 a.id)∧w'.cell? ⟨sp,3,none⟩=some (.int .i64 (now:Int))) (go_keep) (first|(go_at_call 9999))
   go_wp2
   go_ret
   refine Or.inl ⟨he,_,rfl,?_,?_⟩
   ·have h1:=zzm wc 47 #[.int .i64 a.id,.int .i64 0,.int .i64 (now:Int),.int .i64 er,.int .i64 0,.bool false,.int .u64 0,.string ⟨#[]⟩,.int .u64 0,.string ⟨#[]⟩]
    exact zau h1 HBc.out.size
   ·exact HBc.out.trans ((Below.new1 wc _).drew.mono HBc.out.size)
end
end Go.Proofs.YtemgclnkgieldaaGreatDoor.Oc
