/- The plain shelf: a row that grows; what is needed for Put. -/
import Derived.Test.YtmejdkniafjncaaGreatDoorNi
set_option maxHeartbeats 4000000
set_option maxRecDepth 100000
namespace Go.Proofs.YtmejdkniafjncaaGreatDoor.Oc
open Go Go.RowKit Dk
theorem zqp {α:Type}{l:List α}{j:Nat}{a x:α}(h:x∈l.set j a):x=a∨∃ i,i≠j∧l[i]? = some x:=by
 obtain ⟨i,hi,e⟩:=List.getElem_of_mem h
 rw[List.length_set] at hi
 by_cases hij:j=i
 ·subst hij
  rw[List.getElem_set_self] at e
  exact .inl e.symm
 ·rw[List.getElem_set_ne hij] at e
  exact .inr ⟨i,fun h=>hij h.symm,by rw[List.getElem?_eq_getElem hi,e]⟩
theorem Ps.apart {PM:PMod}{w:World}{B:Nat}{far:Nat→Prop}{v:Value}{ps:List Pe}(h:Ps PM w B far v ps){i j:Nat}{p q:Pe}(hi:ps[i]? = some q)(hj:ps[j]? = some p)(hij:i≠j):∀ k,q.own k→¬ p.own k:=by
 obtain ⟨hi1,hi2⟩:=List.getElem?_eq_some_iff.1 hi
 obtain ⟨hj1,hj2⟩:=List.getElem?_eq_some_iff.1 hj
 have h0:=List.pairwise_iff_getElem.1 h.ap
 intro k hk hk2
 rcases Nat.lt_or_gt_of_ne hij with hlt|hlt
 ·have:=h0 i j hi1 hj1 hlt k
  rw[hi2,hj2] at this
  exact this hk hk2
 ·have:=h0 j i hj1 hi1 hlt k
  rw[hi2,hj2] at this
  exact this hk2 hk
theorem Ps.anew2 {PM:PMod}(hst:Stays PM){w w':World}{B g n c:Nat}{far:Nat→Prop}{ps:List Pe}(h:Ps PM w B far (.slice (some ⟨g,0,none⟩) n c) ps){j:Nat}{p p':Pe}(hj:ps[j]? = some p)(ha:Alt w w' (fun k=>k=g∨p.own k))
  (hrow:OnRow w' B (.slice (some ⟨g,0,none⟩) n c) ((ps.set j p').map Pe.o)) (hok:PeOk PM w' B (farN w w' far) p') (hown:∀ k,p'.own k→p.own k∨w.heap.size≤k) :
  Ps PM w' B (farN w w' far) (.slice (some ⟨g,0,none⟩) n c) (ps.set j p'):=by
 obtain ⟨hjl,hje⟩:=List.getElem?_eq_some_iff.1 hj
 have hgf:far g:=h.fo g rfl
 have hno:∀ q∈ps,∀ k,q.own k→¬ k=g:=by
  rintro q hq k (hk|hk) rfl
  ·exact zcm h.row (h.each q hq).vr (by decide) k rfl hk
  ·exact zcm h.row (h.each q hq).mr (by decide) k rfl hk
 have hold:∀ i q,i≠j→ps[i]? = some q→PeOk PM w' B (farN w w' far) q:=fun i q hij hq=>(h.each q (za7 hq)).alt hst ha (fun k _ e => .inl (e.elim (fun e=>by rw[e];exact hgf) (fun e=>h.fp p (za7 hj) k e))) (fun k hk e=>e.elim (hno q (za7 hq) k hk) (h.apart hq hj hij k hk)) (fun k hk hf=>hf.elim id (fun h=>by omega))
 refine ⟨hrow,fun q hq=>?_,?_,fun k hk => .inl (h.fo k hk),fun q hq k hk=>?_⟩
 ·rcases zqp hq with rfl|⟨i,hij,hi⟩
  ·exact hok
  ·exact hold i q hij hi
 ·rw[List.pairwise_iff_getElem]
  have h0:=List.pairwise_iff_getElem.1 h.ap
  intro a b ha' hb' hab k
  rw[List.length_set] at ha' hb'
  rw[List.getElem_set,List.getElem_set]
  split
  ·next e1 =>
   subst e1
   rw[if_neg (by omega)]
   intro hk hk2
   rcases hown k hk with h1|h1
   ·have:=h0 _ _ ha' hb' hab k
    rw[hje] at this
    exact this h1 hk2
   ·have:=(h.each _ (List.getElem_mem hb')).lt k hk2
    omega
  ·split
   ·next _ e2 =>
    subst e2
    intro hk hk2
    rcases hown k hk2 with h1|h1
    ·have:=h0 _ _ ha' hb' hab k hk
     rw[hje] at this
     exact this h1
    ·have:=(h.each _ (List.getElem_mem ha')).lt k hk
     omega
   ·exact h0 _ _ ha' hb' hab k
 ·rcases List.mem_or_eq_of_mem_set hq with hq|rfl
  ·exact .inl (h.fp q hq k hk)
  ·rcases hown k hk with h1|h1
   ·exact .inl (h.fp p (za7 hj) k h1)
   ·exact .inr ⟨h1,hok.lt k hk⟩
theorem zbz {ops:Array Oper}{S:World→Prop}{op:Oper}{a:Act}(hw:Region.wanted op (yielded ops a.tmps)=true)(ty:TypeId)(x:Operand)(ho:op.op = .load ty x)
  (g:Nat) (hx:a.eval x = .pointer (some ⟨g,0,none⟩)) (cs:Array Value) (t':TypeId) (d:TypeDesc) (hS:∀ w,S w→Blk w g t' cs)
  (hu:Tryz.prog.underlying ty=some d) (hd:(match d with | .struct _ | .array _ _=>true|_=>false)=true) (hi:(Tryz.prog.info? ty).map (·.size)=some cs.size):YieldsIf Tryz.prog ops S op (.agg cs) a :=
 .inl ⟨hw,fun w hw'=>by
  have hrun:=run_loadVar_row (P:=Tryz.prog) w g t' ty cs (0,0) d (hS w hw') hu (by cases d <;> first|rfl|cases hd) hi
  unfold execOp
  simp only[ho,hx,Instr.loadAt,Instr.sureAddr,Sem.run_bind,Sem.run_pure,Result.andThen_ok,hrun]⟩
theorem zpc:∀ (l:List Value) (k:Nat) (cells:Array Value),k+l.length≤cells.size→(l.zipIdx k).foldl (fun (cs:Array Value) (x:Value×Nat)=>cs.setIfInBounds (0+x.2) x.1) cells=(cells.toList.take k++l++cells.toList.drop (k+l.length)).toArray
 | [],k,cells,_=>by simp
 |x :: l,k,cells,h=>by
  rw[List.length_cons] at h
  rw[List.zipIdx_cons,List.foldl_cons,zpc l (k+1) _ (by simp;omega)]
  apply Array.ext'
  simp only[Nat.zero_add,Array.toList_setIfInBounds,List.length_cons]
  rw[List.take_set,List.drop_set]
  rw[if_pos (by omega)]
  rw[show k+1+l.length=k+(l.length+1) by omega]
  congr 1
  rw[List.take_succ_eq_append_getElem (by simpa using (by omega:k<cells.size)),List.set_append_right _ _ (by simp;omega)]
  have e:k - (cells.toList.take k).length=0:=by simp;omega
  rw[e]
  simp
theorem zfp {T E:TypeId}{i:TypeInfo}{z:Value}{cs:Array Value}{w:World}(hT:Tryz.prog.underlying T=some (.slice E))(hi:Tryz.prog.info? E=some i)(hz:i.zero=some z)(hs:i.size=cs.size)(h0:0<cs.size)(hle:cs.size≤1000) :
  (Instr.buildSlice T 1 #[(0,.agg cs)]).run Tryz.prog w = .ok (.slice (some ⟨w.heap.size,0,none⟩) 1 1) (w.alloc (.cells cs E)):=by
 have hf:Instr.fill (fun j=>some (j*cs.size,cs.size)) ((Array.range (1*cs.size)).map (z.cells[· % z.cells.size]!)) [(0,.agg cs)]=some cs:=by
  unfold Instr.fill
  simp only[show Value.cells (.agg cs)=cs from rfl,Nat.zero_mul]
  rw[if_neg (by simp)]
  unfold Instr.fill
  refine congrArg some ?_
  have:=zpc cs.toList 0 ((Array.range (1*cs.size)).map (z.cells[· % z.cells.size]!)) (by rw[Array.size_map,Array.size_range,Nat.zero_add,Nat.one_mul];exact Nat.le_refl _)
  rw[List.take_zero,List.nil_append,Nat.zero_add,List.drop_of_length_le (by rw[Array.length_toList,Array.size_map,Array.size_range,Nat.one_mul];exact Nat.le_refl _),List.append_nil,Array.toArray_toList] at this
  refine Eq.trans ?_ this
  rw[← Array.foldl_toList,Array.toList_zipIdx]
 unfold Instr.buildSlice
 simp[run_underlying hT,sizeOf,typeInfo,hi,hs,zeroValue,hz,Result.andThen]
 rw[if_neg (by omega),if_neg (by intro h;rw[h] at h0;cases h0)]
 rw[Nat.one_mul] at hf
 rw[hf]
 simp[newRow,newObj,Result.andThen]
 rfl
theorem zc9 {ops:Array Oper}{o:Oper}{a:Act}{K:Act→World→Prop}{Q:Exit→Act→World→Prop}{E':Prop}(w:World)(hgd:o.guard=none)(T:TypeId)(x:Operand)(ho:o.op = .buildSlice T 1 #[(0,x)])(E:TypeId)(i:TypeInfo)(z:Value)(cs:Array Value)
  (hT:Tryz.prog.underlying T=some (.slice E)) (hi:Tryz.prog.info? E=some i) (hz:i.zero=some z) (hs:i.size=cs.size) (h0:0<cs.size) (hle:cs.size≤1000) (hx:a.eval x = .agg cs)
  (h:K (a.put o.dst (.slice (some ⟨w.heap.size,0,none⟩) 1 1)) (w.alloc (.cells cs E))):if Region.wanted o (yielded ops a.tmps)=true then Oper.wp Tryz.prog o a w K Q else E':=by
 have hw:Region.wanted o (yielded ops a.tmps)=true:=by simp[Region.wanted,hgd]
 rw[if_pos hw]
 have hrun:=zfp (w:=w) hT hi hz hs h0 hle
 unfold Oper.wp
 simp[execOp,ho,hx,hrun,Result.andThen]
 exact h
theorem zig (w:World)(t:TypeId)(cs:Array Value):∀ j u,cs.toList[j]? = some u→(w.alloc (.cells cs t)).cell? ((⟨w.heap.size,0,none⟩:Addr).add j)=some u:=fun j u hu=>by
 rw[add0,(Blk.new w t cs).cell]
 simpa using hu
theorem zw8 (gp:Nat)(name:ByteArray)(cs:Array Value)(w:World) :
  Calls Tryz.prog 24 #[.pointer (some ⟨gp,0,none⟩),.string name,.bool false,.agg cs] w fun e w'=>e = .returned (.tuple #[.int .i64 0,.int .i64 11])∧Below w.heap.size w w':=by
 go_enter Tryz.func24,Tryz.ntmps24
 go_wp2
 go_ret2
 exact ⟨rfl,Below.new1 w _⟩
theorem zu9 (gp:Nat)(name:ByteArray)(cs:Array Value)(hsz:cs.size=59)(w:World){r:Int}(hr:r≠0)(hck:∀ W,Below w.heap.size w W→Calls Tryz.prog 51 #[.agg cs] W fun e w'=>e = .returned (.int .i64 r)∧Below W.heap.size W w') :
  Calls Tryz.prog 24 #[.pointer (some ⟨gp,0,none⟩),.string name,.bool true,.agg cs] w fun e w'=>e = .returned (.tuple #[.int .i64 0,.int .i64 1])∧Below w.heap.size w w':=by
 have HCK:=hid hck
 have HI:Hid ((Tryz.prog.info? 88).map (·.size)=some cs.size):=hid (by rw[hsz];exact zau)
 have hr0:(r == 0)=false:=by simpa using hr
 clear hck hsz
 go_enter Tryz.func24,Tryz.ntmps24
 have HMC:Hid (Blk (w.alloc (.cells cs 88)) w.heap.size 88 cs):=hid (Blk.new w _ _)
 have HB:Hid (Below w.heap.size w (w.alloc (.cells cs 88))):=hid (Below.new1 w _)
 go_upto_region 1 with fail
 generalize w.alloc (.cells cs 88)=W1 at HMC HB ⊢
 go_wp2_with (first
  |(refine za2 _ rfl 88 _ rfl w.heap.size cs 88 (0,0) _ rfl (by exact HMC.out) Tryz.underlying88 rfl HI.out ?_)
  |(go_at_call 51;refine (HCK.out W1 HB.out).mono ?_;rintro e w2 ⟨rfl,hb2⟩;have HB2:=hid (HB.out.trans (hb2.mono HB.out.size));clear hb2))
 go_ret2
 exact ⟨rfl,HB2.out⟩
theorem zag {w:World}{B B2 n n2 sz sz2:Nat}{t t2:TypeId}{v v2:Value}{xs xs2:List Value}(h:w.ownsRow B t sz v n xs)(h2:w.ownsRow B2 t2 sz2 v2 n2 xs2)(hne:t≠t2):∀ k,v.ownBlock=some k→¬ v2.ownBlock=some k:=by
 intro k hk hk2
 rcases h.2 with ⟨rfl,_⟩|⟨g',cap,cur,rfl,_,hh,_⟩
 ·cases hk
 ·have e:g'=k:=by simpa [Value.ownBlock] using hk
  subst e
  exact zao h2 (show Blk w g' t cur from hh) (fun e=>hne e.symm) hk2
theorem Alt.grow {w w':World}{row:Option Nat}(h:w.grownBy w' row):Alt w w' (fun k=>row=some k):=⟨h.os,h.tape,h.output,h.size,fun k hk hp=>h.block k hk (fun e=>hp e.symm)⟩
theorem znz {PM:PMod}(hst:Stays PM){w w':World}{B g n c:Nat}{far:Nat→Prop}{ps:List Pe}(h:Ps PM w B far (.slice (some ⟨g,0,none⟩) n c) ps){j v:Nat}{p:Pe}{ms:List Int}{cs:Array Value}(hj:ps[j]? = some p)(ha:Alt w w' (fun k=>k=g∨p.own k))
  {o':On} (hn:o'.vn=p.ts.length+1) (hrow:w'.ownsRow B 102 5 (.slice (some ⟨g,0,none⟩) n c) ps.length (((ps.map Pe.o).map cellsO).set j (cellsO o')).flatten)
  (hv:w'.ownsRow B 3 1 o'.vv o'.vn ((versT p.ts).map (Value.int .i64)++[.int .i64 (v:Int)])) (hm:w'.ownsRow B 88 59 o'.mv o'.vn (flatT p.ts++cs.toList))
  (hov:∀ k,o'.vv.ownBlock=some k→p.o.vv.ownBlock=some k∨w.heap.size≤k) (hom:∀ k,o'.mv.ownBlock=some k→p.o.mv.ownBlock=some k∨w.heap.size≤k) (hcs:cs.size=59∧AllOne cs∧PM w far ms cs) :
  Ps PM w' B (farN w w' far) (.slice (some ⟨g,0,none⟩) n c) (ps.set j ⟨o',p.ts++[⟨v,ms,cs⟩]⟩)∧∀ q,Pe.own ⟨o',p.ts++[⟨v,ms,cs⟩]⟩ q→p.own q∨w.heap.size≤q:=by
 have hp:=h.each p (za7 hj)
 have hlen:(p.ts++[(⟨v,ms,cs⟩:Tr)]).length=o'.vn:=by rw[List.length_append,hn];rfl
 have hown:∀ q,Pe.own ⟨o',p.ts++[⟨v,ms,cs⟩]⟩ q→p.own q∨w.heap.size≤q:=by
  rintro q (hq|hq)
  ·exact (hov q hq).imp .inl id
  ·exact (hom q hq).imp .inr id
 have hq:∀ q,q<w.heap.size→(q=g∨p.own q)→far q∨TB w q:=fun q _ e => .inl (e.elim (fun e=>by rw[e];exact h.fo g rfl) (fun e=>h.fp p (za7 hj) q e))
 have hf:∀ q,q<w.heap.size→farN w w' far q→far q:=fun q hq hf=>hf.elim id (fun h=>by omega)
 refine ⟨h.anew2 hst hj ha ?_ ⟨hlen.symm,?_,?_,fun x hx=>?_⟩ hown,hown⟩
 ·unfold OnRow
  rw[List.map_set,List.map_set,List.length_set,List.length_map]
  exact hrow
 ·unfold IntRow
  have e:∀ l:List Tr,(versT l).length=l.length:=fun l=>List.length_map _
  show w'.ownsRow B 3 1 o'.vv (versT (p.ts++[⟨v,ms,cs⟩])).length ((versT (p.ts++[⟨v,ms,cs⟩])).map (Value.int .i64))
  have e2:(versT (p.ts++[(⟨v,ms,cs⟩:Tr)])).map (Value.int .i64)=(versT p.ts).map (Value.int .i64)++[.int .i64 (v:Int)]:=by
   unfold versT
   rw[List.map_append,List.map_append];rfl
  rw[e,hlen,e2]
  exact hv
 ·show w'.ownsRow B 88 59 o'.mv (p.ts++[(⟨v,ms,cs⟩:Tr)]).length (flatT (p.ts++[⟨v,ms,cs⟩]))
  have e2:flatT (p.ts++[(⟨v,ms,cs⟩:Tr)])=flatT p.ts++cs.toList:=by
   rw[zea]
   congr 1
   show cs.toList++[]=_
   rw[List.append_nil]
  rw[hlen,e2]
  exact hm
 ·rcases List.mem_append.1 hx with hx|hx
  ·obtain ⟨h1,h2,h3⟩:=hp.md x hx
   exact ⟨h1,h2,hst _ _ _ _ _ _ _ h3 ha hq hf⟩
  ·rw[List.mem_singleton.1 hx]
   exact ⟨hcs.1,hcs.2.1,hst _ _ _ _ _ _ _ hcs.2.2 ha hq hf⟩
theorem zn0 {name:ByteArray}:∀ {ps:List Pe},(∀ p∈ps,p.o.vn=p.ts.length)→othL (ps.map Pe.o) name=((ps.map Pe.s).filter (othC name)).length
 | [],_=>rfl
 |p :: ps,h=>by
  have h1:oth1 name p.o=othC name p.s:=by
   unfold oth1 othC
   rw[h p (List.mem_cons_self ..),show p.s.vs.length=p.ts.length from List.length_map _];rfl
  have h2:=zn0 (name:=name) (ps:=ps) fun q hq=>h q (List.mem_cons_of_mem _ hq)
  unfold othL at h2 ⊢
  rw[List.map_cons,List.filter_cons,List.map_cons,List.filter_cons,h1]
  split
  ·rw[List.length_cons,List.length_cons,h2]
  ·exact h2
section
variable {PM:PMod}(hst:Stays PM){w:World}{B gp:Nat}{far:Nat→Prop}{v:Value}{ps:List Pe}
include hst
theorem zva (h:SP PM w B far gp v ps)(hs:Small ps)(hB:B≤w.heap.size)(name:ByteArray)(hfu:fullC (ps.map Pe.s) name=false){s:Sh}(hf:fndC (ps.map Pe.s) name=some s)(hnd:((ps.map Pe.s).map Sh.name).Nodup){ms:List Int}{cs:Array Value}(hcs:cs.size=59∧AllOne cs∧PM w far ms cs)
  (hck:∀ W,Below w.heap.size w W→Calls Tryz.prog 51 #[.agg cs] W fun e w'=>e = .returned (.int .i64 0)∧Below W.heap.size W w') :
  Calls Tryz.prog 24 #[.pointer (some ⟨gp,0,none⟩),.string name,.bool true,.agg cs] w fun e w'=>e = .returned (.tuple #[.int .i64 (s.next:Int),.int .i64 0])∧SPost PM w B far gp v ps (pfC (ps.map Pe.s) ⟨1,name,s.next,ms⟩) w':=by
 obtain ⟨A,c,rfl⟩:=zbn h.ps
 have HP:=hid h
 have HS:=hid hs
 have HFC:=hid hf
 have HFU:=hid hfu
 have HND:=hid hnd
 have HCS:=hid hcs
 have HCK:=hid hck
 have HI:Hid ((Tryz.prog.info? 88).map (·.size)=some cs.size):=hid (by rw[hcs.1];exact zau)
 have HLN:Hid ((ps.map Pe.o).length≤100000):=hid (by rw[List.length_map];have:=hs.1;omega)
 obtain ⟨j,p,hj,hfn,hfo,hnm,hat⟩:∃ (j:Nat) (p:Pe),ps[j]? = some p∧fndC (ps.map Pe.s) name=some p.s∧fndO (ps.map Pe.o) name=some p.o∧p.o.name=name∧∀ i,atL (ps.map Pe.o) name i=((i+j:Nat):Int):=by
  rcases zmi name ps with ⟨h1,_⟩|h1
  ·rw[hf] at h1;cases h1
  ·exact h1
 have hsp:s=p.s:=by rw[hf] at hfn;injection hfn
 subst hsp
 have HJ:=hid hj
 have HNM:=hid hnm
 have HAT:Hid (atL (ps.map Pe.o) name 0=(j:Int)):=hid (by rw[hat];simp)
 have hoth:othL (ps.map Pe.o) name<20∧p.ts.length<40:=by
  rw[zn0 fun p hp=>(h.ps.each p hp).n]
  unfold fullC numC at hfu
  rw[hf] at hfu
  simp only[Bool.or_eq_false_iff,decide_eq_false_iff_not] at hfu
  have h4:p.s.vs.length=p.ts.length:=List.length_map _
  omega
 obtain ⟨q,HQ⟩:∃ q,Hid (othL (ps.map Pe.o) name=q):=⟨_,hid rfl⟩
 rw[HQ.out] at hoth
 have hPE:=h.ps.each p (za7 hj)
 have HPN:Hid (p.o.vn=p.ts.length):=hid hPE.n
 have hvn:p.o.vn<40:=by rw[hPE.n];exact hoth.2
 have hq20:q<20:=hoth.1
 have hnx:p.o.next≤100000:=(hs.2 p (za7 hj)).1
 have hjn:j<ps.length:=(List.getElem?_eq_some_iff.1 hj).1
 have hlen:ps.length≤1000:=hs.1
 clear h hs hf hfu hnd hcs hck hj hnm hat hfn hfo hPE hoth
 go_enter Tryz.func24,Tryz.ntmps24
 have HMC:Hid (Blk (w.alloc (.cells cs 88)) w.heap.size 88 cs):=hid (Blk.new w _ _)
 have HB:Hid (Below w.heap.size w (w.alloc (.cells cs 88))):=hid (Below.new1 w _)
 go_upto_region 1 with fail
 generalize w.alloc (.cells cs 88)=W1 at HMC HB ⊢
 go_upto_region 5 with (first
  |(refine za2 _ rfl 88 _ rfl w.heap.size cs 88 (0,0) _ rfl (by exact HMC.out) Tryz.underlying88 rfl HI.out ?_)
  |(go_at_call 51;refine (HCK.out W1 HB.out).mono ?_;rintro e w2 ⟨rfl,hb2⟩;have HB2:=hid (HB.out.trans (hb2.mono HB.out.size));have HMC2:=hid (zac HMC.out hb2);clear hb2))
 have HSP2:=hid (HP.out.below hst HB2.out)
 have c2:w2.cell? ⟨gp,0,none⟩=some (.slice A ps.length c):=HSP2.out.pt.cell 0
 go_upto_region 6 with (go_at_call 37;refine (zjn HSP2.out.ps.row HLN.out name).mono ?_;rintro e w3 ⟨rfl,hb3⟩;rw[HAT.out];have HSP3:=hid (HSP2.out.below hst hb3);have HB3:=hid (HB2.out.trans (hb3.mono HB2.out.size));have HMC3:=hid (zac HMC2.out hb3);clear hb3)
 obtain ⟨g,rfl,hgc,hgf,hgb⟩:=HSP3.out.ps.live HJ.out
 have HGL:Hid (∀ W,Below w3.heap.size w3 W→∀ t u,t<5→(cellsO p.o)[t]? = some u→W.cell? ⟨g,j*5+t,none⟩=some u):=hid fun W hb t u ht hu=>by
  obtain ⟨g',e,h1,_⟩:=(HSP3.out.below hst hb).ps.live HJ.out
  injection e with e
  injection e with e
  subst e
  exact h1 t u ht hu
 have c3:w3.cell? ⟨gp,0,none⟩=some (.slice (some ⟨g,0,none⟩) ps.length c):=HSP3.out.pt.cell 0
 have q3:=hgc 3 (.slice p.o.vA p.o.vn p.o.vc) (by decide) rfl
 have hg1:decide ((20:Int)≤(q:Int))=false:=by simp;omega
 have hg2:decide ((0:Int)≤(j:Int))=true:=by simp
 have hg3:decide ((40:Int)≤(p.o.vn:Int))=false:=by simp;omega
 have hjn':(j:Int)<(ps.length:Int):=by omega
 have hj0:¬ ((j:Int)<0):=by omega
 clear hgc
 go_upto_region 11 with (go_at_call 52;refine (zjo HSP3.out.ps.row HLN.out name).mono ?_;rintro e w4 ⟨rfl,hb4⟩;rw[HQ.out];have HSP4:=hid (HSP3.out.below hst hb4);have HB4:=hid (HB3.out.trans (hb4.mono HB3.out.size));have HMC4:=hid (zac HMC3.out hb4);have c4:w4.cell? ⟨gp,0,none⟩=some (.slice (some ⟨g,0,none⟩) ps.length c):=HSP4.out.pt.cell 0;have x3:=HGL.out w4 hb4 3 (.slice p.o.vA p.o.vn p.o.vc) (by decide) rfl;clear hb4)
 have HSPX:=HSP4
 have HNX:Hid (ps.length=ps.length):=hid rfl
 have HJX:=HJ
 have HBX:=HMC4
 have HREL:Hid ((∀ k,So gp (.slice (some ⟨g,0,none⟩) ps.length c) ps k→So gp (.slice (some ⟨g,0,none⟩) ps.length c) ps k∨w.heap.size≤k)∧Alt w w4 (So gp (.slice (some ⟨g,0,none⟩) ps.length c) ps)∧(∀ k,far k→far k)∧(∀ k,far k→far k∨(w.heap.size≤k∧k<w4.heap.size))):=hid ⟨fun k h => .inl h,alt_of_below HB4.out,fun _ h=>h,fun k h => .inl h⟩
 have HCSX:Hid (cs.size=59∧AllOne cs∧PM w4 far ms cs):=hid ⟨HCS.out.1,HCS.out.2.1,hst _ _ _ _ _ _ _ HCS.out.2.2 (alt_of_below (p:=fun _=>False) HB4.out) (fun _ _ h=>h.elim) (fun _ _ h=>h)⟩
 have HFIN:Hid (∀ p':Pe,p'.s=putS p.s p.o.next ms→(ps.set j p').map Pe.s=pfC (ps.map Pe.s) ⟨1,name,p.o.next,ms⟩):=hid fun p' hp'=>by
  unfold pfC
  rw[if_pos rfl,HFC.out,List.map_set,hp']
  exact (zie HND.out (by rw[List.getElem?_map,HJ.out];rfl) HNM.out).symm
 have HNXB:=hid hnx
 have HVNB:=hid hvn
 have hBB:=hB
 have HNBM:Hid (¬ p.own w.heap.size):=hid (fun e=>Nat.lt_irrefl _ ((HP.out.ps.each p (za7 HJ.out)).lt _ e))
 clear hg1 hg2 hg3 hj0 hjn' q3 x3 c3 hgf
 obtain ⟨g_,hg_,hgcX,hgfX,_⟩:=HSPX.out.ps.live HJX.out
 obtain rfl:g=g_:=by injection hg_ with e;injection e
 have q1:=hgcX 1 (.int .i64 (p.o.next:Int)) (by decide) rfl
 have q2:=hgcX 2 (.int .i64 (p.o.live:Int)) (by decide) rfl
 have q3:=hgcX 3 (.slice p.o.vA p.o.vn p.o.vc) (by decide) rfl
 have q4:=hgcX 4 (.slice p.o.mA p.o.vn p.o.mc) (by decide) rfl
 have HPX:=hid (HSPX.out.ps.each p (za7 HJX.out))
 obtain ⟨L,hLL⟩:∃ L,L=p.o.vn:=⟨_,rfl⟩
 obtain ⟨vA,hvA⟩:∃ x,x=p.o.vA:=⟨_,rfl⟩
 obtain ⟨vc,hvc⟩:∃ x,x=p.o.vc:=⟨_,rfl⟩
 obtain ⟨mA,hmA⟩:∃ x,x=p.o.mA:=⟨_,rfl⟩
 obtain ⟨mc,hmc⟩:∃ x,x=p.o.mc:=⟨_,rfl⟩
 obtain ⟨NX,hNX⟩:∃ x,x=p.o.next:=⟨_,rfl⟩
 obtain ⟨LV,hLV⟩:∃ x,x=p.o.live:=⟨_,rfl⟩
 rw[← hLL, ← hvA, ← hvc] at q3
 rw[← hLL, ← hmA, ← hmc] at q4
 rw[← hNX] at q1
 rw[← hLV] at q2
 have hvr:w4.ownsRow B 3 1 (.slice vA L vc) L ((versT p.ts).map (Value.int .i64)):=by
  have:=HPX.out.vr
  unfold IntRow at this
  rw[show (versT p.ts).length=L by unfold versT;rw[List.length_map,hLL,HPX.out.n],show p.o.vv = .slice vA L vc by rw[hLL,hvA,hvc]] at this
  exact this
 have hmr:w4.ownsRow B 88 59 (.slice mA L mc) L (flatT p.ts):=by
  have:=HPX.out.mr
  rw[show p.ts.length=L by rw[hLL,HPX.out.n],show p.o.mv = .slice mA L mc by rw[hLL,hmA,hmc]] at this
  exact this
 have HEQ:=hid (And.intro hLL (And.intro hvA (And.intro hvc (And.intro hmA (And.intro hmc (And.intro hNX hLV))))))
 have hNX0:NX≤100000:=by rw[hNX];exact HNXB.out
 have hL40:L<40:=by rw[hLL];exact HVNB.out
 obtain ⟨i0,hi0,hz0,hz1,hz2⟩:=info_parts zib
 have HIv:=hid hi0
 obtain ⟨zv,hzv⟩:∃ z,z=Value.int .i64 0:=⟨_,rfl⟩
 rw[← hzv] at hz0
 have HZ0v:=hid hz0
 have HZ1v:=hid hz1
 have HZ2v:=hid hz2
 have HZ3v:Hid (zv.cells.size=1):=hid (by rw[hzv];rfl)
 clear hi0 hz0 hz1 hz2 hzv
 obtain ⟨i1,hi0,hz0,hz1,hz2⟩:=info_parts zpa
 have HIm:=hid hi0
 obtain ⟨zm,hzm⟩:∃ z,z=Value.agg zM:=⟨_,rfl⟩
 rw[← hzm] at hz0
 have HZ0m:=hid hz0
 have HZ1m:=hid hz1
 have HZ2m:=hid hz2
 have HZ3m:Hid (zm.cells.size=59):=hid (by rw[hzm];rfl)
 clear hi0 hz0 hz1 hz2 hzm
 obtain ⟨xsv,hxsv⟩:∃ xs,xs=(versT p.ts).map (Value.int .i64):=⟨_,rfl⟩
 obtain ⟨xsm,hxsm⟩:∃ xs,xs=flatT p.ts:=⟨_,rfl⟩
 rw[← hxsv] at hvr
 rw[← hxsm] at hmr
 have HXV:=hid hxsv
 have HXM:=hid hxsm
 have HVX:=hid hvr
 have HMX:=hid hmr
 have hor:w4.ownsRow B 102 5 (.slice (some ⟨g,0,none⟩) ps.length c) ps.length ((ps.map Pe.o).map cellsO).flatten:=by
  have:=HSPX.out.ps.row
  unfold OnRow at this
  rw[List.length_map, ← HNX.out] at this
  exact this
 have HRX:=hid hor
 have HGFX:=hid hgfX
 have hwn:IntKind.i64.wrap ((NX:Int)+1)=(NX:Int)+1:=IntWalk.i64_in _ (by omega)
 have HOVX:Hid (∀ k,(Value.slice vA L vc).ownBlock=some k→p.own k):=hid fun k hk => .inl (by have h1:=HEQ.out;rw[show p.o.vv = .slice vA L vc by rw[h1.1,h1.2.1,h1.2.2.1]];exact hk)
 have HOMX:Hid (∀ k,(Value.slice mA L mc).ownBlock=some k→p.own k):=hid fun k hk => .inr (by have h1:=HEQ.out;rw[show p.o.mv = .slice mA L mc by rw[h1.1,h1.2.2.2.1,h1.2.2.2.2.1]];exact hk)
 clear hLL hvA hvc hmA hmc hNX hLV hvr hmr hor hxsv hxsm hgcX hgfX hg_
 go_upto_region 13 with fail
 have HNBX:Hid (¬ (Value.slice mA L mc).ownBlock=some w.heap.size):=hid (fun e=>HNBM.out (HOMX.out _ e))
 rcases (show L=0∨L≠0 by omega) with hL|hL
 ·have hL0:(L:Int)=0:=by omega
  have HL0:=hid hL
  have fz2:w4.frozen? ⟨g,j*5+2,none⟩=false:=HGFX.out _
  clear hL
  go_upto_region 15 with fail
  clear hL0 fz2
  have has:Alt w4 (w4.setCell ⟨g,j*5+2,none⟩ (.int .i64 (NX:Int))) (fun k=>k=g):=Alt.set_ (p:=fun k=>k=g) (a:=⟨g,j*5+2,none⟩) (Alt.refl _ _) rfl _
  have HAY:Hid (Alt w4 (w4.setCell ⟨g,j*5+2,none⟩ (.int .i64 (NX:Int))) (fun k=>k=g∨p.own k)):=hid (has.mono fun k e => .inl e)
  have HRY:Hid ((w4.setCell ⟨g,j*5+2,none⟩ (.int .i64 (NX:Int))).ownsRow B 102 5 (.slice (some ⟨g,0,none⟩) ps.length c) ps.length (((ps.map Pe.o).map cellsO).flatten.set (j*5+2) (.int .i64 (NX:Int)))):=hid (zb2 HRX.out)
  have HVY:Hid ((w4.setCell ⟨g,j*5+2,none⟩ (.int .i64 (NX:Int))).ownsRow B 3 1 (.slice vA L vc) L xsv):=hid (zan HVX.out has (fun k hk e=>zag HVX.out HRX.out (by decide) k hk (by rw[e];rfl)))
  have HMY:Hid ((w4.setCell ⟨g,j*5+2,none⟩ (.int .i64 (NX:Int))).ownsRow B 88 59 (.slice mA L mc) L xsm):=hid (zan HMX.out has (fun k hk e=>zag HMX.out HRX.out (by decide) k hk (by rw[e];rfl)))
  have HBY:Hid (Blk (w4.setCell ⟨g,j*5+2,none⟩ (.int .i64 (NX:Int))) w.heap.size 88 cs):=hid (HBX.out.kept has (fun e=>zao HRX.out HBX.out (by decide) (by rw[e];rfl)))
  have y1:(w4.setCell ⟨g,j*5+2,none⟩ (.int .i64 (NX:Int))).cell? ⟨g,j*5+1,none⟩=some (.int .i64 (NX:Int)):=(zaq w4 _ _ _ (by omega)).trans q1
  have y3:(w4.setCell ⟨g,j*5+2,none⟩ (.int .i64 (NX:Int))).cell? ⟨g,j*5+3,none⟩=some (.slice vA L vc):=(zaq w4 _ _ _ (by omega)).trans q3
  have y4:(w4.setCell ⟨g,j*5+2,none⟩ (.int .i64 (NX:Int))).cell? ⟨g,j*5+4,none⟩=some (.slice mA L mc):=(zaq w4 _ _ _ (by omega)).trans q4
  have HFY:Hid (∀ i,(w4.setCell ⟨g,j*5+2,none⟩ (.int .i64 (NX:Int))).frozen? ⟨g,i,none⟩=false):=hid fun i=>by rw[World.frozen?_setCell];exact HGFX.out i
  have hsy:w.heap.size<(w4.setCell ⟨g,j*5+2,none⟩ (.int .i64 (NX:Int))).heap.size:=HBY.out.lt
  clear q1 q2 q3 q4 has
  generalize w4.setCell ⟨g,j*5+2,none⟩ (.int .i64 (NX:Int))=WY at HAY HRY HVY HMY HBY y1 y3 y4 HFY hsy ⊢
  have HY1:=hid y1
  have HY4:=hid y4
  have HXS:Hid (w4.heap.size≤WY.heap.size):=hid HAY.out.size
  have HBB:Hid (B≤w.heap.size):=hid hBB
  have HLG:Hid (g<WY.heap.size):=hid (zdh HRY.out g rfl)
  clear y1 y4
  go_upto_region 16 with (at_builtin;go_loud (refine wpList_append_lies _ rfl _ _ 80 rfl B 3 i0 zv 1 8 Tryz.underlying80 HIv.out HZ0v.out HZ1v.out HZ2v.out HZ3v.out (by decide) (.slice vA L vc) L xsv rfl (by exact (zax HVY.out (Below.new1 WY _))) ⟨WY.heap.size,0,none⟩ 1 1 [.int .i64 (NX:Int)] rfl rfl (fun r u hu=>zc5 WY _ _ r u hu) (zd8 rfl) (by decide) (by unfold maxLen;omega) (by omega) (by simp;omega) (WY.heap.size+1) (by simp) ?_;intro g5 cap5 w5 hown5 hgrow5 hlie5 hlt5;have HO5:=hid hown5;have HLI5:=hid hlie5;have ha5:Alt WY w5 (fun k=>(Value.slice vA L vc).ownBlock=some k):=(Alt.alloc (Alt.refl WY _) _).trans (Alt.grow hgrow5) (fun _ _ h=>h);have HA5:=hid ha5;have hg5:¬ (Value.slice vA L vc).ownBlock=some g:=(fun e=>zag HVY.out HRY.out (by decide) g e rfl);have HG5:=hid hg5;have p3:w5.cell? ⟨g,j*5+3,none⟩=some (.slice vA L vc):=(World.cell?_of_block (ha5.block g HLG.out hg5)).trans y3;have fz3:w5.frozen? ⟨g,j*5+3,none⟩=false:=(World.frozen?_of_block (ha5.block g HLG.out hg5)).trans (HFY.out _);clear hown5 hgrow5 hlie5 hlt5 ha5 hg5))
  have has:Alt w5 (w5.setCell ⟨g,j*5+3,none⟩ (.slice (some ⟨g5,0,none⟩) (L+1) cap5)) (fun k=>k=g):=Alt.set_ (p:=fun k=>k=g) (a:=⟨g,j*5+3,none⟩) (Alt.refl _ _) rfl _
  have hr5:=zan HRY.out HA5.out (fun k hk=>by have:k=g:=(by simpa [Value.ownBlock] using hk.symm);rw[this];exact HG5.out)
  have hm5:=zan HMY.out HA5.out (fun k hk e=>zag HMY.out HVY.out (by decide) k hk e)
  have hb5:=HBY.out.kept HA5.out (fun e=>zao HVY.out HBY.out (by decide) e)
  have HA15:Hid (Alt w4 (w5.setCell ⟨g,j*5+3,none⟩ (.slice (some ⟨g5,0,none⟩) (L+1) cap5)) (fun k=>k=g∨p.own k)):=hid ((HAY.out.trans HA5.out (fun k _ e => .inr (HOVX.out k e))).trans has (fun k _ e => .inl e))
  have HR15:Hid ((w5.setCell ⟨g,j*5+3,none⟩ (.slice (some ⟨g5,0,none⟩) (L+1) cap5)).ownsRow B 102 5 (.slice (some ⟨g,0,none⟩) ps.length c) ps.length ((((ps.map Pe.o).map cellsO).flatten.set (j*5+2) (.int .i64 (NX:Int))).set (j*5+3) (.slice (some ⟨g5,0,none⟩) (L+1) cap5))):=hid (zb2 hr5)
  have HV15:Hid ((w5.setCell ⟨g,j*5+3,none⟩ (.slice (some ⟨g5,0,none⟩) (L+1) cap5)).ownsRow B 3 1 (.slice (some ⟨g5,0,none⟩) (L+1) cap5) (L+1) (xsv++[.int .i64 (NX:Int)])):=hid (zan HO5.out has (fun k hk e=>zag HO5.out hr5 (by decide) k hk (by rw[e];rfl)))
  have HM15:Hid ((w5.setCell ⟨g,j*5+3,none⟩ (.slice (some ⟨g5,0,none⟩) (L+1) cap5)).ownsRow B 88 59 (.slice mA L mc) L xsm):=hid (zan hm5 has (fun k hk e=>zag hm5 hr5 (by decide) k hk (by rw[e];rfl)))
  have HB15:Hid (Blk (w5.setCell ⟨g,j*5+3,none⟩ (.slice (some ⟨g5,0,none⟩) (L+1) cap5)) w.heap.size 88 cs):=hid (hb5.kept has (fun e=>zao hr5 hb5 (by decide) (by rw[e];rfl)))
  have HZ1:Hid ((w5.setCell ⟨g,j*5+3,none⟩ (.slice (some ⟨g5,0,none⟩) (L+1) cap5)).cell? ⟨g,j*5+1,none⟩=some (.int .i64 (NX:Int))):=hid ((zaq w5 _ _ _ (by omega)).trans ((World.cell?_of_block (HA5.out.block g HLG.out HG5.out)).trans HY1.out))
  have z4:(w5.setCell ⟨g,j*5+3,none⟩ (.slice (some ⟨g5,0,none⟩) (L+1) cap5)).cell? ⟨g,j*5+4,none⟩=some (.slice mA L mc):=(zaq w5 _ _ _ (by omega)).trans ((World.cell?_of_block (HA5.out.block g HLG.out HG5.out)).trans HY4.out)
  have HF15:Hid (∀ i,(w5.setCell ⟨g,j*5+3,none⟩ (.slice (some ⟨g5,0,none⟩) (L+1) cap5)).frozen? ⟨g,i,none⟩=false):=hid fun i=>by rw[World.frozen?_setCell];exact (World.frozen?_of_block (HA5.out.block g HLG.out HG5.out)).trans (HFY.out i)
  have HOV5:Hid (∀ k,(Value.slice (some ⟨g5,0,none⟩) (L+1) cap5).ownBlock=some k→(Value.slice vA L vc).ownBlock=some k∨w4.heap.size≤k):=hid fun k hk=>by
   have hk':g5=k:=by simpa [Value.ownBlock] using hk
   rw[← hk']
   rcases HLI5.out with h1|h1
   ·exact .inl h1
   ·exact .inr (by have:=HXS.out;omega)
  have HW15:Hid (w.heap.size<(w5.setCell ⟨g,j*5+3,none⟩ (.slice (some ⟨g5,0,none⟩) (L+1) cap5)).heap.size∧g<(w5.setCell ⟨g,j*5+3,none⟩ (.slice (some ⟨g5,0,none⟩) (L+1) cap5)).heap.size):=hid ⟨HB15.out.lt,zdh HR15.out g rfl⟩
  clear has hr5 hm5 hb5 p3 fz3 y3 hsy
  generalize w5.setCell ⟨g,j*5+3,none⟩ (.slice (some ⟨g5,0,none⟩) (L+1) cap5)=W15 at HA15 HR15 HV15 HM15 HB15 HZ1 z4 HF15 HW15 ⊢
  have HNB15:Hid (¬ (Value.slice mA L mc).ownBlock=some w.heap.size):=hid HNBX.out
  refine Hl.wp_region_L 10 (S:=fun W=>W.cell? ⟨g,j*5+4,none⟩=some (.slice mA L mc)∧Blk W w.heap.size 88 cs) (by kernel_rfl) (by exact ⟨z4,HB15.out⟩) (fun hHeld=>?_)
  refine Hl.wpAnyL_take (i:=0) (oi:=_) (v:=?v0_1) rfl (by kernel_rfl) (by kernel_rfl) (by kernel_rfl) (by kernel_rfl) (fun _ _ _ h=>h) (Or.inl ⟨by rfl,?y0_1⟩) (by assumption) ?r0_1
  case y0_1=>(intro w hSw;(try dsimp only at hSw);have hSw1:=hSw.1;clear hSw;(try simp only[kA,kB]);go_simp;try (with_reducible rfl))
  try simp only[Act.put,kF,kD,kE,kA,kB]
  refine Hl.wpAnyL_take (i:=1) (oi:=_) (v:=?v1_2) rfl (by kernel_rfl) (by kernel_rfl) (by kernel_rfl) (by kernel_rfl) (fun _ _ _ h=>h) (Or.inl ⟨by rfl,?y1_2⟩) (by assumption) ?r1_2
  case y1_2=>(intro w hSw;(try dsimp only at hSw);have hSw1:=hSw.1;clear hSw;(try simp only[kA,kB,kC]);go_simp;try (with_reducible rfl))
  try simp only[Act.put,kF,kD,kE,kA,kB,kC]
  refine Hl.wpAnyL_take (i:=2) (oi:=_) (v:=?v2_3) rfl (by kernel_rfl) (by kernel_rfl) (by kernel_rfl) (by kernel_rfl) (fun _ _ _ h=>h) (Or.inl ⟨by rfl,?y2_3⟩) (by assumption) ?r2_3
  case y2_3=>(intro w hSw;(try dsimp only at hSw);have hSw1:=hSw.1;clear hSw;(try simp only[kA,kB,kC]);go_simp;try (with_reducible rfl))
  try simp only[Act.put,kF,kD,kE,kA,kB,kC]
  refine Hl.wpAnyL_take (i:=3) (oi:=_) (v:=?v3_4) rfl (by kernel_rfl) (by kernel_rfl) (by kernel_rfl) (by kernel_rfl) (fun _ _ _ h=>h) (Or.inl ⟨by rfl,?y3_4⟩) (by assumption) ?r3_4
  case y3_4=>(intro w hSw;(try dsimp only at hSw);have hSw1:=hSw.1;clear hSw;(try simp only[kA,kB,kC]);go_simp;try (with_reducible rfl))
  try simp only[Act.put,kF,kD,kE,kA,kB,kC]
  refine Hl.wpAnyL_take (i:=4) (oi:=_) (v:=?v4_5) rfl (by kernel_rfl) (by kernel_rfl) (by kernel_rfl) (by kernel_rfl) (fun _ _ _ h=>h) (Or.inl ⟨by rfl,?y4_5⟩) (by assumption) ?r4_5
  case y4_5=>(intro w hSw;(try dsimp only at hSw);have hSw1:=hSw.1;clear hSw;(try simp only[kA,kB,kC]);go_simp;try (with_reducible rfl))
  try simp only[Act.put,kF,kD,kE,kA,kB,kC]
  refine Hl.wpAnyL_take (i:=5) (oi:=_) (v := .agg cs) rfl (by kernel_rfl) (by kernel_rfl) (by kernel_rfl) (by kernel_rfl) (fun _ _ _ h=>h) (zbz (by rfl) 88 (.tmp 7) rfl w.heap.size rfl cs 88 _ (fun W hW=>hW.2) Tryz.underlying88 rfl HI.out) (by assumption) ?r5_6
  try simp only[Act.put,kF,kD,kE,kA,kB,kC]
  refine Hl.wpAnyL_one (i:=6) (by kernel_rfl) rfl (fun K hK=>?_)
  refine zc9 W15.drew ?_ 100 (.tmp 99) ?_ 88 i1 zm cs Tryz.underlying100 HIm.out HZ0m.out (by rw[HZ1m.out];exact HCSX.out.1.symm) (by rw[HCSX.out.1];decide) (by rw[HCSX.out.1];decide) ?_ ?_
  ·rfl
  ·rfl
  ·rfl
  refine hK.out _ _ (fun _=>by exact ⟨(World.cell?_alloc_lt _ _ _ HW15.out.2).trans z4,HB15.out.alloc _⟩) (fun hHeld=>?_)
  replace hHeld:=hHeld (by decide)
  clear hK K
  try simp only[Act.put,kF,kD,kE,kA,kB,kC]
  refine Hl.wpAnyL_one (i:=7) (by kernel_rfl) rfl (fun K hK=>?_)
  refine step_append_lies ((W15.alloc (.cells cs 88)).drew) ?_ (.tmp 98) (.tmp 100) 100 ?_ B 88 i1 zm 59 856 Tryz.underlying100 HIm.out HZ0m.out HZ1m.out HZ2m.out HZ3m.out (by decide) (.slice mA L mc) L xsm ?_ (zax HM15.out (Below.new1 W15 (.cells cs 88)).drew) ⟨W15.heap.size,0,none⟩ 1 1 cs.toList ?_ (by rw[Array.length_toList,HCSX.out.1]) (zig W15 88 cs) (fun u hu=>by have h1:cs.all (·.oneCell')=true:=HCSX.out.2.1;rw[← Array.all_toList] at h1;exact List.all_eq_true.1 h1 u hu) (by decide) (by unfold maxLen;omega) (by omega) (by have h1:=HW15.out.1;have h2:=HBB.out;simp[World.size_drew];omega) (W15.heap.size+1) (by simp[World.size_drew]) ?_
  ·rfl
  ·rfl
  ·rfl
  ·rfl
  intro g7 cap7 w7 hown7 hgrow7 hlie7 hlt7
  have HO7:=hid hown7
  have HLI7:=hid hlie7
  have HA7:Hid (Alt W15 w7 (fun k=>(Value.slice mA L mc).ownBlock=some k)):=hid (Alt.trans (Alt.drewN (Alt.alloc (Alt.refl W15 _) _) 1) (Alt.grow hgrow7) (fun _ _ h=>h))
  have HG7:Hid (¬ (Value.slice mA L mc).ownBlock=some g):=hid (fun e=>zag HM15.out HR15.out (by decide) g e rfl)
  have p7:w7.cell? ⟨g,j*5+4,none⟩=some (.slice mA L mc):=(World.cell?_of_block (HA7.out.block g HW15.out.2 HG7.out)).trans z4
  have hb7:Blk w7 w.heap.size 88 cs:=HB15.out.kept HA7.out (fun e=>HNB15.out e)
  have fz7:w7.frozen? ⟨g,j*5+4,none⟩=false:=(World.frozen?_of_block (HA7.out.block g HW15.out.2 HG7.out)).trans (HF15.out _)
  have HOM7:Hid (∀ k,(Value.slice (some ⟨g7,0,none⟩) (L+1) cap7).ownBlock=some k→(Value.slice mA L mc).ownBlock=some k∨w4.heap.size≤k):=hid fun k hk=>by
   have hk':g7=k:=by simpa [Value.ownBlock] using hk
   rw[← hk']
   rcases HLI7.out with h1|h1
   ·exact .inl h1
   ·exact .inr (by have:=HA15.out.size;omega)
  clear hown7 hgrow7 hlie7 hlt7
  try simp only[Act.put,kF]
  refine hK.out _ _ (fun _=>by exact ⟨p7,hb7⟩) (fun hHeld=>?_)
  replace hHeld:=hHeld (by decide)
  clear hK K
  try simp only[kD,kE,kA,kB,kC]
  refine Hl.wpAnyL_one (i:=8) (by kernel_rfl) rfl (fun K hK=>?_)
  try simp only[kA,kB,kC]
  go_simp
  refine hK.out _ _ (fun _=>by exact ⟨p7,hb7⟩) (fun hHeld=>?_)
  replace hHeld:=hHeld (by decide)
  clear hK K
  try simp only[Act.put,kF,kD,kE,kA,kB,kC]
  refine Hl.wpAnyL_one (i:=9) (by kernel_rfl) rfl (fun K hK=>?_)
  try simp only[kA,kB,kC]
  go_simp
  refine hK.out _ _ (fun _=>by exact ⟨p7,hb7⟩) (fun hHeld=>?_)
  replace hHeld:=hHeld (by decide)
  clear hK K
  try simp only[Act.put,kF,kD,kE,kA,kB,kC]
  clear hb7
  refine Hl.wpAnyL_one (i:=10) (by kernel_rfl) rfl (fun K hK=>?_)
  try simp only[kA,kB,kC]
  go_simp
  refine hK.out _ _ (fun h=>absurd rfl h) (fun hHeld=>?_)
  clear hK K
  try simp only[Act.put,kF,kD,kE,kA,kB,kC]
  refine Hl.wpAnyL_done (by kernel_rfl) ?_ _
  go_upto_region 17 with fail
  have has:Alt w7 (w7.setCell ⟨g,j*5+4,none⟩ (.slice (some ⟨g7,0,none⟩) (L+1) cap7)) (fun k=>k=g):=Alt.set_ (p:=fun k=>k=g) (a:=⟨g,j*5+4,none⟩) (Alt.refl _ _) rfl _
  have hr7:=zan HR15.out HA7.out (fun k hk=>by have:k=g:=(by simpa [Value.ownBlock] using hk.symm);rw[this];exact HG7.out)
  have hv7:=zan HV15.out HA7.out (fun k hk e=>zag HV15.out HM15.out (by decide) k hk e)
  have HA16:Hid (Alt w4 (w7.setCell ⟨g,j*5+4,none⟩ (.slice (some ⟨g7,0,none⟩) (L+1) cap7)) (fun k=>k=g∨p.own k)):=hid ((HA15.out.trans HA7.out (fun k _ e => .inr (HOMX.out k e))).trans has (fun k _ e => .inl e))
  have HR16:Hid ((w7.setCell ⟨g,j*5+4,none⟩ (.slice (some ⟨g7,0,none⟩) (L+1) cap7)).ownsRow B 102 5 (.slice (some ⟨g,0,none⟩) ps.length c) ps.length (((((ps.map Pe.o).map cellsO).flatten.set (j*5+2) (.int .i64 (NX:Int))).set (j*5+3) (.slice (some ⟨g5,0,none⟩) (L+1) cap5)).set (j*5+4) (.slice (some ⟨g7,0,none⟩) (L+1) cap7))):=hid (zb2 hr7)
  have HV16:Hid ((w7.setCell ⟨g,j*5+4,none⟩ (.slice (some ⟨g7,0,none⟩) (L+1) cap7)).ownsRow B 3 1 (.slice (some ⟨g5,0,none⟩) (L+1) cap5) (L+1) (xsv++[.int .i64 (NX:Int)])):=hid (zan hv7 has (fun k hk e=>zag hv7 hr7 (by decide) k hk (by rw[e];rfl)))
  have HM16:Hid ((w7.setCell ⟨g,j*5+4,none⟩ (.slice (some ⟨g7,0,none⟩) (L+1) cap7)).ownsRow B 88 59 (.slice (some ⟨g7,0,none⟩) (L+1) cap7) (L+1) (xsm++cs.toList)):=hid (zan HO7.out has (fun k hk e=>zag HO7.out hr7 (by decide) k hk (by rw[e];rfl)))
  have z1:(w7.setCell ⟨g,j*5+4,none⟩ (.slice (some ⟨g7,0,none⟩) (L+1) cap7)).cell? ⟨g,j*5+1,none⟩=some (.int .i64 (NX:Int)):=(zaq w7 _ _ _ (by omega)).trans ((World.cell?_of_block (HA7.out.block g HW15.out.2 HG7.out)).trans HZ1.out)
  have hf16:∀ i,(w7.setCell ⟨g,j*5+4,none⟩ (.slice (some ⟨g7,0,none⟩) (L+1) cap7)).frozen? ⟨g,i,none⟩=false:=fun i=>by rw[World.frozen?_setCell];exact (World.frozen?_of_block (HA7.out.block g HW15.out.2 HG7.out)).trans (HF15.out i)
  clear has hr7 hv7 fz7 p7
  generalize w7.setCell ⟨g,j*5+4,none⟩ (.slice (some ⟨g7,0,none⟩) (L+1) cap7)=W16 at HA16 HR16 HV16 HM16 z1 hf16 ⊢
  go_wp2
  go_ret2
  refine ⟨?_,?_⟩
  ·have h1:=HEQ.out.2.2.2.2.2.1
   rw[h1]
   rfl
  have has:Alt W16 (W16.setCell ⟨g,j*5+1,none⟩ (.int .i64 ((NX:Int)+1))) (fun k=>k=g):=Alt.set_ (p:=fun k=>k=g) (a:=⟨g,j*5+1,none⟩) (Alt.refl _ _) rfl _
  have hEQ:=HEQ.out
  have h5:∀ l∈(ps.map Pe.o).map cellsO,l.length=5:=fun l hl=>by obtain ⟨o,_,rfl⟩:=List.mem_map.1 hl;rfl
  have hjc:((ps.map Pe.o).map cellsO)[j]? = some (cellsO p.o):=by rw[List.getElem?_map,List.getElem?_map,HJX.out];rfl
  have hjl:j<((ps.map Pe.o).map cellsO).length:=(List.getElem?_eq_some_iff.1 hjc).1
  have hs5:∀ c:List Value,c.length=5→∀ l∈((ps.map Pe.o).map cellsO).set j c,l.length=5:=fun c hc l hl=>by
   rcases List.mem_or_eq_of_mem_set hl with h|rfl
   ·exact h5 l h
   ·exact hc
  have hrow:=zb2 (i:=j*5+1) (u := .int .i64 ((NX:Int)+1)) HR16.out
  obtain ⟨o',ho'⟩:∃ o':On,o'=⟨p.o.name,NX+1,NX,some ⟨g5,0,none⟩,L+1,cap5,some ⟨g7,0,none⟩,cap7⟩:=⟨_,rfl⟩
  have hrow2:(W16.setCell ⟨g,j*5+1,none⟩ (.int .i64 ((NX:Int)+1))).ownsRow B 102 5 (.slice (some ⟨g,0,none⟩) ps.length c) ps.length (((ps.map Pe.o).map cellsO).set j (cellsO o')).flatten:=by
   have e:(((ps.map Pe.o).map cellsO).set j (cellsO o')).flatten=(((((ps.map Pe.o).map cellsO).flatten.set (j*5+2) (.int .i64 (NX:Int))).set (j*5+3) (.slice (some ⟨g5,0,none⟩) (L+1) cap5)).set (j*5+4) (.slice (some ⟨g7,0,none⟩) (L+1) cap7)).set (j*5+1) (.int .i64 ((NX:Int)+1)):=by
    rw[← za8 _ j 2 _ (.int .i64 (NX:Int)) h5 hjc (by decide), ← za8 _ j 3 _ (.slice (some ⟨g5,0,none⟩) (L+1) cap5) (hs5 _ rfl) (List.getElem?_set_self hjl) (by decide),List.set_set, ← za8 _ j 4 _ (.slice (some ⟨g7,0,none⟩) (L+1) cap7) (hs5 _ rfl) (List.getElem?_set_self hjl) (by decide),List.set_set, ← za8 _ j 1 _ (.int .i64 ((NX:Int)+1)) (hs5 _ rfl) (List.getElem?_set_self hjl) (by decide),List.set_set,ho']
    rfl
   rw[e]
   exact hrow
  have hlts:L=p.ts.length:=by rw[hEQ.1,HPX.out.n]
  have hA17:=HA16.out.trans has (fun k _ e=>Or.inl e)
  have hnx:=HNX.out
  have hpe:=znz hst HSPX.out.ps (v:=NX) HJX.out hA17 (o':=o') (by rw[ho', ← hlts]) (by first|exact hrow2|(rw[hnx] at hrow2 ⊢;exact hrow2))
   (by rw[ho', ← HXV.out];exact zan HV16.out has (fun k hk e=>zag HV16.out HR16.out (by decide) k hk (by rw[e];rfl)))
   (by rw[ho', ← HXM.out];exact zan HM16.out has (fun k hk e=>zag HM16.out HR16.out (by decide) k hk (by rw[e];rfl)))
   (by rw[ho',show p.o.vv = .slice vA L vc by rw[hEQ.1,hEQ.2.1,hEQ.2.2.1]];exact HOV5.out)
   (by rw[ho',show p.o.mv = .slice mA L mc by rw[hEQ.1,hEQ.2.2.2.1,hEQ.2.2.2.2.1]];exact HOM7.out) HCSX.out
  have hpt2:=HSPX.out.pt
  refine ⟨farN w4 _ far,_,ps.set j ⟨o',p.ts++[⟨NX,ms,cs⟩]⟩,⟨hpt2.kept hA17 (fun e=>e.elim (fun e=>zbx HSPX.out.ps.row hpt2 (by decide) (by rw[e];rfl)) (fun e=>e.elim (fun e=>zao HPX.out.vr hpt2 (by decide) e) (fun e=>zao HPX.out.mr hpt2 (by decide) e))),hpe.1,HSPX.out.bg,.inl HSPX.out.fg⟩,?_,?_,?_,fun k h => .inl (HREL.out.2.2.1 k h),?_⟩
  ·have e:=HFIN.out ⟨o',p.ts++[⟨NX,ms,cs⟩]⟩ (by
    unfold putS Pe.s
    rw[ho', ← hEQ.2.2.2.2.2.1]
    simp only
    rw[if_pos (by rw[List.length_map, ← hlts];exact HL0.out),List.map_append]
    rfl)
   rw[← hEQ.2.2.2.2.2.1] at e
   show _=pfC _ ⟨1,name,p.o.next,ms⟩
   rw[← hEQ.2.2.2.2.2.1]
   exact e
  ·rintro q (e|e|⟨x,hx,e⟩)
   ·exact HREL.out.1 q (.inl e)
   ·exact HREL.out.1 q (.inr (.inl e))
   ·rcases List.mem_or_eq_of_mem_set hx with hx|rfl
    ·exact HREL.out.1 q (.inr (.inr ⟨x,hx,e⟩))
    ·rcases hpe.2 q e with h1|h1
     ·exact HREL.out.1 q (.inr (.inr ⟨p,za7 HJX.out,h1⟩))
     ·exact .inr (Nat.le_trans HREL.out.2.1.size h1)
  ·refine HREL.out.2.1.trans hA17 (fun q hq e=>?_)
   have h1:So gp (.slice (some ⟨g,0,none⟩) ps.length c) ps q:=e.elim (fun e => .inr (.inl (by rw[e];rfl))) (fun e => .inr (.inr ⟨p,za7 HJX.out,e⟩))
   rcases HREL.out.1 q h1 with h2|h2
   ·exact h2
   ·omega
  ·rintro q (h|⟨h1,h2⟩)
   ·rcases HREL.out.2.2.2 q h with h3|⟨h3,h4⟩
    ·exact .inl h3
    ·exact .inr ⟨h3,Nat.lt_of_lt_of_le h4 hA17.size⟩
   ·exact .inr ⟨Nat.le_trans HREL.out.2.1.size h1,h2⟩
 ·have hL0:((L:Int) == 0)=false:=by rw[beq_eq_false_iff_ne];omega
  have HL0:=hid hL
  clear hL
  go_upto_region 15 with fail
  have HAY:Hid (Alt w4 w4 (fun k=>k=g∨p.own k)):=hid (Alt.refl _ _)
  have HRY:=HRX
  have HVY:=HVX
  have HMY:=HMX
  have HBY:=HBX
  have y1:=q1
  have y3:=q3
  have y4:=q4
  have HFY:=HGFX
  have hsy:w.heap.size<w4.heap.size:=HBY.out.lt
  clear q1 q2 q3 q4
  have HY1:=hid y1
  have HY4:=hid y4
  have HXS:Hid (w4.heap.size≤w4.heap.size):=hid HAY.out.size
  have HBB:Hid (B≤w.heap.size):=hid hBB
  have HLG:Hid (g<w4.heap.size):=hid (zdh HRY.out g rfl)
  clear y1 y4
  go_upto_region 16 with (at_builtin;go_loud (refine wpList_append_lies _ rfl _ _ 80 rfl B 3 i0 zv 1 8 Tryz.underlying80 HIv.out HZ0v.out HZ1v.out HZ2v.out HZ3v.out (by decide) (.slice vA L vc) L xsv rfl (by exact (zax HVY.out (Below.new1 w4 _))) ⟨w4.heap.size,0,none⟩ 1 1 [.int .i64 (NX:Int)] rfl rfl (fun r u hu=>zc5 w4 _ _ r u hu) (zd8 rfl) (by decide) (by unfold maxLen;omega) (by omega) (by simp;omega) (w4.heap.size+1) (by simp) ?_;intro g5 cap5 w5 hown5 hgrow5 hlie5 hlt5;have HO5:=hid hown5;have HLI5:=hid hlie5;have ha5:Alt w4 w5 (fun k=>(Value.slice vA L vc).ownBlock=some k):=(Alt.alloc (Alt.refl w4 _) _).trans (Alt.grow hgrow5) (fun _ _ h=>h);have HA5:=hid ha5;have hg5:¬ (Value.slice vA L vc).ownBlock=some g:=(fun e=>zag HVY.out HRY.out (by decide) g e rfl);have HG5:=hid hg5;have p3:w5.cell? ⟨g,j*5+3,none⟩=some (.slice vA L vc):=(World.cell?_of_block (ha5.block g HLG.out hg5)).trans y3;have fz3:w5.frozen? ⟨g,j*5+3,none⟩=false:=(World.frozen?_of_block (ha5.block g HLG.out hg5)).trans (HFY.out _);clear hown5 hgrow5 hlie5 hlt5 ha5 hg5))
  have has:Alt w5 (w5.setCell ⟨g,j*5+3,none⟩ (.slice (some ⟨g5,0,none⟩) (L+1) cap5)) (fun k=>k=g):=Alt.set_ (p:=fun k=>k=g) (a:=⟨g,j*5+3,none⟩) (Alt.refl _ _) rfl _
  have hr5:=zan HRY.out HA5.out (fun k hk=>by have:k=g:=(by simpa [Value.ownBlock] using hk.symm);rw[this];exact HG5.out)
  have hm5:=zan HMY.out HA5.out (fun k hk e=>zag HMY.out HVY.out (by decide) k hk e)
  have hb5:=HBY.out.kept HA5.out (fun e=>zao HVY.out HBY.out (by decide) e)
  have HA15:Hid (Alt w4 (w5.setCell ⟨g,j*5+3,none⟩ (.slice (some ⟨g5,0,none⟩) (L+1) cap5)) (fun k=>k=g∨p.own k)):=hid ((HAY.out.trans HA5.out (fun k _ e => .inr (HOVX.out k e))).trans has (fun k _ e => .inl e))
  have HR15:Hid ((w5.setCell ⟨g,j*5+3,none⟩ (.slice (some ⟨g5,0,none⟩) (L+1) cap5)).ownsRow B 102 5 (.slice (some ⟨g,0,none⟩) ps.length c) ps.length (((ps.map Pe.o).map cellsO).flatten.set (j*5+3) (.slice (some ⟨g5,0,none⟩) (L+1) cap5))):=hid (zb2 hr5)
  have HV15:Hid ((w5.setCell ⟨g,j*5+3,none⟩ (.slice (some ⟨g5,0,none⟩) (L+1) cap5)).ownsRow B 3 1 (.slice (some ⟨g5,0,none⟩) (L+1) cap5) (L+1) (xsv++[.int .i64 (NX:Int)])):=hid (zan HO5.out has (fun k hk e=>zag HO5.out hr5 (by decide) k hk (by rw[e];rfl)))
  have HM15:Hid ((w5.setCell ⟨g,j*5+3,none⟩ (.slice (some ⟨g5,0,none⟩) (L+1) cap5)).ownsRow B 88 59 (.slice mA L mc) L xsm):=hid (zan hm5 has (fun k hk e=>zag hm5 hr5 (by decide) k hk (by rw[e];rfl)))
  have HB15:Hid (Blk (w5.setCell ⟨g,j*5+3,none⟩ (.slice (some ⟨g5,0,none⟩) (L+1) cap5)) w.heap.size 88 cs):=hid (hb5.kept has (fun e=>zao hr5 hb5 (by decide) (by rw[e];rfl)))
  have HZ1:Hid ((w5.setCell ⟨g,j*5+3,none⟩ (.slice (some ⟨g5,0,none⟩) (L+1) cap5)).cell? ⟨g,j*5+1,none⟩=some (.int .i64 (NX:Int))):=hid ((zaq w5 _ _ _ (by omega)).trans ((World.cell?_of_block (HA5.out.block g HLG.out HG5.out)).trans HY1.out))
  have z4:(w5.setCell ⟨g,j*5+3,none⟩ (.slice (some ⟨g5,0,none⟩) (L+1) cap5)).cell? ⟨g,j*5+4,none⟩=some (.slice mA L mc):=(zaq w5 _ _ _ (by omega)).trans ((World.cell?_of_block (HA5.out.block g HLG.out HG5.out)).trans HY4.out)
  have HF15:Hid (∀ i,(w5.setCell ⟨g,j*5+3,none⟩ (.slice (some ⟨g5,0,none⟩) (L+1) cap5)).frozen? ⟨g,i,none⟩=false):=hid fun i=>by rw[World.frozen?_setCell];exact (World.frozen?_of_block (HA5.out.block g HLG.out HG5.out)).trans (HFY.out i)
  have HOV5:Hid (∀ k,(Value.slice (some ⟨g5,0,none⟩) (L+1) cap5).ownBlock=some k→(Value.slice vA L vc).ownBlock=some k∨w4.heap.size≤k):=hid fun k hk=>by
   have hk':g5=k:=by simpa [Value.ownBlock] using hk
   rw[← hk']
   rcases HLI5.out with h1|h1
   ·exact .inl h1
   ·exact .inr (by have:=HXS.out;omega)
  have HW15:Hid (w.heap.size<(w5.setCell ⟨g,j*5+3,none⟩ (.slice (some ⟨g5,0,none⟩) (L+1) cap5)).heap.size∧g<(w5.setCell ⟨g,j*5+3,none⟩ (.slice (some ⟨g5,0,none⟩) (L+1) cap5)).heap.size):=hid ⟨HB15.out.lt,zdh HR15.out g rfl⟩
  clear has hr5 hm5 hb5 p3 fz3 y3 hsy
  generalize w5.setCell ⟨g,j*5+3,none⟩ (.slice (some ⟨g5,0,none⟩) (L+1) cap5)=W15 at HA15 HR15 HV15 HM15 HB15 HZ1 z4 HF15 HW15 ⊢
  have HNB15:Hid (¬ (Value.slice mA L mc).ownBlock=some w.heap.size):=hid HNBX.out
  refine Hl.wp_region_L 10 (S:=fun W=>W.cell? ⟨g,j*5+4,none⟩=some (.slice mA L mc)∧Blk W w.heap.size 88 cs) (by kernel_rfl) (by exact ⟨z4,HB15.out⟩) (fun hHeld=>?_)
  refine Hl.wpAnyL_take (i:=0) (oi:=_) (v:=?v0_7) rfl (by kernel_rfl) (by kernel_rfl) (by kernel_rfl) (by kernel_rfl) (fun _ _ _ h=>h) (Or.inl ⟨by rfl,?y0_7⟩) (by assumption) ?r0_7
  case y0_7=>(intro w hSw;(try dsimp only at hSw);have hSw1:=hSw.1;clear hSw;(try simp only[kA,kB]);go_simp;try (with_reducible rfl))
  try simp only[Act.put,kF,kD,kE,kA,kB]
  refine Hl.wpAnyL_take (i:=1) (oi:=_) (v:=?v1_8) rfl (by kernel_rfl) (by kernel_rfl) (by kernel_rfl) (by kernel_rfl) (fun _ _ _ h=>h) (Or.inl ⟨by rfl,?y1_8⟩) (by assumption) ?r1_8
  case y1_8=>(intro w hSw;(try dsimp only at hSw);have hSw1:=hSw.1;clear hSw;(try simp only[kA,kB,kC]);go_simp;try (with_reducible rfl))
  try simp only[Act.put,kF,kD,kE,kA,kB,kC]
  refine Hl.wpAnyL_take (i:=2) (oi:=_) (v:=?v2_9) rfl (by kernel_rfl) (by kernel_rfl) (by kernel_rfl) (by kernel_rfl) (fun _ _ _ h=>h) (Or.inl ⟨by rfl,?y2_9⟩) (by assumption) ?r2_9
  case y2_9=>(intro w hSw;(try dsimp only at hSw);have hSw1:=hSw.1;clear hSw;(try simp only[kA,kB,kC]);go_simp;try (with_reducible rfl))
  try simp only[Act.put,kF,kD,kE,kA,kB,kC]
  refine Hl.wpAnyL_take (i:=3) (oi:=_) (v:=?v3_10) rfl (by kernel_rfl) (by kernel_rfl) (by kernel_rfl) (by kernel_rfl) (fun _ _ _ h=>h) (Or.inl ⟨by rfl,?y3_10⟩) (by assumption) ?r3_10
  case y3_10=>(intro w hSw;(try dsimp only at hSw);have hSw1:=hSw.1;clear hSw;(try simp only[kA,kB,kC]);go_simp;try (with_reducible rfl))
  try simp only[Act.put,kF,kD,kE,kA,kB,kC]
  refine Hl.wpAnyL_take (i:=4) (oi:=_) (v:=?v4_11) rfl (by kernel_rfl) (by kernel_rfl) (by kernel_rfl) (by kernel_rfl) (fun _ _ _ h=>h) (Or.inl ⟨by rfl,?y4_11⟩) (by assumption) ?r4_11
  case y4_11=>(intro w hSw;(try dsimp only at hSw);have hSw1:=hSw.1;clear hSw;(try simp only[kA,kB,kC]);go_simp;try (with_reducible rfl))
  try simp only[Act.put,kF,kD,kE,kA,kB,kC]
  refine Hl.wpAnyL_take (i:=5) (oi:=_) (v := .agg cs) rfl (by kernel_rfl) (by kernel_rfl) (by kernel_rfl) (by kernel_rfl) (fun _ _ _ h=>h) (zbz (by rfl) 88 (.tmp 7) rfl w.heap.size rfl cs 88 _ (fun W hW=>hW.2) Tryz.underlying88 rfl HI.out) (by assumption) ?r5_12
  try simp only[Act.put,kF,kD,kE,kA,kB,kC]
  refine Hl.wpAnyL_one (i:=6) (by kernel_rfl) rfl (fun K hK=>?_)
  refine zc9 W15.drew ?_ 100 (.tmp 99) ?_ 88 i1 zm cs Tryz.underlying100 HIm.out HZ0m.out (by rw[HZ1m.out];exact HCSX.out.1.symm) (by rw[HCSX.out.1];decide) (by rw[HCSX.out.1];decide) ?_ ?_
  ·rfl
  ·rfl
  ·rfl
  refine hK.out _ _ (fun _=>by exact ⟨(World.cell?_alloc_lt _ _ _ HW15.out.2).trans z4,HB15.out.alloc _⟩) (fun hHeld=>?_)
  replace hHeld:=hHeld (by decide)
  clear hK K
  try simp only[Act.put,kF,kD,kE,kA,kB,kC]
  refine Hl.wpAnyL_one (i:=7) (by kernel_rfl) rfl (fun K hK=>?_)
  refine step_append_lies ((W15.alloc (.cells cs 88)).drew) ?_ (.tmp 98) (.tmp 100) 100 ?_ B 88 i1 zm 59 856 Tryz.underlying100 HIm.out HZ0m.out HZ1m.out HZ2m.out HZ3m.out (by decide) (.slice mA L mc) L xsm ?_ (zax HM15.out (Below.new1 W15 (.cells cs 88)).drew) ⟨W15.heap.size,0,none⟩ 1 1 cs.toList ?_ (by rw[Array.length_toList,HCSX.out.1]) (zig W15 88 cs) (fun u hu=>by have h1:cs.all (·.oneCell')=true:=HCSX.out.2.1;rw[← Array.all_toList] at h1;exact List.all_eq_true.1 h1 u hu) (by decide) (by unfold maxLen;omega) (by omega) (by have h1:=HW15.out.1;have h2:=HBB.out;simp[World.size_drew];omega) (W15.heap.size+1) (by simp[World.size_drew]) ?_
  ·rfl
  ·rfl
  ·rfl
  ·rfl
  intro g7 cap7 w7 hown7 hgrow7 hlie7 hlt7
  have HO7:=hid hown7
  have HLI7:=hid hlie7
  have HA7:Hid (Alt W15 w7 (fun k=>(Value.slice mA L mc).ownBlock=some k)):=hid (Alt.trans (Alt.drewN (Alt.alloc (Alt.refl W15 _) _) 1) (Alt.grow hgrow7) (fun _ _ h=>h))
  have HG7:Hid (¬ (Value.slice mA L mc).ownBlock=some g):=hid (fun e=>zag HM15.out HR15.out (by decide) g e rfl)
  have p7:w7.cell? ⟨g,j*5+4,none⟩=some (.slice mA L mc):=(World.cell?_of_block (HA7.out.block g HW15.out.2 HG7.out)).trans z4
  have hb7:Blk w7 w.heap.size 88 cs:=HB15.out.kept HA7.out (fun e=>HNB15.out e)
  have fz7:w7.frozen? ⟨g,j*5+4,none⟩=false:=(World.frozen?_of_block (HA7.out.block g HW15.out.2 HG7.out)).trans (HF15.out _)
  have HOM7:Hid (∀ k,(Value.slice (some ⟨g7,0,none⟩) (L+1) cap7).ownBlock=some k→(Value.slice mA L mc).ownBlock=some k∨w4.heap.size≤k):=hid fun k hk=>by
   have hk':g7=k:=by simpa [Value.ownBlock] using hk
   rw[← hk']
   rcases HLI7.out with h1|h1
   ·exact .inl h1
   ·exact .inr (by have:=HA15.out.size;omega)
  clear hown7 hgrow7 hlie7 hlt7
  try simp only[Act.put,kF]
  refine hK.out _ _ (fun _=>by exact ⟨p7,hb7⟩) (fun hHeld=>?_)
  replace hHeld:=hHeld (by decide)
  clear hK K
  try simp only[kD,kE,kA,kB,kC]
  refine Hl.wpAnyL_one (i:=8) (by kernel_rfl) rfl (fun K hK=>?_)
  try simp only[kA,kB,kC]
  go_simp
  refine hK.out _ _ (fun _=>by exact ⟨p7,hb7⟩) (fun hHeld=>?_)
  replace hHeld:=hHeld (by decide)
  clear hK K
  try simp only[Act.put,kF,kD,kE,kA,kB,kC]
  refine Hl.wpAnyL_one (i:=9) (by kernel_rfl) rfl (fun K hK=>?_)
  try simp only[kA,kB,kC]
  go_simp
  refine hK.out _ _ (fun _=>by exact ⟨p7,hb7⟩) (fun hHeld=>?_)
  replace hHeld:=hHeld (by decide)
  clear hK K
  try simp only[Act.put,kF,kD,kE,kA,kB,kC]
  clear hb7
  refine Hl.wpAnyL_one (i:=10) (by kernel_rfl) rfl (fun K hK=>?_)
  try simp only[kA,kB,kC]
  go_simp
  refine hK.out _ _ (fun h=>absurd rfl h) (fun hHeld=>?_)
  clear hK K
  try simp only[Act.put,kF,kD,kE,kA,kB,kC]
  refine Hl.wpAnyL_done (by kernel_rfl) ?_ _
  go_upto_region 17 with fail
  have has:Alt w7 (w7.setCell ⟨g,j*5+4,none⟩ (.slice (some ⟨g7,0,none⟩) (L+1) cap7)) (fun k=>k=g):=Alt.set_ (p:=fun k=>k=g) (a:=⟨g,j*5+4,none⟩) (Alt.refl _ _) rfl _
  have hr7:=zan HR15.out HA7.out (fun k hk=>by have:k=g:=(by simpa [Value.ownBlock] using hk.symm);rw[this];exact HG7.out)
  have hv7:=zan HV15.out HA7.out (fun k hk e=>zag HV15.out HM15.out (by decide) k hk e)
  have HA16:Hid (Alt w4 (w7.setCell ⟨g,j*5+4,none⟩ (.slice (some ⟨g7,0,none⟩) (L+1) cap7)) (fun k=>k=g∨p.own k)):=hid ((HA15.out.trans HA7.out (fun k _ e => .inr (HOMX.out k e))).trans has (fun k _ e => .inl e))
  have HR16:Hid ((w7.setCell ⟨g,j*5+4,none⟩ (.slice (some ⟨g7,0,none⟩) (L+1) cap7)).ownsRow B 102 5 (.slice (some ⟨g,0,none⟩) ps.length c) ps.length ((((ps.map Pe.o).map cellsO).flatten.set (j*5+3) (.slice (some ⟨g5,0,none⟩) (L+1) cap5)).set (j*5+4) (.slice (some ⟨g7,0,none⟩) (L+1) cap7))):=hid (zb2 hr7)
  have HV16:Hid ((w7.setCell ⟨g,j*5+4,none⟩ (.slice (some ⟨g7,0,none⟩) (L+1) cap7)).ownsRow B 3 1 (.slice (some ⟨g5,0,none⟩) (L+1) cap5) (L+1) (xsv++[.int .i64 (NX:Int)])):=hid (zan hv7 has (fun k hk e=>zag hv7 hr7 (by decide) k hk (by rw[e];rfl)))
  have HM16:Hid ((w7.setCell ⟨g,j*5+4,none⟩ (.slice (some ⟨g7,0,none⟩) (L+1) cap7)).ownsRow B 88 59 (.slice (some ⟨g7,0,none⟩) (L+1) cap7) (L+1) (xsm++cs.toList)):=hid (zan HO7.out has (fun k hk e=>zag HO7.out hr7 (by decide) k hk (by rw[e];rfl)))
  have z1:(w7.setCell ⟨g,j*5+4,none⟩ (.slice (some ⟨g7,0,none⟩) (L+1) cap7)).cell? ⟨g,j*5+1,none⟩=some (.int .i64 (NX:Int)):=(zaq w7 _ _ _ (by omega)).trans ((World.cell?_of_block (HA7.out.block g HW15.out.2 HG7.out)).trans HZ1.out)
  have hf16:∀ i,(w7.setCell ⟨g,j*5+4,none⟩ (.slice (some ⟨g7,0,none⟩) (L+1) cap7)).frozen? ⟨g,i,none⟩=false:=fun i=>by rw[World.frozen?_setCell];exact (World.frozen?_of_block (HA7.out.block g HW15.out.2 HG7.out)).trans (HF15.out i)
  clear has hr7 hv7 fz7 p7
  generalize w7.setCell ⟨g,j*5+4,none⟩ (.slice (some ⟨g7,0,none⟩) (L+1) cap7)=W16 at HA16 HR16 HV16 HM16 z1 hf16 ⊢
  go_wp2
  go_ret2
  refine ⟨?_,?_⟩
  ·have h1:=HEQ.out.2.2.2.2.2.1
   rw[h1]
   rfl
  have has:Alt W16 (W16.setCell ⟨g,j*5+1,none⟩ (.int .i64 ((NX:Int)+1))) (fun k=>k=g):=Alt.set_ (p:=fun k=>k=g) (a:=⟨g,j*5+1,none⟩) (Alt.refl _ _) rfl _
  have hEQ:=HEQ.out
  have h5:∀ l∈(ps.map Pe.o).map cellsO,l.length=5:=fun l hl=>by obtain ⟨o,_,rfl⟩:=List.mem_map.1 hl;rfl
  have hjc:((ps.map Pe.o).map cellsO)[j]? = some (cellsO p.o):=by rw[List.getElem?_map,List.getElem?_map,HJX.out];rfl
  have hjl:j<((ps.map Pe.o).map cellsO).length:=(List.getElem?_eq_some_iff.1 hjc).1
  have hs5:∀ c:List Value,c.length=5→∀ l∈((ps.map Pe.o).map cellsO).set j c,l.length=5:=fun c hc l hl=>by
   rcases List.mem_or_eq_of_mem_set hl with h|rfl
   ·exact h5 l h
   ·exact hc
  have hrow:=zb2 (i:=j*5+1) (u := .int .i64 ((NX:Int)+1)) HR16.out
  obtain ⟨o',ho'⟩:∃ o':On,o'=⟨p.o.name,NX+1,LV,some ⟨g5,0,none⟩,L+1,cap5,some ⟨g7,0,none⟩,cap7⟩:=⟨_,rfl⟩
  have hrow2:(W16.setCell ⟨g,j*5+1,none⟩ (.int .i64 ((NX:Int)+1))).ownsRow B 102 5 (.slice (some ⟨g,0,none⟩) ps.length c) ps.length (((ps.map Pe.o).map cellsO).set j (cellsO o')).flatten:=by
   have e:(((ps.map Pe.o).map cellsO).set j (cellsO o')).flatten=((((ps.map Pe.o).map cellsO).flatten.set (j*5+3) (.slice (some ⟨g5,0,none⟩) (L+1) cap5)).set (j*5+4) (.slice (some ⟨g7,0,none⟩) (L+1) cap7)).set (j*5+1) (.int .i64 ((NX:Int)+1)):=by
    rw[← za8 _ j 3 _ (.slice (some ⟨g5,0,none⟩) (L+1) cap5) h5 hjc (by decide), ← za8 _ j 4 _ (.slice (some ⟨g7,0,none⟩) (L+1) cap7) (hs5 _ rfl) (List.getElem?_set_self hjl) (by decide),List.set_set, ← za8 _ j 1 _ (.int .i64 ((NX:Int)+1)) (hs5 _ rfl) (List.getElem?_set_self hjl) (by decide),List.set_set,ho',hEQ.2.2.2.2.2.2]
    rfl
   rw[e]
   exact hrow
  have hlts:L=p.ts.length:=by rw[hEQ.1,HPX.out.n]
  have hA17:=HA16.out.trans has (fun k _ e=>Or.inl e)
  have hnx:=HNX.out
  have hpe:=znz hst HSPX.out.ps (v:=NX) HJX.out hA17 (o':=o') (by rw[ho', ← hlts]) (by first|exact hrow2|(rw[hnx] at hrow2 ⊢;exact hrow2))
   (by rw[ho', ← HXV.out];exact zan HV16.out has (fun k hk e=>zag HV16.out HR16.out (by decide) k hk (by rw[e];rfl)))
   (by rw[ho', ← HXM.out];exact zan HM16.out has (fun k hk e=>zag HM16.out HR16.out (by decide) k hk (by rw[e];rfl)))
   (by rw[ho',show p.o.vv = .slice vA L vc by rw[hEQ.1,hEQ.2.1,hEQ.2.2.1]];exact HOV5.out)
   (by rw[ho',show p.o.mv = .slice mA L mc by rw[hEQ.1,hEQ.2.2.2.1,hEQ.2.2.2.2.1]];exact HOM7.out) HCSX.out
  have hpt2:=HSPX.out.pt
  refine ⟨farN w4 _ far,_,ps.set j ⟨o',p.ts++[⟨NX,ms,cs⟩]⟩,⟨hpt2.kept hA17 (fun e=>e.elim (fun e=>zbx HSPX.out.ps.row hpt2 (by decide) (by rw[e];rfl)) (fun e=>e.elim (fun e=>zao HPX.out.vr hpt2 (by decide) e) (fun e=>zao HPX.out.mr hpt2 (by decide) e))),hpe.1,HSPX.out.bg,.inl HSPX.out.fg⟩,?_,?_,?_,fun k h => .inl (HREL.out.2.2.1 k h),?_⟩
  ·have e:=HFIN.out ⟨o',p.ts++[⟨NX,ms,cs⟩]⟩ (by
    unfold putS Pe.s
    rw[ho', ← hEQ.2.2.2.2.2.1]
    simp only
    rw[if_neg (by rw[List.length_map, ← hlts];exact HL0.out),List.map_append,hEQ.2.2.2.2.2.2]
    rfl)
   rw[← hEQ.2.2.2.2.2.1] at e
   show _=pfC _ ⟨1,name,p.o.next,ms⟩
   rw[← hEQ.2.2.2.2.2.1]
   exact e
  ·rintro q (e|e|⟨x,hx,e⟩)
   ·exact HREL.out.1 q (.inl e)
   ·exact HREL.out.1 q (.inr (.inl e))
   ·rcases List.mem_or_eq_of_mem_set hx with hx|rfl
    ·exact HREL.out.1 q (.inr (.inr ⟨x,hx,e⟩))
    ·rcases hpe.2 q e with h1|h1
     ·exact HREL.out.1 q (.inr (.inr ⟨p,za7 HJX.out,h1⟩))
     ·exact .inr (Nat.le_trans HREL.out.2.1.size h1)
  ·refine HREL.out.2.1.trans hA17 (fun q hq e=>?_)
   have h1:So gp (.slice (some ⟨g,0,none⟩) ps.length c) ps q:=e.elim (fun e => .inr (.inl (by rw[e];rfl))) (fun e => .inr (.inr ⟨p,za7 HJX.out,e⟩))
   rcases HREL.out.1 q h1 with h2|h2
   ·exact h2
   ·omega
  ·rintro q (h|⟨h1,h2⟩)
   ·rcases HREL.out.2.2.2 q h with h3|⟨h3,h4⟩
    ·exact .inl h3
    ·exact .inr ⟨h3,Nat.lt_of_lt_of_le h4 hA17.size⟩
   ·exact .inr ⟨Nat.le_trans HREL.out.2.1.size h1,h2⟩
end
end Go.Proofs.YtmejdkniafjncaaGreatDoor.Oc
