/- A server's groups in memory: what is laid out, what stands. -/
import Derived.Test.YtemgclnkgieldaaGreatDoorVg
set_option maxHeartbeats 4000000
set_option maxRecDepth 100000
namespace Go.Proofs.YtemgclnkgieldaaGreatDoor.Oc
open Go Go.RowKit Dk
def TS (w:World)(k:Nat):Prop:=TB w k∨∃ cs t fr,w.heap[k]? = some (.cells cs t fr)∧(t=116∨t=152∨t=176∨t=47)
theorem TS.same {w w':World}{k:Nat}(h:w'.heap[k]? = w.heap[k]?):TS w' k↔TS w k:=by unfold TS TB;rw[h]
abbrev Ks (w w':World):Prop:=Alt w w' (TS w)
theorem Ks.trans {w w1 w2:World}(h1:Ks w w1)(h2:Ks w1 w2):Ks w w2:=Alt.trans h1 h2 (fun k hk hq=>Classical.byContradiction fun hn=>hn ((TS.same (h1.block k hk hn)).1 hq))
theorem Ks.of {w w':World}(h:Below w.heap.size w w'):Ks w w':=alt_of_below h
theorem Kb.ks {w w':World}(h:Kb w w'):Ks w w':=h.mono fun _ h => .inl h
theorem zb4 {w:World}{g:Nat}{t:TypeId}{cs:Array Value}{fr:Nat×Nat}(h:w.heap[g]? = some (.cells cs t fr))(h1:t≠5)(h2:t≠157)(h3:t≠154)(h4:t≠240)(h5:t≠116)(h6:t≠152)(h7:t≠176)(h8:t≠47):¬ TS w g:=by
 rintro ((⟨es,q,e⟩|⟨cs',t',fr,e,ht⟩)|⟨cs',t',fr,e,ht⟩)
 ·rw[h] at e;cases e
 ·rw[h] at e
  injection e with e
  injection e with e1 e2
  subst e2
  rcases ht with ht|ht|ht|ht
  ·exact h1 ht
  ·exact h2 ht
  ·exact h3 ht
  ·exact h4 ht
 ·rw[h] at e
  injection e with e
  injection e with e1 e2
  subst e2
  rcases ht with ht|ht|ht|ht
  ·exact h5 ht
  ·exact h6 ht
  ·exact h7 ht
  ·exact h8 ht
theorem zxi {w:World}{B n sz:Nat}{t:TypeId}{v:Value}{xs:List Value}(h:w.ownsRow B t sz v n xs)(h1:t≠5)(h2:t≠157)(h3:t≠154)(h4:t≠240)(h5:t≠116)(h6:t≠152)(h7:t≠176)(h8:t≠47):∀ k,v.ownBlock=some k→¬ TS w k:=fun k hk=>by
 rcases h.2 with ⟨rfl,_⟩|⟨g',cap,cur,rfl,_,hh,_⟩
 ·cases hk
 ·have e:g'=k:=by simpa [Value.ownBlock] using hk
  subst e
  exact zb4 hh h1 h2 h3 h4 h5 h6 h7 h8
abbrev SMod:=World→List Int→Array Value→Prop
def StaysS (PR:SMod):Prop:=∀ (w w':World) (p:Nat→Prop) (ms:List Int) (cs:Array Value),PR w ms cs→Alt w w' p→(∀ k,k<w.heap.size→p k→TS w k)→PR w' ms cs
structure Rq where
 id:Int
 A:Option Addr
 n:Nat
 c:Nat
 xs:List Value
structure Gp where
 name:ByteArray
 ver:Nat
 cs:Array Value
 ms:List Int
 time:Nat
 aA:Option Addr
 ac:Nat
 rs:List Rq
structure Td where
 id:Int
 ver:Int
 time:Int
 err:Int
 rp:List Value
def cellsR (r:Rq):List Value:=[.int .i64 r.id,.slice r.A r.n r.c]
abbrev Gp.av (g:Gp):Value := .slice g.aA g.rs.length g.ac
def cellsG (g:Gp):List Value := .string g.name :: .int .i64 (g.ver:Int) :: (g.cs.toList++[.int .i64 (g.time:Int),g.av])
def cellsT (t:Td):List Value := .int .i64 t.id :: .int .i64 t.ver :: .int .i64 t.time :: .int .i64 t.err :: t.rp
theorem zbv {g:Gp}(h:g.cs.size=59):(cellsG g).length=63:=by
 unfold cellsG
 simp[h]
theorem zt4 {g:Gp}{j:Nat}{u:Value}(h:g.cs.toList[j]? = some u):(cellsG g)[2+j]? = some u:=by
 unfold cellsG
 rw[show 2+j=j+1+1 by omega,List.getElem?_cons_succ,List.getElem?_cons_succ,qB (kK.1 h).1,h]
theorem zn2 {g:Gp}(h:g.cs.size=59):(cellsG g)[61]? = some (.int .i64 (g.time:Int)):=by
 unfold cellsG
 rw[show 61=59+1+1 from rfl,List.getElem?_cons_succ,List.getElem?_cons_succ,kY (by simp[h])]
 simp[h]
theorem zdu {g:Gp}(h:g.cs.size=59):(cellsG g)[62]? = some g.av:=by
 unfold cellsG
 rw[show 62=60+1+1 from rfl,List.getElem?_cons_succ,List.getElem?_cons_succ,kY (by simp[h])]
 simp[h]
structure AnsH (PR:SMod)(M:List Int→Prop)(Cq:List Value→Prop)(ans:List Int→List Value→List Value×Int):Prop where
 st:StaysS PR
 len:∀ ms xs,M ms→Cq xs→(ans ms xs).1.length=6∧∀ u∈(ans ms xs).1,u.oneCell'=true
 call:∀ (w:World) (ms:List Int) (cs:Array Value) (A:Option Addr) (n c:Nat) (xs:List Value),PR w ms cs→M ms→Cq xs→w.ownsRow 0 124 7 (.slice A n c) n xs →
  Calls Tryz.prog 24 #[.agg cs,.slice A n c] w fun e w'=>e = .returned (.tuple #[.agg (ans ms xs).1.toArray,.int .i64 (ans ms xs).2])∧Below w.heap.size w w'
structure RqOk (Cq:List Value→Prop)(w:World)(r:Rq):Prop where
 cq:Cq r.xs
 row:w.ownsRow 0 124 7 (.slice r.A r.n r.c) r.n r.xs
structure GpOk (PR:SMod)(M:List Int→Prop)(Cq:List Value→Prop)(w:World)(B:Nat)(g:Gp):Prop where
 sz:g.cs.size=59
 one:AllOne g.cs
 md:PR w g.ms g.cs
 m:M g.ms
 row:w.ownsRow B 176 2 g.av g.rs.length (g.rs.map cellsR).flatten
 rq:∀ r∈g.rs,RqOk Cq w r
def tdOf (ans:List Int→List Value→List Value×Int)(ver time:Int)(ms:List Int)(r:Rq):Td:=⟨r.id,ver,time,(ans ms r.xs).2,(ans ms r.xs).1⟩
def TRow (w:World)(B:Nat)(v:Value)(ts:List Td):Prop:=w.ownsRow B 47 10 v ts.length (ts.map cellsT).flatten
theorem RqOk.ks {Cq:List Value→Prop}{w w':World}{r:Rq}(h:RqOk Cq w r){p:Nat→Prop}(ha:Alt w w' p)(hp:∀ k,k<w.heap.size→p k→TS w k):RqOk Cq w' r :=
 ⟨h.cq,zas h.row ha fun k hk hpk=>zxi h.row (by decide) (by decide) (by decide) (by decide) (by decide) (by decide) (by decide) (by decide) k hk (hp k (zd9 h.row k hk) hpk)⟩
theorem GpOk.alt {PR:SMod}{M:List Int→Prop}{Cq:List Value→Prop}(hst:StaysS PR){w w':World}{B:Nat}{g:Gp}(h:GpOk PR M Cq w B g){p:Nat→Prop}(ha:Alt w w' p)(hp:∀ k,k<w.heap.size→p k→TS w k)(hno:∀ k,g.av.ownBlock=some k→¬ p k):GpOk PR M Cq w' B g :=
 ⟨h.sz,h.one,hst _ _ _ _ _ h.md ha hp,h.m,zas h.row ha hno,fun r hr=>(h.rq r hr).ks ha hp⟩
theorem GpOk.below {PR:SMod}{M:List Int→Prop}{Cq:List Value→Prop}(hst:StaysS PR){w w':World}{B:Nat}{g:Gp}(h:GpOk PR M Cq w B g)(hb:Below w.heap.size w w'):GpOk PR M Cq w' B g :=
 h.alt hst (alt_of_below (p:=fun _=>False) hb) (fun _ _ h=>h.elim) (fun _ _ h=>h)
theorem zdv:(Tryz.prog.info? 47).map (fun i=>(i.zero,i.size,i.bytes))=some (some (.agg #[.int .i64 0,.int .i64 0,.int .i64 0,.int .i64 0,.int .i64 0,.bool false,.int .u64 0,.string ⟨#[]⟩,.int .u64 0,.string ⟨#[]⟩]),10,96):=by kernel_rfl
theorem zzh:(Tryz.prog.info? 176).map (·.size)=some 2:=by kernel_rfl
theorem zkr:(Tryz.prog.info? 45).map (·.size)=some 6:=by kernel_rfl
theorem zt5 (w:World)(n:Nat)(h:n≤1000000):∃ Z:List Value,Z.length=n*10∧(Instr.makeSlice 29 (.int .i64 0) (.int .i64 (n:Int))).run Tryz.prog w = .ok (.slice (some ⟨w.heap.size,0,none⟩) 0 n) (w.alloc (.cells Z.toArray 47))∧(w.alloc (.cells Z.toArray 47)).ownsRow w.heap.size 47 10 (.slice (some ⟨w.heap.size,0,none⟩) 0 n) 0 []:=by
 obtain ⟨i0,hi0,hz0,hz1,hz2⟩:=info_parts zdv
 have:=run_make (P:=Tryz.prog) w 29 47 i0 _ Tryz.underlying29 hi0 hz0 .i64 .i64 0 (n:Int) (by omega) (by omega) (by rw[hz2];omega) (by omega)
 have e1:((n:Int)).toNat=n:=by omega
 rw[e1] at this
 generalize hM:madeCells (Value.agg #[.int .i64 0,.int .i64 0,.int .i64 0,.int .i64 0,.int .i64 0,.bool false,.int .u64 0,.string ⟨#[]⟩,.int .u64 0,.string ⟨#[]⟩]).cells (n*i0.size)=Mc at this
 have hs:Mc.size=n*10:=by rw[← hM,size_madeCells,hz1]
 refine ⟨Mc.toList,by simpa using hs,by simpa using this,?_⟩
 have:=World.ownsRow_made (base:=w.heap.size) (e:=47) (size:=10) w Mc n (kJ _) (by unfold maxLen;omega) hs
 simpa using this
theorem zin {P:Program}(w:World)(a:Addr)(ty:TypeId)(cs:Array Value)(d:TypeDesc)(hc:∀ j u,cs.toList[j]? = some u→w.cell? (a.add j)=some u)
  (hu:P.underlying ty=some d) (hd:(match d with | .struct _ | .array _ _=>true|_=>false)=true) (hi:(P.info? ty).map (·.size)=some cs.size) :
  (loadVar ty a).run P w = .ok (.agg cs) w:=by
 have hl:(loadCells a cs.toList.length).run P w = .ok cs.toList.toArray w:=run_loadCells_list (P:=P) w a cs.toList hc
 cases hq:P.info? ty with
 |none=>simp[hq] at hi
 |some i =>
  have hs:i.size=cs.size:=by simpa [hq] using hi
  have hagg:(isAgg ty).run P w = .ok true w:=by
   unfold isAgg
   rw[Sem.run_bind,run_underlying hu w]
   cases d <;> simp_all
  simp only[Array.length_toList,Array.toArray_toList] at hl
  simp[loadVar,Sem.run_bind,hagg,sizeOf,typeInfo,hq,hs,hl]
theorem za1 {ops:Array Oper}{o:Oper}{a:Act}{Q:Exit→Act→World→Prop}{rest:List Oper}(w:World)(hgd:Region.wanted o (yielded ops a.tmps)=true)(t:TypeId)(p:Operand)(ho:o.op = .load t p)(ad:Addr)(cs:Array Value)(d:TypeDesc)(hp:a.eval p = .pointer (some ad))
  (hc:∀ j u,cs.toList[j]? = some u→w.cell? (ad.add j)=some u) (hu:Tryz.prog.underlying t=some d) (hd:(match d with | .struct _ | .array _ _=>true|_=>false)=true) (hi:(Tryz.prog.info? t).map (·.size)=some cs.size)
  (hK:wpList Tryz.prog ops Q rest (a.put o.dst (.agg cs)) w):wpList Tryz.prog ops Q (o :: rest) a w:=by
 have hrun:=zin (P:=Tryz.prog) w ad t cs d hc hu (by cases d <;> first|rfl|cases hd) hi
 refine wpList_step fun K' hK'=>?_
 rw[kZ hgd]
 unfold Oper.wp
 simp[execOp,ho,hp,Instr.loadAt,Instr.sureAddr,hrun,Result.andThen]
 exact hK' _ _ hK
theorem zt6 {w w':World}{b B n sz:Nat}{t t':TypeId}{cs:Array Value}{v:Value}{xs:List Value}{o:Obj}(h:Blk w b t' cs)(hg:(w.alloc o).grownBy w' v.ownBlock)(hr:w.ownsRow B t sz v n xs)(hne:t≠t'):Blk w' b t' cs :=
 (h.alloc o).kept (Alt.grow hg) (fun e=>zai hr h hne e)
theorem six {rp:List Value}(h:rp.length=6):∃ a b c d e f,rp=[a,b,c,d,e,f]:=by
 match rp,h with
 | [a,b,c,d,e,f],_=>exact ⟨a,b,c,d,e,f,rfl⟩
theorem flatR:∀ (rs:List Rq) (i t:Nat) (u:Value) {r:Rq},rs[i]? = some r→(cellsR r)[t]? = some u→((rs.map cellsR).flatten)[i*2+t]? = some u
 | [],i,t,u,r,h,_=>by cases h
 |p :: ps,0,t,u,r,h,ht=>by
  injection h with h
  subst h
  rw[kM,qD,Nat.zero_mul,Nat.zero_add,qB (kK.1 ht).1]
  exact ht
 |p :: ps,i+1,t,u,r,h,ht=>by
  have e:(i+1)*2+t - (cellsR p).length=i*2+t:=by show (i+1)*2+t - 2=_;omega
  rw[kM,qD,kY (by show 2≤_;omega),e]
  exact flatR ps i t u h ht
section
variable {PR:SMod}{M:List Int→Prop}{Cq:List Value→Prop}{ans:List Int→List Value→List Value×Int}(ha:AnsH PR M Cq ans){w:World}{B:Nat}{g:Gp}
include ha
theorem zjh (hg:GpOk PR M Cq w B g)(hn:g.rs.length≤1000)(time:Int) :
  Calls Tryz.prog 34 #[.agg (cellsG g).toArray,.int .i64 time] w fun e w'=>∃ b c,e = .returned (.slice (some ⟨b,0,none⟩) g.rs.length c)∧TRow w' w.heap.size (.slice (some ⟨b,0,none⟩) g.rs.length c) (g.rs.map (tdOf ans (g.ver:Int) time g.ms))∧Below w.heap.size w w':=by
 have HA:=kA ha
 have HG:=kA hg
 obtain ⟨n,hnn⟩:∃ n,n=g.rs.length:=⟨_,rfl⟩
 have HN:=kA hnn
 have hn1:n≤1000:=by omega
 obtain ⟨GC,hGC⟩:∃ x,x=(cellsG g).toArray:=⟨_,rfl⟩
 have HGC:=kA hGC
 rw[← hGC]
 have HCG:Hid (∀ (i:Nat) (u:Value),(cellsG g)[i]? = some u→GC[i]? = some u):=kA fun i u h=>by rw[hGC];simpa using h
 obtain ⟨Z,hZ,hmk,hmo⟩:=zt5 (w.alloc (.cells GC 152)) n (by omega)
 obtain ⟨iT,hi0,hz0,hz1,hz2⟩:=info_parts zdv
 have HIT:=kA hi0
 obtain ⟨zT,hzT⟩:∃ z,z=Value.agg #[.int .i64 0,.int .i64 0,.int .i64 0,.int .i64 0,.int .i64 0,.bool false,.int .u64 0,.string ⟨#[]⟩,.int .u64 0,.string ⟨#[]⟩]:=⟨_,rfl⟩
 rw[← hzT] at hz0
 have HZ0T:=kA hz0
 have HZ1T:=kA hz1
 have HZ2T:=kA hz2
 have HZ3T:Hid (zT.cells.size=10):=kA (by rw[hzT];rfl)
 clear hi0 hz0 hz1 hz2 hzT
 clear ha hg hn hnn hGC
 go_enter Tryz.func34,Tryz.ntmps34
 have HB1:Hid (Below w.heap.size w (w.alloc (.cells GC 152))):=kA (Below.new1 w _)
 have HK1:Hid (Blk (w.alloc (.cells GC 152)) w.heap.size 152 GC):=kA (Blk.new w _ _)
 go_upto_region 1 with fail
 generalize w.alloc (.cells GC 152)=W1 at HB1 HK1 hmk hmo ⊢
 have x62:W1.cell? ⟨w.heap.size,62,none⟩=some (.slice g.aA n g.ac):=(HK1.out.cell 62).trans (by rw[HCG.out 62 _ (zdu HG.out.sz),HN.out])
 have HZ:=kA hZ
 have HMO:=kA hmo
 clear hZ hmo
 go_upto_region 2 with fail
 have HB2:Hid (Below w.heap.size w (W1.alloc (.cells Z.toArray 47))):=kA (HB1.out.alloc HB1.out.size _)
 have HK2:Hid (Blk (W1.alloc (.cells Z.toArray 47)) w.heap.size 152 GC):=kA (HK1.out.alloc _)
 have HS1:Hid (w.heap.size<W1.heap.size):=kA HK1.out.lt
 clear hmk x62
 generalize W1.alloc (.cells Z.toArray 47)=W2 at HB2 HK2 HMO ⊢
 have x62:W2.cell? ⟨w.heap.size,62,none⟩=some (.slice g.aA n g.ac):=(HK2.out.cell 62).trans (by rw[HCG.out 62 _ (zdu HG.out.sz),HN.out])
 go_wp2
 go_loopw [5,17] (fun v5 v17 wz=>∃ (i g5 c5:Nat),i≤n∧v17 = .int .i64 (i:Int)∧v5 = .slice (some ⟨g5,0,none⟩) i c5∧Hid (TRow wz w.heap.size (.slice (some ⟨g5,0,none⟩) i c5) ((g.rs.take i).map (tdOf ans (g.ver:Int) time g.ms)))∧Hid (Below w.heap.size w wz)∧Hid (Blk wz w.heap.size 152 GC)) (fun _ v17 _=>n - (intOf v17).toNat)
 case atStart=>exact ⟨0,_,_,kX _,rfl,rfl,kA (zau HMO.out (Nat.le_of_lt HS1.out)),HB2,HK2⟩
 case round =>
  obtain ⟨i,g5,c5,hi,rfl,rfl,htr,hbe,hbk⟩:=hrel
  by_cases hlt:i<n
  ·obtain ⟨r,hr⟩:∃ r,g.rs[i]? = some r:=⟨_,kV (by rw[← HN.out];exact hlt)⟩
   have HR:=kA hr
   have hrow:=zad HG.out.row hbe.out
   have hnp:0<g.rs.length:=by rw[← HN.out];omega
   obtain ⟨ga,gc,hav,_,_⟩:=hrow.form hnp
   have haA:g.aA=some ⟨ga,0,none⟩:=by injection hav
   rw[haA]
   have HLD:Hid (∀ j u,(#[Value.int .i64 r.id,.slice r.A r.n r.c]:Array Value).toList[j]? = some u→wr.cell? ((⟨ga,i*2,none⟩:Addr).add j)=some u):=kA (by
    intro j u hu
    rw[addk]
    have h1:=hrow.cells (g:=ga) (by rw[hav];rfl) (i*2+j) u (flatR g.rs i j u hr hu)
    rw[add0] at h1
    exact h1)
   have hlt':(i:Int)<(n:Int):=by omega
   clear hr hrow hnp hav haA
   go_upto_region 5 with (refine za1 _ rfl 176 _ rfl ⟨ga,i*2,none⟩ #[.int .i64 r.id,.slice r.A r.n r.c] _ rfl (by exact HLD.out) Tryz.underlying176 rfl zzh ?_)
   have HB5:Hid (Below wr.heap.size wr (wr.alloc (.cells #[.int .i64 r.id,.slice r.A r.n r.c] 176))):=kA (Below.new1 wr _)
   have HK5:Hid (Blk (wr.alloc (.cells #[.int .i64 r.id,.slice r.A r.n r.c] 176)) wr.heap.size 176 #[.int .i64 r.id,.slice r.A r.n r.c]):=kA (Blk.new wr _ _)
   generalize wr.alloc (.cells #[.int .i64 r.id,.slice r.A r.n r.c] 176)=W5 at HB5 HK5 ⊢
   have HG5:=kA (zab hbk.out HB5.out)
   have HMC:Hid (∀ W,Blk W w.heap.size 152 GC→∀ j u,g.cs.toList[j]? = some u→W.cell? ((⟨w.heap.size,2,none⟩:Addr).add j)=some u):=kA (fun W hW j u hu=>by
    rw[addk]
    exact (hW.cell (2+j)).trans (HCG.out _ _ (zt4 hu)))
   have c51:W5.cell? ⟨wr.heap.size,1,none⟩=some (.slice r.A r.n r.c):=HK5.out.cell 1
   have HM5:=kA (HA.out.st _ _ _ _ _ HG.out.md (alt_of_below (p:=fun _=>False) (hbe.out.trans (HB5.out.mono hbe.out.size))) (fun _ _ h=>h.elim))
   have hrq:=HG.out.rq r (by obtain ⟨h1,h2⟩:=kK.1 HR.out;rw[← h2];exact List.getElem_mem h1)
   have HRQ:=kA hrq
   have HRW:=kA (zad hrq.row (hbe.out.trans (HB5.out.mono hbe.out.size)))
   obtain ⟨hl6,h16⟩:=HA.out.len g.ms r.xs HG.out.m hrq.cq
   obtain ⟨rp,hrp⟩:∃ x,x=(ans g.ms r.xs).1:=⟨_,rfl⟩
   obtain ⟨er,her⟩:∃ x,x=(ans g.ms r.xs).2:=⟨_,rfl⟩
   have HRP:=kA (And.intro hrp her)
   rw[← hrp] at hl6 h16
   have HR6:Hid (rp.toArray.size=6):=kA (by simpa using hl6)
   have HO6:Hid (rp.toArray.all (·.oneCell')=true):=kA (by rw[← Array.all_toList];simpa using h16)
   clear hrq hl6 h16 hrp her
   go_upto_region 6 with (first
    |(refine za1 _ rfl 90 _ rfl ⟨w.heap.size,2,none⟩ g.cs _ rfl (by exact HMC.out _ HG5.out) Tryz.underlying90 rfl (HG.out.sz.symm ▸ zba) ?_)
    |(go_at_call 24;refine (HA.out.call W5 g.ms g.cs r.A r.n r.c r.xs HM5.out HG.out.m HRQ.out.cq HRW.out).mono ?_;rintro e w6 ⟨rfl,hb6⟩;rw[← HRP.out.1, ← HRP.out.2];have HB6:=kA (HB5.out.trans (hb6.mono HB5.out.size));have HG6:=kA (zab HG5.out hb6);have HK6:=kA (zab HK5.out hb6);clear hb6)
    |(refine zaw _ rfl 45 _ _ rfl w6.heap.size _ rp.toArray 45 rfl rfl (by exact Blk.new w6 _ _) (HR6.out.symm ▸ zkr) (by rw[HR6.out];rfl) HO6.out ?_;intro w7 hb7 ha7 hs7;have HK7r:=kA hb7;have HA7:=kA ha7;have HS7:=kA hs7;clear hb7 ha7 hs7))
   have HG7:Hid (Blk w7 w.heap.size 152 GC):=kA ((HG6.out.alloc _).kept HA7.out (fun e=>Nat.ne_of_lt HG6.out.lt e))
   have HK7:Hid (Blk w7 wr.heap.size 176 #[.int .i64 r.id,.slice r.A r.n r.c]):=kA ((HK6.out.alloc _).kept HA7.out (fun e=>Nat.ne_of_lt HK6.out.lt e))
   have HB7:Hid (Below wr.heap.size wr w7):=kA ((HB6.out.alloc HB6.out.size _).trans (HA7.out.below (fun k e=>by rw[e];exact HB6.out.size) (by simp;have:=HB6.out.size;omega)))
   have HT7:=kA (zad htr.out HB7.out)
   obtain ⟨ra,rb,rc,rd,re,rf,hsix⟩:=six (rp:=rp) (by have:=HR6.out;simpa using this)
   subst hsix
   have c70:w7.cell? ⟨wr.heap.size,0,none⟩=some (.int .i64 r.id):=HK7.out.cell 0
   have c71:w7.cell? ⟨w.heap.size,1,none⟩=some (.int .i64 (g.ver:Int)):=(HG7.out.cell 1).trans (HCG.out 1 _ rfl)
   have HW7:Hid (w.heap.size≤w7.heap.size):=kA (kH hbe.out.size HB7.out.size)
   obtain ⟨xst,hxst⟩:∃ xs,xs=(((g.rs.take i).map (tdOf ans (g.ver:Int) time g.ms)).map cellsT).flatten:=⟨_,rfl⟩
   have HXT:=kA hxst
   have HT7x:Hid (w7.ownsRow w.heap.size 47 10 (.slice (some ⟨g5,0,none⟩) i c5) i xst):=kA (by
    have h1:=HT7.out
    unfold TRow at h1
    rw[kN,List.length_take,Nat.min_eq_left (by rw[← HN.out];exact hi), ← hxst] at h1
    exact h1)
   have HO10:Hid (∀ u ∈ [Value.int .i64 r.id,.int .i64 (g.ver:Int),.int .i64 time,.int .i64 er,ra,rb,rc,rd,re,rf],u.oneCell'=true):=kA (by
    intro u hu
    have h1:=HO6.out
    rw[← Array.all_toList] at h1
    have h2:=List.all_eq_true.1 h1
    simp only[List.mem_cons] at hu
    rcases hu with rfl|rfl|rfl|rfl|hu
    ·rfl
    ·rfl
    ·rfl
    ·rfl
    ·exact h2 u (by simpa using hu))
   clear c51 HG5 HK5 HM5 HRW HG6 HK6 HA7 HS7 HB5 HB6 hxst
   go_upto_region 7 with (first
    |(refine zar _ rfl 45 _ rfl w6.heap.size #[ra,rb,rc,rd,re,rf] 45 (0,0) _ rfl (by exact HK7r.out) Tryz.underlying45 rfl zkr ?_)
    |(at_builtin;go_loud (refine wpList_append_lies _ rfl _ _ 29 rfl w.heap.size 47 iT zT 10 96 Tryz.underlying29 HIT.out HZ0T.out HZ1T.out HZ2T.out HZ3T.out (by decide) (.slice (some ⟨g5,0,none⟩) i c5) i xst rfl (by exact zad HT7x.out (Below.new1 w7 _)) ⟨w7.heap.size,0,none⟩ 1 1 [.int .i64 r.id,.int .i64 (g.ver:Int),.int .i64 time,.int .i64 er,ra,rb,rc,rd,re,rf] rfl rfl (fun r u hu=>zko w7 _ _ r u hu) (by exact HO10.out) (by decide) (by unfold maxLen;omega) (by omega) (by simp;have:=HW7.out;omega) (w7.heap.size+1) (by simp) ?_;intro g8 cap8 w8 hown8 hgrow8 hlie8 hlt8;have HO8:=kA hown8;have HB8:Hid (Below w.heap.size w7 w8):=kA (((Below.refl w.heap.size w7).alloc HW7.out _).trans (Alt.toBelow (Alt.grow hgrow8) (fun k _ e=>(World.ownsRow.lt HT7x.out k e).1) (by simp;have:=HW7.out;omega)));have HG8:=kA (zt6 HG7.out hgrow8 HT7x.out (by decide));clear hown8 hgrow8 hlie8 hlt8)))
   have HRN:Hid (TRow w8 w.heap.size (.slice (some ⟨g8,0,none⟩) (i+1) cap8) ((g.rs.take (i+1)).map (tdOf ans (g.ver:Int) time g.ms))):=kA (by
    unfold TRow
    rw[List.take_add_one,HR.out,Option.toList_some,kL,kL,qQ,kI,kN,List.length_take,Nat.min_eq_left (by rw[← HN.out];exact hi)]
    have h1:=HO8.out
    rw[HXT.out] at h1
    have h2:cellsT (tdOf ans (g.ver:Int) time g.ms r)=[.int .i64 r.id,.int .i64 (g.ver:Int),.int .i64 time,.int .i64 er,ra,rb,rc,rd,re,rf]:=by
     unfold tdOf cellsT
     rw[← HRP.out.1, ← HRP.out.2]
    simpa [h2] using h1)
   have HBN:=kA (hbe.out.trans ((HB7.out.mono hbe.out.size).trans HB8.out))
   go_wp2
   go_roundw
   case rel=>exact ⟨i+1,_,_,by omega,by go_num,rfl,HRN,HBN,HG8⟩
   case measure=>simp[intOf];omega
  ·obtain rfl:i=n:=by omega
   go_wp2
   go_ret
   have h1:=htr.out
   rw[HN.out,List.take_length] at h1
   exact ⟨g5,c5,by rw[← HN.out];rfl,h1,hbe.out⟩
theorem zwc {g:Gp}(hg:GpOk PR M Cq w B g)(time:Int):∀ u∈((g.rs.map (tdOf ans (g.ver:Int) time g.ms)).map cellsT).flatten,u.oneCell'=true:=fun u hu=>by
 obtain ⟨l,hl,hul⟩:=List.mem_flatten.1 hu
 rw[qK] at hl
 obtain ⟨r,hr,rfl⟩:=kO.1 hl
 have h1:=(ha.len g.ms r.xs hg.m (hg.rq r hr).cq).2
 simp only[Function.comp_apply,tdOf,cellsT,List.mem_cons] at hul
 rcases hul with rfl|rfl|rfl|rfl|h
 ·rfl
 ·rfl
 ·rfl
 ·rfl
 ·exact h1 u h
theorem told_len {g:Gp}(hg:GpOk PR M Cq w B g)(time:Int):((g.rs.map (tdOf ans (g.ver:Int) time g.ms)).map cellsT).flatten.length=g.rs.length*10:=by
 have h0:∀ r∈g.rs,(cellsT (tdOf ans (g.ver:Int) time g.ms r)).length=10:=fun r hr=>by
  have h1:=(ha.len g.ms r.xs hg.m (hg.rq r hr).cq).1
  simp[tdOf,cellsT,h1]
 rw[qK]
 generalize g.rs=rs at h0 ⊢
 induction rs with
 |nil=>rfl
 |cons r rs ih =>
  rw[kM,qD,kI,ih (fun x hx=>h0 x (qP _ hx)),List.length_cons]
  have:=h0 r (qO ..)
  simp only[Function.comp_apply]
  omega
end
def expG (W:Nat)(now:Nat)(due:Bool)(g:Gp):Bool:=decide (g.time+W<now) || (due && decide (g.time+W=now))
def expT (ans:List Int→List Value→List Value×Int)(W now:Nat)(due:Bool)(gs:List Gp):List Td:=(gs.filter (expG W now due)).flatMap fun g=>g.rs.map (tdOf ans (g.ver:Int) ((g.time+W:Nat):Int) g.ms)
def expR (W now:Nat)(due:Bool)(gs:List Gp):List Gp:=gs.filter fun g => !(expG W now due g)
def GRow (w:World)(B:Nat)(v:Value)(gs:List Gp):Prop:=w.ownsRow B 152 63 v gs.length (gs.map cellsG).flatten
theorem zmf (ans:List Int→List Value→List Value×Int)(W now:Nat)(due:Bool){gs:List Gp}{i:Nat}{g:Gp}(h:gs[i]? = some g):expT ans W now due (gs.take (i+1))=expT ans W now due (gs.take i)++(if expG W now due g=true then g.rs.map (tdOf ans (g.ver:Int) ((g.time+W:Nat):Int) g.ms) else []):=by
 unfold expT
 rw[List.take_add_one,h,Option.toList_some,List.filter_append,List.flatMap_append]
 congr 1
 rw[qL,List.filter_nil]
 split
 ·simp
 ·rfl
theorem zzi (ans:List Int→List Value→List Value×Int)(W now:Nat)(due:Bool)(gs:List Gp)(i:Nat):(expT ans W now due (gs.take i)).length≤(expT ans W now due gs).length:=by
 conv=>rhs;rw[← List.take_append_drop i gs]
 unfold expT
 rw[List.filter_append,List.flatMap_append,kI]
 omega
theorem zmg (W now:Nat)(due:Bool){gs:List Gp}{i:Nat}{g:Gp}(h:gs[i]? = some g):expR W now due (gs.take (i+1))=expR W now due (gs.take i)++(if expG W now due g=true then [] else [g]):=by
 unfold expR
 rw[List.take_add_one,h,Option.toList_some,List.filter_append]
 congr 1
 rw[qL,List.filter_nil]
 cases expG W now due g <;> rfl
theorem zq0:∀ (gs:List Gp) (i t:Nat) (u:Value) {g:Gp},(∀ x∈gs,x.cs.size=59)→gs[i]? = some g→(cellsG g)[t]? = some u→((gs.map cellsG).flatten)[i*63+t]? = some u
 | [],i,t,u,g,_,h,_=>by cases h
 |p :: ps,0,t,u,g,h0,h,ht=>by
  injection h with h
  subst h
  rw[kM,qD,Nat.zero_mul,Nat.zero_add,qB (kK.1 ht).1]
  exact ht
 |p :: ps,i+1,t,u,g,h0,h,ht=>by
  have hp:=zbv (h0 p (qO ..))
  have e:(i+1)*63+t - (cellsG p).length=i*63+t:=by rw[hp];omega
  rw[kM,qD,kY (by rw[hp];omega),e]
  exact zq0 ps i t u (fun x hx=>h0 x (qP _ hx)) h ht
structure Exq (ans:List Int→List Value→List Value×Int)(w wz:World)(W now:Nat)(due:Bool)(gs:List Gp)(i n5 n6:Nat)(v5 v6:Value):Prop where
 e5:n5=(expT ans W now due (gs.take i)).length
 e6:n6=(expR W now due (gs.take i)).length
 t:TRow wz w.heap.size v5 (expT ans W now due (gs.take i))
 r:GRow wz w.heap.size v6 (expR W now due (gs.take i))
 b:Below w.heap.size w wz
theorem infoG:(Tryz.prog.info? 152).map (fun i=>(i.zero.map (fun z=>z.cells.size),i.size,i.bytes))=some (some 63,63,912):=by kernel_rfl
theorem zpi:∃ i z,Tryz.prog.info? 152=some i∧i.zero=some z∧i.size=63∧i.bytes=912∧z.cells.size=63:=by
 have h:=infoG
 cases hi:Tryz.prog.info? 152 with
 |none=>rw[hi] at h;cases h
 |some i =>
  rw[hi] at h
  simp only[Option.map_some,Option.some.injEq,Prod.mk.injEq] at h
  obtain ⟨h1,h2,h3⟩:=h
  cases hz:i.zero with
  |none=>rw[hz] at h1;cases h1
  |some z =>
   rw[hz] at h1
   exact ⟨i,z,rfl,hz,h2,h3,by simpa using h1⟩
theorem zg3 {ops:Array Oper}{rest:List Oper}{o:Oper}{a:Act}{Q:Exit→Act→World→Prop}(w:World)(hgd:o.guard=none)(T:TypeId)(x:Operand)(ho:o.op = .buildSlice T 1 #[(0,x)])(E:TypeId)(i:TypeInfo)(z:Value)(cs:Array Value)
  (hT:Tryz.prog.underlying T=some (.slice E)) (hi:Tryz.prog.info? E=some i) (hz:i.zero=some z) (hs:i.size=cs.size) (h0:0<cs.size) (hle:cs.size≤1000) (hx:a.eval x = .agg cs)
  (h:wpList Tryz.prog ops Q rest (a.put o.dst (.slice (some ⟨w.heap.size,0,none⟩) 1 1)) (w.alloc (.cells cs E))):wpList Tryz.prog ops Q (o :: rest) a w:=by
 refine wpList_plain hgd fun K' hK'=>?_
 have hrun:=zc8 (w:=w) hT hi hz hs h0 hle
 unfold Oper.wp
 simp[execOp,ho,hx,hrun,Result.andThen]
 exact hK' _ _ h
theorem zct:(Tryz.prog.info? 152).map (·.size)=some 63:=by kernel_rfl
section
variable {PR:SMod}{M:List Int→Prop}{Cq:List Value→Prop}{ans:List Int→List Value→List Value×Int}(ha:AnsH PR M Cq ans){w:World}{B:Nat}
include ha
theorem zgf {sp bk:Nat}{Mo:Int}{W now:Nat}{gA:Option Addr}{gc:Nat}{gs:List Gp}(due:Bool)
  (hpt:Blk w sp 116 #[.pointer (some ⟨bk,0,none⟩),.int .i64 Mo,.int .i64 (W:Int),.int .i64 (now:Int),.slice gA gs.length gc]) (hrow:GRow w B (.slice gA gs.length gc) gs)
  (hgs:∀ g∈gs,GpOk PR M Cq w B g∧g.rs.length≤1000∧g.time≤2000000000) (hn:gs.length≤1000) (hW:W≤2000000000) (hT:(expT ans W now due gs).length≤100000) :
  Calls Tryz.prog 19 #[.pointer (some ⟨sp,0,none⟩),.bool due] w fun e w'=>∃ v rA rc,e = .returned v∧TRow w' w.heap.size v (expT ans W now due gs)∧GRow w' w.heap.size (.slice rA (expR W now due gs).length rc) (expR W now due gs) ∧
   Blk w' sp 116 #[.pointer (some ⟨bk,0,none⟩),.int .i64 Mo,.int .i64 (W:Int),.int .i64 (now:Int),.slice rA (expR W now due gs).length rc]∧Alt w w' (fun k=>k=sp):=by
 have HA:=kA ha
 have HPT:=kA hpt
 have HROW:=kA hrow
 have HGS:=kA hgs
 obtain ⟨iT,hi0,hz0,hz1,hz2⟩:=info_parts zdv
 have HIT:=kA hi0
 obtain ⟨zT,hzT⟩:∃ z,z=Value.agg #[.int .i64 0,.int .i64 0,.int .i64 0,.int .i64 0,.int .i64 0,.bool false,.int .u64 0,.string ⟨#[]⟩,.int .u64 0,.string ⟨#[]⟩]:=⟨_,rfl⟩
 rw[← hzT] at hz0
 have HZ0T:=kA hz0
 have HZ1T:=kA hz1
 have HZ2T:=kA hz2
 have HZ3T:Hid (zT.cells.size=10):=kA (by rw[hzT];rfl)
 clear hi0 hz0 hz1 hz2 hzT
 obtain ⟨iG,zG,hi0,hz0,hz1,hz2,hz3⟩:=zpi
 have HIG:=kA hi0
 have HZ0G:=kA hz0
 have HZ1G:=kA hz1
 have HZ2G:=kA hz2
 have HZ3G:=kA hz3
 clear hi0 hz0 hz1 hz2 hz3
 obtain ⟨n,hnn⟩:∃ n,n=gs.length:=⟨_,rfl⟩
 have HN:=kA hnn
 rw[← hnn] at HPT HROW hn
 have s1:w.cell? ⟨sp,4,none⟩=some (.slice gA n gc):=HPT.out.cell 4
 clear ha hpt hrow hgs hnn
 go_enter Tryz.func19,Tryz.ntmps19
 go_wp2
 go_loopw [5,6,15] (fun v5 v6 v15 wz=>∃ (i A5 n5 c5 A6 n6 c6:_),i≤n∧v15 = .int .i64 (i:Int)∧v5 = .slice A5 n5 c5∧v6 = .slice A6 n6 c6∧Hid (Exq ans w wz W now due gs i n5 n6 (.slice A5 n5 c5) (.slice A6 n6 c6))) (fun _ _ v15 _=>n - (intOf v15).toNat)
 case atStart=>exact ⟨0,none,0,0,none,0,0,kX _,rfl,rfl,rfl,kA ⟨rfl,rfl,World.ownsRow_nil _ _ _ _,World.ownsRow_nil _ _ _ _,Below.refl _ _⟩⟩
 case round =>
  obtain ⟨i,A5,n5,c5,A6,n6,c6,hi,rfl,rfl,rfl,hex⟩:=hrel
  by_cases hlt:i<n
  ·obtain ⟨gg,hgg⟩:∃ x,gs[i]? = some x:=⟨_,kV (by rw[← HN.out];exact hlt)⟩
   have HGG:=kA hgg
   obtain ⟨hok,hrl,htm⟩:=HGS.out gg (by obtain ⟨h1,h2⟩:=kK.1 hgg;rw[← h2];exact List.getElem_mem h1)
   have HOK:=kA hok
   have hnp:0<gs.length:=by rw[← HN.out];omega
   have hrow:=HROW.out
   unfold GRow at hrow
   obtain ⟨ga,gc',hav,_,_⟩:=hrow.form hnp
   obtain ⟨rfl,_⟩:gA=some ⟨ga,0,none⟩∧True:=by injection hav with e;exact ⟨e,trivial⟩
   obtain ⟨GC,hGC⟩:∃ x,x=(cellsG gg).toArray:=⟨_,rfl⟩
   have HGC:=kA hGC
   have HLD:Hid (∀ j u,GC.toList[j]? = some u→wr.cell? ((⟨ga,i*63,none⟩:Addr).add j)=some u):=kA (by
    intro j u hu
    rw[addk]
    have h1:=(zad hrow hex.out.b).cells (g:=ga) rfl (i*63+j) u (zq0 gs i j u (fun x hx=>(HGS.out x hx).1.sz) hgg (by rw[hGC] at hu;simpa using hu))
    rw[add0] at h1
    exact h1)
   have HGZ:Hid (GC.size=63):=kA (by rw[hGC];simpa using zbv hok.sz)
   have HG1:Hid (GC.all (·.oneCell')=true):=kA (by
    rw[hGC, ← Array.all_toList]
    have h1:=hok.one
    unfold AllOne at h1
    rw[← Array.all_toList] at h1
    have h2:=List.all_eq_true.1 h1
    refine List.all_eq_true.2 fun u hu=>?_
    unfold cellsG at hu
    simp only[List.mem_cons,kU,List.mem_nil_iff,or_false] at hu
    rcases hu with rfl|rfl|hu|rfl|rfl
    ·rfl
    ·rfl
    ·exact h2 u hu
    ·rfl
    ·rfl)
   have hlt':(i:Int)<(n:Int):=by omega
   clear hgg hok hnp hrow hav hGC
   go_upto_region 6 with (first
    |(refine za1 _ rfl 152 _ rfl ⟨ga,i*63,none⟩ GC _ rfl (by exact HLD.out) Tryz.underlying152 rfl (HGZ.out.symm ▸ zct) ?_)
    |(refine zaw _ rfl 152 _ _ rfl wr.heap.size _ GC 152 rfl rfl (by exact Blk.new wr _ _) (HGZ.out.symm ▸ zct) (by rw[HGZ.out];rfl) HG1.out ?_;intro w5 hb5 ha5 hs5;have HK5:=kA hb5;have HB5:Hid (Below wr.heap.size wr w5):=kA ((Below.new1 wr _).trans (ha5.below (fun k e=>by rw[e];exact kJ _) (by simp)));clear hb5 ha5 hs5))
   dsimp only[Act.put]
   have HPW:=kA (zab HPT.out (hex.out.b.trans (HB5.out.mono hex.out.b.size)))
   have y61:w5.cell? ⟨wr.heap.size,61,none⟩=some (.int .i64 (gg.time:Int)):=(HK5.out.cell 61).trans (by rw[HGC.out];simpa using zn2 HOK.out.sz)
   have y2:w5.cell? ⟨sp,2,none⟩=some (.int .i64 (W:Int)):=HPW.out.cell 2
   have y3:w5.cell? ⟨sp,3,none⟩=some (.int .i64 (now:Int)):=HPW.out.cell 3
   have hwr:IntKind.i64.wrap ((gg.time:Int)+(W:Int))=((gg.time+W:Nat):Int):=(qR _ (by omega)).trans (by omega)
   go_region_held3 (fun w'=>w'.cell? ⟨wr.heap.size,61,none⟩=some (.int .i64 (gg.time:Int))∧w'.cell? ⟨sp,2,none⟩=some (.int .i64 (W:Int))) (simp[*]) (first|(go_at_call 9999))
   obtain ⟨un,hun⟩:∃ un,un=gg.time+W:=⟨_,rfl⟩
   have hue:((gg.time:Int)+(W:Int))=(un:Int):=by omega
   have HUN:=kA hun
   rw[hue]
   have HK6:Hid (Blk w5.drew wr.heap.size 152 GC):=kA HK5.out
   have HB6:Hid (Below wr.heap.size wr w5.drew):=kA HB5.out.drew
   have HP6:Hid (Blk w5.drew sp 116 #[.pointer (some ⟨bk,0,none⟩),.int .i64 Mo,.int .i64 (W:Int),.int .i64 (now:Int),.slice (some ⟨ga,0,none⟩) n gc]):=kA HPW.out
   clear hue hun y61 y2 y3 hwr HK5 HB5 HPW
   generalize w5.drew=w6 at HK6 HB6 HP6 ⊢
   have y3:w6.cell? ⟨sp,3,none⟩=some (.int .i64 (now:Int)):=HP6.out.cell 3
   go_upto_region 7 with fail
   go_cut [43] from 27 to 42 (fun v43 wx=>Hid (v43 = .bool (expG W now due gg)∧wx=w6))
   case first =>
    rcases Nat.lt_trichotomy un now with h|h|h
    ·have h1:(un:Int)<(now:Int):=by omega
     have he:expG W now due gg=true:=by unfold expG;rw[← HUN.out,kW h];rfl
     go_wp2
     go_meet
     exact kA ⟨by rw[he],rfl⟩
    ·have he:expG W now due gg=due:=by unfold expG;rw[← HUN.out,kQ (by omega),kW h];simp
     subst h
     cases due with
     |true =>
      go_wp2
      go_meet
      exact kA ⟨by rw[he],rfl⟩
     |false =>
      go_wp2
      go_meet
      exact kA ⟨by rw[he],rfl⟩
    ·have h1:¬ ((un:Int)<(now:Int)):=by omega
     have h2:((un:Int) == (now:Int))=false:=by rw[kS];omega
     have he:expG W now due gg=false:=by unfold expG;rw[← HUN.out,kQ (by omega),kQ (by omega)];simp
     cases due with
     |true =>
      go_wp2
      go_meet
      exact kA ⟨by rw[he],rfl⟩
     |false =>
      go_wp2
      go_meet
      exact kA ⟨by rw[he],rfl⟩
   case rest =>
    obtain ⟨hv,hw⟩:=hcut.out
    clear hcut y3
    subst hw
    obtain ⟨bx,hbx⟩:∃ b,b=expG W now due gg:=⟨_,rfl⟩
    rw[← hbx] at hv
    subst hv
    have HBX:=kA hbx
    clear hbx
    have HTL:Hid ((expT ans W now due gs).length≤100000):=kA hT
    cases bx with
    |true =>
     have hst5:=zmf ans W now due HGG.out
     have hst6:=zmg W now due HGG.out
     rw[← HBX.out] at hst5 hst6
     simp only[if_true,qI] at hst5 hst6
     rw[← HUN.out] at hst5
     have h55:n5+gg.rs.length≤100000:=by
      have h1:(expT ans W now due (gs.take (i+1))).length≤(expT ans W now due gs).length:=zzi ans W now due gs (i+1)
      rw[hst5,kI,kN, ← hex.out.e5] at h1
      have:=HTL.out
      omega
     have HS5:=kA hst5
     have HS6:=kA hst6
     have HAN:Hid (Calls Tryz.prog 34 #[.agg GC,.int .i64 (un:Int)] wc fun e w'=>∃ b c,e = .returned (.slice (some ⟨b,0,none⟩) gg.rs.length c)∧TRow w' wc.heap.size (.slice (some ⟨b,0,none⟩) gg.rs.length c) (gg.rs.map (tdOf ans (gg.ver:Int) (un:Int) gg.ms))∧Below wc.heap.size wc w'):=kA (by
      rw[HGC.out]
      exact zjh HA.out (HOK.out.below HA.out.st (hex.out.b.trans (HB6.out.mono hex.out.b.size))) hrl (un:Int))
     obtain ⟨m,hm⟩:∃ m,m=gg.rs.length:=⟨_,rfl⟩
     rw[← hm] at HAN h55
     have HM:=kA hm
     have HTR:Hid (wc.ownsRow w.heap.size 47 10 (.slice A5 n5 c5) n5 ((expT ans W now due (gs.take i)).map cellsT).flatten):=kA (by
      have h1:=zad hex.out.t HB6.out
      rw[← hex.out.e5] at h1
      exact h1)
     have HW6:Hid (w.heap.size≤wc.heap.size):=kA (kH hex.out.b.size HB6.out.size)
     clear hst5 hst6 hm
     go_upto_region 10 with (first
      |(refine zar _ rfl 152 _ rfl wr.heap.size GC 152 (0,0) _ rfl (by exact HK6.out) Tryz.underlying152 rfl (HGZ.out.symm ▸ zct) ?_)
      |(go_at_call 34;refine HAN.out.mono ?_;rintro e w7 ⟨b7,c7,rfl,ht7,hb7⟩;have HT7:=kA ht7;have HB7:=kA hb7;clear ht7 hb7)
      |(at_builtin;go_loud (refine wpList_append_own _ rfl _ _ 29 rfl w.heap.size 47 iT zT 10 96 Tryz.underlying29 HIT.out HZ0T.out HZ1T.out HZ2T.out HZ3T.out (by decide) (.slice A5 n5 c5) n5 ((expT ans W now due (gs.take i)).map cellsT).flatten rfl (by exact zad HTR.out HB7.out) ⟨b7,0,none⟩ m c7 ((gg.rs.map (tdOf ans (gg.ver:Int) (un:Int) gg.ms)).map cellsT).flatten rfl (by rw[HM.out];exact told_len HA.out HOK.out (un:Int)) (fun j u hu=>HT7.out.cells rfl j u hu) (zwc HA.out HOK.out (un:Int)) (by unfold maxLen;omega) (by omega) (by have:=HB7.out.size;have:=HW6.out;omega) ?_;intro v8 w8 hown8 hgrow8 _;obtain ⟨A8,c8,rfl⟩:=zfu hown8;have HO8:=kA hown8;have HG8:=kA hgrow8;clear hown8 hgrow8)))
     have HEX:Hid (Exq ans w w8 W now due gs (i+1) (n5+m) n6 (.slice A8 (n5+m) c8) (.slice A6 n6 c6)):=kA (by
      have hb7:Below w.heap.size w w7:=(hex.out.b.trans (HB6.out.mono hex.out.b.size)).trans (HB7.out.mono HW6.out)
      have h8:=zad HTR.out HB7.out
      refine ⟨?_,?_,?_,?_,?_⟩
      ·rw[HS5.out,kI,kN, ← hex.out.e5,HM.out]
      ·rw[HS6.out];exact hex.out.e6
      ·unfold TRow
       have h1:=HO8.out
       rw[HS5.out,kI,kN, ← hex.out.e5, ← HM.out,kL,qQ]
       exact h1
      ·have h1:=zad (zad hex.out.r HB6.out) HB7.out
       unfold GRow
       rw[HS6.out]
       exact zas h1 (Alt.grow HG8.out) (fun k hk e=>zbu h8 h1 (by decide) k e hk)
      ·exact hb7.trans (Alt.toBelow (Alt.grow HG8.out) (fun k _ e=>(World.ownsRow.lt h8 k e).1) hb7.size))
     go_wp2
     go_roundw
     case rel=>exact ⟨i+1,_,_,_,_,_,_,by omega,by go_num,rfl,rfl,HEX⟩
     case measure=>simp[intOf];omega
    |false =>
     have hst5:=zmf ans W now due HGG.out
     have hst6:=zmg W now due HGG.out
     rw[← HBX.out] at hst5 hst6
     simp only[Bool.false_eq_true,if_false,qI] at hst5 hst6
     have HS5:=kA hst5
     have HS6:=kA hst6
     have h66:n6≤1000:=by
      rw[hex.out.e6]
      unfold expR
      refine kH (List.length_filter_le _ _) ?_
      rw[List.length_take]
      omega
     have HW6:Hid (w.heap.size≤wc.heap.size):=kA (kH hex.out.b.size HB6.out.size)
     have HGR:Hid (wc.ownsRow w.heap.size 152 63 (.slice A6 n6 c6) n6 ((expR W now due (gs.take i)).map cellsG).flatten):=kA (by
      have h1:=zad hex.out.r HB6.out
      unfold GRow at h1
      rw[← hex.out.e6] at h1
      exact h1)
     clear hst5 hst6
     go_upto_region 10 with (first
      |(refine zar _ rfl 152 _ rfl wr.heap.size GC 152 (0,0) _ rfl (by exact HK6.out) Tryz.underlying152 rfl (HGZ.out.symm ▸ zct) ?_)
      |(refine zg3 _ rfl 114 _ rfl 152 iG zG GC Tryz.underlying114 HIG.out HZ0G.out (HZ1G.out.trans HGZ.out.symm) (by rw[HGZ.out];decide) (by rw[HGZ.out];decide) rfl ?_)
      |(at_builtin;go_loud (refine wpList_append_own _ rfl _ _ 114 rfl w.heap.size 152 iG zG 63 912 Tryz.underlying114 HIG.out HZ0G.out HZ1G.out HZ2G.out HZ3G.out (by decide) (.slice A6 n6 c6) n6 ((expR W now due (gs.take i)).map cellsG).flatten rfl (by exact zad HGR.out (Below.new1 wc _)) ⟨wc.heap.size,0,none⟩ 1 1 GC.toList rfl (by have:=HGZ.out;simpa using this) (fun j u hu=>zko wc _ _ j u hu) (by have h1:=HG1.out;rw[← Array.all_toList] at h1;exact List.all_eq_true.1 h1) (by unfold maxLen;omega) (by omega) (by have:=HW6.out;simp;omega) ?_;intro v8 w8 hown8 hgrow8 _;obtain ⟨A8,c8,rfl⟩:=zfu hown8;have HO8:=kA hown8;have HG8:=kA hgrow8;clear hown8 hgrow8)))
     have HEX:Hid (Exq ans w w8 W now due gs (i+1) n5 (n6+1) (.slice A5 n5 c5) (.slice A8 (n6+1) c8)):=kA (by
      have hb7:Below w.heap.size w (wc.alloc (.cells GC 152)):=(hex.out.b.trans (HB6.out.mono hex.out.b.size)).alloc (by have:=HW6.out;omega) _
      have h8:=zad HGR.out (Below.new1 wc (.cells GC 152))
      refine ⟨?_,?_,?_,?_,?_⟩
      ·rw[HS5.out];exact hex.out.e5
      ·rw[HS6.out,kI, ← hex.out.e6];rfl
      ·have h1:=zad (zad hex.out.t HB6.out) (Below.new1 wc (.cells GC 152))
       unfold TRow
       rw[HS5.out]
       exact zas h1 (Alt.grow HG8.out) (fun k hk e=>zbu h8 h1 (by decide) k e hk)
      ·unfold GRow
       have h1:=HO8.out
       rw[HS6.out,kI, ← hex.out.e6,kL,qQ]
       rw[HGC.out] at h1
       simpa using h1
      ·exact hb7.trans (Alt.toBelow (Alt.grow HG8.out) (fun k _ e=>(World.ownsRow.lt h8 k e).1) hb7.size))
     go_wp2
     go_roundw
     case rel=>exact ⟨i+1,_,_,_,_,_,_,by omega,by go_num,rfl,rfl,HEX⟩
     case measure=>simp[intOf];omega
  ·obtain rfl:i=n:=by omega
   have HPW:=kA (zab HPT.out hex.out.b)
   have y4:wr.cell? ⟨sp,4,none⟩=some (.slice gA i gc):=HPW.out.cell 4
   have f4:wr.frozen? ⟨sp,4,none⟩=false:=HPW.out.frozen 4
   go_wp2
   go_ret
   have ha:Alt wr (wr.setCell ⟨sp,4,none⟩ (.slice A6 n6 c6)) (fun k=>k=sp):=Alt.set_ (p:=fun k=>k=sp) (a:=⟨sp,4,none⟩) (Alt.refl _ _) rfl _
   have h5:=hex.out.t
   have h6:=hex.out.r
   have e5:=hex.out.e5
   have e6:=hex.out.e6
   rw[HN.out,List.take_length] at h5 h6 e5 e6
   subst e6
   refine ⟨.slice A5 n5 c5,A6,c6,rfl,?_,?_,HPW.out.set_ 4 _,(alt_of_below hex.out.b).trans ha (fun _ _ h=>h)⟩
   ·exact zas h5 ha (fun k hk e=>zai h5 HPW.out (by decide) (by rw[← e];exact hk))
   ·exact zas h6 ha (fun k hk e=>zai h6 HPW.out (by decide) (by rw[← e];exact hk))
end
theorem zq1:(Tryz.prog.fieldsOf 149).toList.map (fun f=>(f.name == "_",f.type,f.offset))=[(false,9,0),(false,3,1)]:=by kernel_rfl
theorem zt7:Tryz.prog.stoodInHeld 149=false:=by kernel_rfl
theorem zq2 (w:World)(n2 nm:ByteArray)(a b:Int):(binOp .eql 149 (.agg #[.string n2,.int .i64 a]) (.agg #[.string nm,.int .i64 b])).run Tryz.prog w = .ok (.bool ((n2.toList == nm.toList) && (a == b))) w:=by
 have hst:Tryz.prog.underlying 149=some (.struct (Tryz.prog.fieldsOf 149)):=by rfl
 rw[run_eql_struct,run_equalIn_struct w 9999 _ _ _ hst zt7]
 have hf:=zq1
 generalize (Tryz.prog.fieldsOf 149).toList=fs at hf ⊢
 have hfs:∃ f1 f2,fs=[f1,f2]:=by
  match fs with
  | []=>cases hf
  | [_]=>have h1:=congrArg List.length hf;simp at h1
  | [f1,f2]=>exact ⟨f1,f2,rfl⟩
  |a :: b :: c :: r=>have h1:=congrArg List.length hf;simp at h1
 obtain ⟨f1,f2,rfl⟩:=hfs
 simp only[kM,List.map_nil,List.cons.injEq,Prod.mk.injEq,and_true] at hf
 obtain ⟨⟨h1,h2,h3⟩,h4,h5,h6⟩:=hf
 have e1:f1.name ≠ "_":=by simpa using h1
 have e2:f2.name ≠ "_":=by simpa using h4
 have p1:∀ (s:ByteArray) (x:Int),(part 9 #[Value.string s,.int .i64 x] 0).run Tryz.prog w = .ok (.string s) w:=fun s x=>by simp[go_sem]
 have p2:∀ (s:ByteArray) (x:Int),(part 3 #[Value.string s,.int .i64 x] 1).run Tryz.prog w = .ok (.int .i64 x) w:=fun s x=>by simp[go_sem]
 have q1:=run_equalIn_string (P:=Tryz.prog) w 9998 9 n2 nm Tryz.underlying9
 have q2:=run_equalIn_int (P:=Tryz.prog) w 9998 3 .i64 .i64 a b Tryz.underlying3
 simp only[Op.eqFields,e1,e2,h2,h3,h5,h6,ne_eq,not_false_eq_true,if_true,Sem.run_bind,p1,p2,q1,q2,Result.andThen_ok,Sem.run_ite,Sem.run_pure]
 cases n2.toList == nm.toList <;> cases a == b <;> simp
theorem zt8:Tryz.prog.eqGuardType Tryz.prog.depth 149=false:=by kernel_rfl
theorem zks {ops:Array Oper}{rest:List Oper}{o:Oper}{a:Act}{Q:Exit→Act→World→Prop}(w:World)(hgd:o.guard=none)(x y:Operand)(ho:o.op = .binOp .eql 149 x y 149)(n2 nm:ByteArray)(u v:Int)
  (hx:a.eval x = .agg #[.string n2,.int .i64 u]) (hy:a.eval y = .agg #[.string nm,.int .i64 v])
  (h:wpList Tryz.prog ops Q rest (a.put o.dst (.bool ((n2.toList == nm.toList) && (u == v)))) w):wpList Tryz.prog ops Q (o :: rest) a w:=by
 refine wpList_plain hgd fun K' hK'=>?_
 have hrun:=zq2 w n2 nm u v
 have hg:=run_eqGuard_agg (P:=Tryz.prog) w .eql 149 x y #[.string n2,.int .i64 u] #[.string nm,.int .i64 v] zt8
 unfold Oper.wp
 simp[execOp,ho,hx,hy,hrun,hg,Result.andThen]
 exact hK' _ _ h
def keyG (nm:ByteArray)(v:Nat)(g:Gp):Bool:=(g.name.toList == nm.toList) && decide (g.ver=v)
theorem zwd (g:Gp)(nm:ByteArray)(v:Nat)(pb:Nat)(w:World)(hp:Blk w pb 149 #[.string nm,.int .i64 (v:Int)]) :
  Calls Tryz.prog 43 #[.agg (cellsG g).toArray,.pointer (some ⟨pb,0,none⟩)] w fun e w'=>e = .returned (.bool (keyG nm v g))∧Below w.heap.size w w':=by
 obtain ⟨GC,hGC⟩:∃ x,x=(cellsG g).toArray:=⟨_,rfl⟩
 have HP:=kA hp
 have g0:GC[0]? = some (.string g.name):=by rw[hGC];simp[cellsG]
 have g1:GC[1]? = some (.int .i64 (g.ver:Int)):=by rw[hGC];simp[cellsG]
 rw[← hGC]
 clear hGC hp
 go_enter Tryz.func43,Tryz.ntmps43
 have HB1:Hid (Below w.heap.size w (w.alloc (.cells GC 152))):=kA (Below.new1 w _)
 have HK1:Hid (Blk (w.alloc (.cells GC 152)) w.heap.size 152 GC):=kA (Blk.new w _ _)
 have HK2:=kA (zab HP.out HB1.out)
 go_upto_region 1 with fail
 generalize w.alloc (.cells GC 152)=W1 at HB1 HK1 HK2 ⊢
 have x0:W1.cell? ⟨w.heap.size,0,none⟩=some (.string g.name):=(HK1.out.cell 0).trans g0
 have x1:W1.cell? ⟨w.heap.size,1,none⟩=some (.int .i64 (g.ver:Int)):=(HK1.out.cell 1).trans g1
 have y0:W1.cell? ⟨pb,0,none⟩=some (.string nm):=HK2.out.cell 0
 have y1:W1.cell? ⟨pb,1,none⟩=some (.int .i64 (v:Int)):=HK2.out.cell 1
 clear g0 g1
 have hk:keyG nm v g=((g.name.toList == nm.toList) && ((g.ver:Int) == (v:Int))):=by
  unfold keyG
  congr 1
  by_cases h:g.ver=v
  ·rw[h,beq_self_eq_true,kW rfl]
  ·rw[kQ h]
   exact (kS.2 (by omega)).symm
 go_wp2_with (first
  |(refine zks _ rfl _ _ rfl g.name nm (g.ver:Int) (v:Int) rfl rfl ?_))
 go_ret
 exact ⟨by rw[hk];rfl,HB1.out⟩
def findG (nm:ByteArray)(v:Nat)(gs:List Gp):Nat:=(gs.takeWhile (fun g => !(keyG nm v g))).length
theorem zt9 (nm:ByteArray)(v:Nat):∀ (gs:List Gp) (i:Nat) (g:Gp),gs[i]? = some g→i≤findG nm v gs→keyG nm v g=decide (i=findG nm v gs)
 | [],i,g,h,_=>by cases h
 |x :: xs,i,g,h,hi=>by
  unfold findG at hi ⊢
  rw[List.takeWhile_cons] at hi ⊢
  cases hk:keyG nm v x with
  |true =>
   rw[hk] at hi
   simp only[Bool.not_true,Bool.false_eq_true,if_false,List.length_nil,Nat.le_zero] at hi ⊢
   subst hi
   injection h with h
   subst h
   simp[hk]
  |false =>
   rw[hk] at hi
   simp only[Bool.not_false,if_true,List.length_cons] at hi ⊢
   cases i with
   |zero =>
    injection h with h
    subst h
    simp[hk]
   |succ i =>
    have h1:=zt9 nm v xs i g (by simpa using h) (by unfold findG;omega)
    rw[h1]
    unfold findG
    simp
theorem zua {PR:SMod}{M:List Int→Prop}{Cq:List Value→Prop}{w:World}{B:Nat}{gA:Option Addr}{gc:Nat}{gs:List Gp}(nm:ByteArray)(v:Nat)(pb:Nat)
  (hp:Blk w pb 149 #[.string nm,.int .i64 (v:Int)]) (hrow:GRow w B (.slice gA gs.length gc) gs) (hgs:∀ g∈gs,GpOk PR M Cq w B g) (hn:gs.length≤1000) :
  Calls Tryz.prog 42 #[.slice gA gs.length gc,.func (.func 43) #[] #[.pointer (some ⟨pb,0,none⟩)]] w fun e w' =>
   e = .returned (.int .i64 (if findG nm v gs<gs.length then (findG nm v gs:Int) else -1))∧Below w.heap.size w w':=by
 have HP:=kA hp
 have HROW:=kA hrow
 have HGS:=kA hgs
 obtain ⟨n,hnn⟩:∃ n,n=gs.length:=⟨_,rfl⟩
 have HN:=kA hnn
 rw[← hnn] at HROW hn ⊢
 obtain ⟨f,hf⟩:∃ f,f=findG nm v gs:=⟨_,rfl⟩
 have HF:=kA hf
 rw[← hf]
 have HLE:Hid (f≤n):=kA (by rw[hf,hnn];unfold findG;exact (List.takeWhile_prefix _).length_le)
 have HK:Hid (∀ i g,gs[i]? = some g→i≤f→keyG nm v g=decide (i=f)):=kA (fun i g hg hi=>zt9 nm v gs i g hg (by rw[← hf];exact hi) ▸ by rw[hf])
 clear hp hrow hgs hnn hf
 go_enter Tryz.func42,Tryz.ntmps42
 go_wp2
 go_loopw [8] (fun iv wr=>∃ j:Nat,j≤f∧iv = .int .i64 (j:Int)∧Hid (Below w.heap.size w wr)) (fun iv _=>n+1 - (intOf iv).toNat)
 case atStart=>exact ⟨0,kX _,rfl,Below.refl _ _⟩
 case round =>
  obtain ⟨j,hj,rfl,hbel⟩:=hrel
  have hfn:=HLE.out
  by_cases hgo:j<n
  ·obtain ⟨gg,hgg⟩:∃ x,gs[j]? = some x:=⟨_,kV (by rw[← HN.out];exact hgo)⟩
   have HGG:=kA hgg
   have hok:=HGS.out gg (by obtain ⟨h1,h2⟩:=kK.1 hgg;rw[← h2];exact List.getElem_mem h1)
   have hrow:=HROW.out
   unfold GRow at hrow
   rw[← HN.out] at hrow
   obtain ⟨ga,gc',hav,_,_⟩:=hrow.form (by omega)
   obtain ⟨rfl,_⟩:gA=some ⟨ga,0,none⟩∧True:=by injection hav with e;exact ⟨e,trivial⟩
   have HCA:Hid (Calls Tryz.prog 43 #[.agg (cellsG gg).toArray,.pointer (some ⟨pb,0,none⟩)] wr fun e w'=>e = .returned (.bool (decide (j=f)))∧Below wr.heap.size wr w'):=kA (by
    have h1:=zwd gg nm v pb wr (zab HP.out hbel.out)
    rw[HK.out j gg hgg hj] at h1
    exact h1)
   obtain ⟨GC,hGC⟩:∃ x,x=(cellsG gg).toArray:=⟨_,rfl⟩
   rw[← hGC] at HCA
   have HLD:Hid (∀ k u,GC.toList[k]? = some u→wr.cell? ((⟨ga,j*63,none⟩:Addr).add k)=some u):=kA (by
    intro k u hu
    rw[addk]
    have h1:=(zad hrow hbel.out).cells (g:=ga) rfl (j*63+k) u (zq0 gs j k u (fun x hx=>(HGS.out x hx).sz) hgg (by rw[hGC] at hu;simpa using hu))
    rw[add0] at h1
    exact h1)
   have HGZ:Hid (GC.size=63):=kA (by rw[hGC];simpa using zbv hok.sz)
   have hlt':(j:Int)<(n:Int):=by omega
   clear hgg hok hrow hav hGC
   by_cases hjf:j=f
   ·have hd:decide (j=f)=true:=kW hjf
    have hfl:f<n:=by omega
    rw[hd] at HCA
    have HJ:=kA hjf
    clear hjf hd
    go_wp2_with (first
     |(refine za1 _ rfl 152 _ rfl ⟨ga,j*63,none⟩ GC _ rfl (by exact HLD.out) Tryz.underlying152 rfl (HGZ.out.symm ▸ zct) ?_)
     |(go_at_call 43;refine HCA.out.mono ?_;rintro e w2 ⟨rfl,hb2⟩))
    go_ret
    have hjf:=HJ.out
    exact ⟨by rw[← hjf];rfl,hbel.out.trans (hb2.mono hbel.out.size)⟩
   ·have hd:decide (j=f)=false:=kQ hjf
    rw[hd] at HCA
    have HJ:=kA hjf
    clear hjf hd
    go_wp2_with (first
     |(refine za1 _ rfl 152 _ rfl ⟨ga,j*63,none⟩ GC _ rfl (by exact HLD.out) Tryz.underlying152 rfl (HGZ.out.symm ▸ zct) ?_)
     |(go_at_call 43;refine HCA.out.mono ?_;rintro e w2 ⟨rfl,hb2⟩))
    have hjf:=HJ.out
    exact ⟨⟨j+1,by omega,by go_num,hbel.out.trans (hb2.mono hbel.out.size)⟩,by simp[intOf];omega⟩
  ·go_wp2
   go_ret
   exact ⟨rfl,hbel.out⟩
theorem zzj {o:Oper}{a:Act}{K:Act→World→Prop}{Q:Exit→Act→World→Prop}(w:World)(s x:Operand)(t:TypeId)
  (ho:o.op = .call { callee := .builtin .append,args:=#[s,x],argTypes:=#[t,t] })
  (e:TypeId) (i:TypeInfo) (z:Value) (size bytes:Nat) (ht:Tryz.prog.underlying t=some (.slice e)) (hi:Tryz.prog.info? e=some i) (hz:i.zero=some z)
  (hsize:i.size=size) (hby:i.bytes=bytes) (hzs:z.cells.size=size) (hsz:0<size)
  (b:Nat) (hs:a.eval s = .slice (some ⟨b,0,none⟩) 0 0) (hown:w.ownsRow b e size (.slice (some ⟨b,0,none⟩) 0 0) 0 [])
  {B0 n:Nat} {v:Value} {xs:List Value} (hx:a.eval x=v) (hrow:w.ownsRow B0 e size v n xs) (h1:∀ u∈xs,u.oneCell'=true)
  (h63:n≤maxLen) (hbytes:n*bytes≤140737488355328)
  (h:∀ A' c' w',w'.ownsRow b e size (.slice A' n c') n xs→Alt w w' (fun k=>k=b)→K (a.put o.dst (.slice A' n c')) w'):o.wp Tryz.prog a w K Q:=by
 have hb:b≤w.heap.size:=Nat.le_of_lt (zd9 hown b rfl)
 rcases hrow.2 with ⟨rfl,rfl⟩|⟨g,cap,cur,rfl,_⟩
 ·have hxs:xs=[]:=List.length_eq_zero_iff.1 (by rw[hrow.1];exact Nat.zero_mul _)
  subst hxs
  have hr:=run_append_room_src (P:=Tryz.prog) w t t o.type e i ht hi b 0 0 0 (.slice none 0 0) 0 [] (Src.ofNil w (tx:=t) ht 0) (kJ _) (fun j hj=>by cases hj) (fun j hj=>by cases hj)
  unfold Oper.wp execOp
  simp only[ho,resolve,invoke,builtin,Sem.run_bind,Sem.run_pure,Result.andThen_ok,List.map_toArray,kM,List.map_nil,hs,hx,hr]
  exact h _ _ _ hown (Alt.refl _ _)
 ·refine wp_append_own w s x t ho b e i z size bytes ht hi hz hsize hby hzs hsz _ 0 [] hs hown ⟨g,0,none⟩ n cap xs hx hrow.1 (fun j u hu=>hrow.cells rfl j u hu) h1 (by omega) (by rw[Nat.zero_add];exact hbytes) hb (fun v' w' h2 h3 _=>?_)
  rw[Nat.zero_add,List.nil_append] at h2
  obtain ⟨A',c',rfl⟩:=zfu h2
  exact h _ _ _ h2 ((Alt.grow h3).mono fun k e=>by simpa [Value.ownBlock] using e.symm)
theorem zn3 {ops:Array Oper}{rest:List Oper}{o:Oper}{a:Act}{Q:Exit→Act→World→Prop}(w:World)(hgd:o.guard=none)(s x:Operand)(t:TypeId)
  (ho:o.op = .call { callee := .builtin .append,args:=#[s,x],argTypes:=#[t,t] })
  (e:TypeId) (i:TypeInfo) (z:Value) (size bytes:Nat) (ht:Tryz.prog.underlying t=some (.slice e)) (hi:Tryz.prog.info? e=some i) (hz:i.zero=some z)
  (hsize:i.size=size) (hby:i.bytes=bytes) (hzs:z.cells.size=size) (hsz:0<size)
  (b:Nat) (hs:a.eval s = .slice (some ⟨b,0,none⟩) 0 0) (hown:w.ownsRow b e size (.slice (some ⟨b,0,none⟩) 0 0) 0 [])
  {B0 n:Nat} {v:Value} {xs:List Value} (hx:a.eval x=v) (hrow:w.ownsRow B0 e size v n xs) (h1:∀ u∈xs,u.oneCell'=true)
  (h63:n≤maxLen) (hbytes:n*bytes≤140737488355328)
  (h:∀ A' c' w',w'.ownsRow b e size (.slice A' n c') n xs→Alt w w' (fun k=>k=b)→wpList Tryz.prog ops Q rest (a.put o.dst (.slice A' n c')) w'):wpList Tryz.prog ops Q (o :: rest) a w :=
 wpList_plain hgd fun _ hK=>zzj w s x t ho e i z size bytes ht hi hz hsize hby hzs hsz b hs hown hx hrow h1 h63 hbytes fun A' c' w' h2 h3=>hK _ _ (h A' c' w' h2 h3)
theorem zwe (w:World)(e:TypeId)(size:Nat):(w.alloc (.cells #[] e)).ownsRow w.heap.size e size (.slice (some ⟨w.heap.size,0,none⟩) 0 0) 0 [] :=
 ⟨by simp,.inr ⟨w.heap.size,0,#[],rfl,kJ _,heap_alloc_new w _,kJ _,kX _,by simp,by simp⟩⟩
theorem infoCl:(Tryz.prog.info? 124).map (fun i=>(i.zero.map (fun z=>z.cells.size),i.size,decide (i.bytes≤1000)))=some (some 7,7,true):=by kernel_rfl
theorem zzk:∃ i z,Tryz.prog.info? 124=some i∧i.zero=some z∧i.size=7∧i.bytes≤1000∧z.cells.size=7:=by
 have h:=infoCl
 cases hi:Tryz.prog.info? 124 with
 |none=>rw[hi] at h;cases h
 |some i =>
  rw[hi] at h
  simp only[Option.map_some,Option.some.injEq,Prod.mk.injEq] at h
  obtain ⟨h1,h2,h3⟩:=h
  cases hz:i.zero with
  |none=>rw[hz] at h1;cases h1
  |some z =>
   rw[hz] at h1
   exact ⟨i,z,rfl,hz,h2,of_decide_eq_true h3,by simpa using h1⟩
theorem zfm {w:World}{B:Nat}{A:Option Addr}{n c:Nat}{xs:List Value}(hrow:w.ownsRow B 124 7 (.slice A n c) n xs)(h1:∀ u∈xs,u.oneCell'=true)(hn:n≤1000) :
  Calls Tryz.prog 44 #[.slice A n c] w fun e w'=>∃ A' c',e = .returned (.slice A' n c')∧w'.ownsRow w.heap.size 124 7 (.slice A' n c') n xs∧Below w.heap.size w w':=by
 have HR:=kA hrow
 have H1:=kA h1
 obtain ⟨iC,zC,hi0,hz0,hz1,hz2,hz3⟩:=zzk
 have HIC:=kA hi0
 have HZ0:=kA hz0
 have HZ1:=kA hz1
 have HZ2:=kA hz2
 have HZ3:=kA hz3
 clear hi0 hz0 hz1 hz2 hz3
 rcases hrow.2 with ⟨h,hc0⟩|⟨g,cap,cur,h,_⟩
 ·injection h with ha hb hc
  subst ha;subst hb;subst hc
  have hx:xs=[]:=List.length_eq_zero_iff.1 (by simpa using hrow.1)
  subst hx
  clear hrow h1
  have heq:=fun A n c=>Go.Lib.run_eql_slice_nil (P:=Tryz.prog) w 33 124 A n c 0 0 Tryz.underlying33
  go_enter Tryz.func44,Tryz.ntmps44
  go_wp2
  go_ret
  exact ⟨none,0,rfl,World.ownsRow_nil _ _ _ _,Below.refl _ _⟩
 ·injection h with ha hb hc
  subst ha
  clear hrow h1
  have heq:=fun A n c=>Go.Lib.run_eql_slice_nil (P:=Tryz.prog) w 33 124 A n c 0 0 Tryz.underlying33
  go_enter Tryz.func44,Tryz.ntmps44
  go_wp2_with (first
   |(at_builtin;go_loud (refine zn3 _ rfl _ _ 33 rfl 124 iC zC 7 iC.bytes Tryz.underlying33 HIC.out HZ0.out HZ1.out rfl HZ3.out (by decide) w.heap.size rfl (by exact zwe w _ _) rfl (by exact zad HR.out (Below.new1 w _)) H1.out (by unfold maxLen;omega) (by have:=HZ2.out;have:=Nat.mul_le_mul hn HZ2.out;omega) ?_;intro A' c' w2 ho2 ha2;have HO2:=kA ho2;have HA2:=kA ha2;clear ho2 ha2)))
  go_ret
  exact ⟨A',c',rfl,HO2.out,(Below.new1 w _).trans (Alt.toBelow HA2.out (fun k _ e=>by rw[e];exact kJ _) (by rw[World.size_alloc];omega))⟩
def spl (xs:List Value)(o:Nat)(vs:List Value):List Value:=xs.take o++vs++xs.drop (o+vs.length)
theorem zub {xs:List Value}{o:Nat}{vs:List Value}(h:o+vs.length≤xs.length):(spl xs o vs).length=xs.length:=by
 unfold spl
 simp only[kI,List.length_take,List.length_drop]
 omega
theorem zbz (b:Nat)(t:TypeId):∀ (vs:List Value) (o:Nat) (w:World) (cur:Array Value),w.heap[b]? = some (.cells cur t (0,0))→o+vs.length≤cur.size→(w.setCells b o vs).heap[b]? = some (.cells (spl cur.toList o vs).toArray t (0,0))
 | [],o,w,cur,h,_=>by
  unfold spl
  simp only[World.setCells,qI,List.length_nil,Nat.add_zero,List.take_append_drop,Array.toArray_toList]
  exact h
 |v :: r,o,w,cur,h,hl=>by
  rw[List.length_cons] at hl
  have h1:=heap_setCell_same w b o cur t v h
  rw[World.setCells,zbz b t r (o+1) _ _ h1 (by simp;omega)]
  congr 3
  unfold spl
  apply List.ext_getElem?
  intro i
  simp only[Array.toList_setIfInBounds,List.length_cons]
  rw[show o+(r.length+1)=o+1+r.length by omega]
  rw[kR,kR]
  rcases Nat.lt_trichotomy i o with hi|hi|hi
  ·rw[qB (by simp;omega),qB (by simp;omega),List.getElem?_take_of_lt (by omega),List.getElem?_take_of_lt (by omega),List.getElem?_set_ne (by omega)]
  ·subst hi
   rw[qB (by simp;omega),kY (by simp;omega),List.getElem?_take_of_lt (by omega),List.getElem?_set_self (by simp;omega)]
   have e:i - (cur.toList.take i).length=0:=by simp;omega
   rw[e]
   rfl
  ·rw[kY (l₁:=(cur.toList.set o v).take (o+1)) (by simp;omega),kY (l₁:=cur.toList.take o) (by simp;omega)]
   have e1:((cur.toList.set o v).take (o+1)).length=o+1:=by simp;omega
   have e2:(cur.toList.take o).length=o:=by simp;omega
   rw[e1,e2,show i - o=(i - (o+1))+1 by omega,List.cons_append,List.getElem?_cons_succ]
   have e3:(cur.toList.set o v).drop (o+1+r.length)=cur.toList.drop (o+1+r.length):=by
    rw[List.drop_set,kZ (by omega)]
   rw[e3]
theorem zio {P:Program}{n:Nat}(w:World)(t e ty:TypeId)(z:Value)(ht:P.underlying t=some (.slice e))(hv:∀ w,(zeroValue e).run P w = .ok z w)(h1:∀ v∈(Builtin.zeroCells z.cells n).toList,v.oneCell'=true)(b o c:Nat)(hn:0<n)
  (hc:∀ j,j<(Builtin.zeroCells z.cells n).toList.length→(w.cell? ⟨b,o+j,none⟩).isSome=true) (hf:∀ j,j<(Builtin.zeroCells z.cells n).toList.length→w.frozen? ⟨b,o+j,none⟩=false) :
  (Builtin.clear_ #[t] ty #[.slice (some ⟨b,o,none⟩) n c]).run P w = .ok (.tuple #[]) (w.setCells b o (Builtin.zeroCells z.cells n).toList):=by
 have hst:=run_storeCells_cells (P:=P) b o (Builtin.zeroCells z.cells n).toList 0 w (by simpa using hc) (by simpa using hf) h1
 simp only[Nat.add_zero] at hst
 obtain ⟨m,rfl⟩:∃ m,n=m+1:=⟨n - 1,by omega⟩
 simp[Builtin.clear_,run_underlying ht,hv,hst]
theorem zmh {o:Oper}{a:Act}{K:Act→World→Prop}{Q:Exit→Act→World→Prop}(w:World)(s x:Operand)(t:TypeId)
  (ho:o.op = .call { callee := .builtin .append,args:=#[s,x],argTypes:=#[t,t] }) (e:TypeId) (i:TypeInfo) (size:Nat) (ht:Tryz.prog.underlying t=some (.slice e)) (hi:Tryz.prog.info? e=some i) (hsize:i.size=size)
  (g m c y r cx:Nat) (hs:a.eval s = .slice (some ⟨g,0,none⟩) m c) (hx:a.eval x = .slice (some ⟨g,y,none⟩) r cx) (cur:Array Value) (hb:w.heap[g]? = some (.cells cur e (0,0)))
  (hcur:m*size+r*size≤cur.size) (news:List Value) (hl:news.length=r*size) (hnews:∀ j u,news[j]? = some u→cur[y+j]? = some u) (h1:∀ u∈news,u.oneCell'=true) (hroom:m+r≤c)
  (h:K (a.put o.dst (.slice (some ⟨g,0,none⟩) (m+r) c)) (w.setCells g (m*size) news)):o.wp Tryz.prog a w K Q:=by
 subst hsize
 have hsrc:=Src.ofSlice (P:=Tryz.prog) w (size:=i.size) ht ⟨g,y,none⟩ r cx news hl (fun j u hj=>by
  rw[addk]
  exact (Blk.cell (show Blk w g e cur from hb) (y+j)).trans (hnews j u hj)) h1
 have hr:=run_append_room_src (P:=Tryz.prog) w t t o.type e i ht hi g 0 m c _ r news hsrc hroom (fun j hj=>by
  rw[Nat.zero_add,Blk.cell (show Blk w g e cur from hb)]
  rw[Array.getElem?_eq_getElem (by omega)]
  rfl) (fun j hj=>by simp[World.frozen?,hb])
 rw[Nat.zero_add] at hr
 unfold Oper.wp execOp
 simp only[ho,resolve,invoke,builtin,Sem.run_bind,Sem.run_pure,Result.andThen_ok,List.map_toArray,kM,List.map_nil,hs,hx,hr]
 exact h
theorem zea (g:Nat):∀ (vs:List Value) (o:Nat) (w:World),Alt w (w.setCells g o vs) (fun k=>k=g)
 | [],_,w=>Alt.refl _ _
 |v :: r,o,w=>by
  rw[World.setCells]
  have h1:Alt w (w.setCell ⟨g,o,none⟩ v) (fun k=>k=g):=⟨by simp[World.setCell],by simp[World.setCell],by simp[World.setCell],by simp[World.setCell],fun k _ hn=>Below.heap_setCell w ⟨g,o,none⟩ v k hn⟩
  exact Alt.trans h1 (zea g r (o+1) _) (fun _ _ h=>h)
theorem zero_g:∀ i z,Tryz.prog.info? 152=some i→i.zero=some z→z.cells.all (·.oneCell')=true:=by
 have h:(Tryz.prog.info? 152).map (fun i=>i.zero.map (fun z=>z.cells.all (·.oneCell')))=some (some true):=by kernel_rfl
 intro i z hi hz
 rw[hi,Option.map_some,hz] at h
 simpa using h
theorem zn4 {P:Program}{t:TypeId}{i:TypeInfo}{z:Value}(hi:P.info? t=some i)(hz:i.zero=some z)(w:World):(zeroValue t).run P w = .ok z w:=by
 simp[zeroValue,typeInfo,hi,hz]
theorem zuc {z:Array Value}(h:z.all (·.oneCell')=true):∀ v∈(Builtin.zeroCells z 1).toList,v.oneCell'=true:=by
 intro v hv
 unfold Builtin.zeroCells at hv
 rw[Array.toList_map] at hv
 obtain ⟨k,hk,rfl⟩:=kO.1 hv
 have hk':k<z.size:=by simpa using hk
 rw[qM hk',getElem!_pos z k hk']
 exact Array.all_eq_true.1 h k hk'
theorem zq3 {w:World}{B ga gc n i:Nat}{xs:List Value}(hrow:w.ownsRow B 152 63 (.slice (some ⟨ga,0,none⟩) n gc) n xs)(h1:∀ u∈xs,u.oneCell'=true)(hi:i<n)(hn:n≤1000) :
  Calls Tryz.prog 45 #[.slice (some ⟨ga,0,none⟩) n gc,.int .i64 (i:Int),.int .i64 ((i:Int)+1)] w fun e w'=>e = .returned (.slice (some ⟨ga,0,none⟩) (n - 1) gc)∧w'.ownsRow B 152 63 (.slice (some ⟨ga,0,none⟩) (n - 1) gc) (n - 1) (xs.take (i*63)++xs.drop ((i+1)*63))∧Alt w w' (fun k=>k=ga):=by
 have HR:=kA hrow
 have H1:=kA h1
 obtain ⟨hgc,hgx⟩:n≤gc∧gc≤maxLen:=by
  rcases hrow.2 with ⟨h,_⟩|⟨g,cap,cur,h,_,_,h2,h3,_⟩
  ·cases h
  ·injection h with ha hb hc
   subst hc
   exact ⟨h2,h3⟩
 unfold maxLen at hgx
 have hi':(i:Int)<(n:Int):=by omega
 have hne:((i:Int) == (i:Int)+1)=false:=by rw[kS];omega
 obtain ⟨cur,hcur,hcz,hct⟩:∃ cur,w.heap[ga]? = some (.cells cur 152 (0,0))∧cur.size=gc*63∧cur.toList.take (n*63)=xs:=by
  rcases hrow.2 with ⟨h,_⟩|⟨g,cap,cur,h,_,h2,_,_,h5,h6⟩
  ·cases h
  ·injection h with ha hb hc
   injection ha with ha
   injection ha with ha
   subst ha
   subst hc
   exact ⟨cur,h2,h5,h6⟩
 have HCUR:=kA hcur
 have HCZ:=kA hcz
 have HCT:=kA hct
 obtain ⟨iG,zG,hi0,hz0,hz1,hz2,hz3⟩:=zpi
 have HIG:=kA hi0
 have HZ1G:=kA hz1
 have HZ0G:=kA hz0
 have HZ3G:=kA hz3
 clear hi0 hz0 hz1 hz2 hz3 hcur hcz hct
 clear hrow h1
 go_enter Tryz.func45,Tryz.ntmps45
 go_upto_region 5 with fail
 have hb1:(0:Int)≤(i:Int)+1:=by omega
 have hb2:(i:Int)+1≤(n:Int):=by omega
 obtain ⟨y,hy,hyr⟩:∃ y,(if gc=i+1 then some ⟨ga,0,none⟩ else some ⟨ga,(i+1)*63,none⟩:Option Addr)=some ⟨ga,y,none⟩∧(n - (i+1)=0∨y=(i+1)*63):=by
  by_cases h:gc=i+1
  ·exact ⟨0,kZ h,.inl (by omega)⟩
  ·exact ⟨(i+1)*63,kT h,.inr rfl⟩
 have HYR:=kA hyr
 clear hyr
 have hic:i≤gc:=by omega
 have hin:i+1≤n:=by omega
 have hit:((i:Int)+1).toNat=i+1:=by omega
 refine wp_region_held_drew (S:=fun _=>True) (by kernel_rfl) trivial (fun hHeld=>?_)
 refine wpAnyH_take (i:=0) (oi:=_) (v:=?v0) rfl (by kernel_rfl) (by kernel_rfl) (by kernel_rfl) (fun _ _ _ h=>h) (Or.inl ⟨by rfl,?y0⟩) (by assumption) ?r0
 case y0=>(intro w' hSw;(try dsimp only at hSw);(try simp only[kD,kB]);go_simp;try (with_reducible rfl))
 try simp only[Act.put,kE,kG,kF,kD,kB]
 refine wpAnyH_take (i:=1) (oi:=_) (v:=?v1) rfl (by kernel_rfl) (by kernel_rfl) (by kernel_rfl) (fun _ _ _ h=>h) (Or.inl ⟨by rfl,?y1⟩) (by assumption) ?r1
 case y1=>(intro w' hSw;(try dsimp only at hSw);(try simp only[kD,kB,kC]);go_simp;try (with_reducible rfl))
 try simp only[Act.put,kE,kG,kF,kD,kB,kC]
 refine wpAnyH_take (i:=2) (oi:=_) (v:=?v2) rfl (by kernel_rfl) (by kernel_rfl) (by kernel_rfl) (fun _ _ _ h=>h) (Or.inl ⟨by rfl,?y2⟩) (by assumption) ?r2
 case y2=>(intro w' hSw;(try dsimp only at hSw);(try simp only[kD,kB,kC]);go_simp;try (with_reducible rfl))
 try simp only[Act.put,kE,kG,kF,kD,kB,kC]
 refine wpAnyH_take (i:=3) (oi:=_) (v:=?v3) rfl (by kernel_rfl) (by kernel_rfl) (by kernel_rfl) (fun _ _ _ h=>h) (Or.inl ⟨by rfl,?y3⟩) (by assumption) ?r3
 case y3=>(intro w' hSw;(try dsimp only at hSw);(try simp only[kD,kB,kC]);go_simp;try (with_reducible rfl))
 try simp only[Act.put,kE,kG,kF,kD,kB,kC]
 refine wpAnyH_take (i:=4) (oi:=_) (v:=?v4) rfl (by kernel_rfl) (by kernel_rfl) (by kernel_rfl) (fun _ _ _ h=>h) (Or.inl ⟨by rfl,?y4⟩) (by assumption) ?r4
 case y4=>(intro w' hSw;(try dsimp only at hSw);(try simp only[kD,kB,kC]);go_simp;try (with_reducible rfl))
 try simp only[Act.put,kE,kG,kF,kD,kB,kC]
 refine wpAnyH_take (i:=5) (oi:=_) (v:=?v5) rfl (by kernel_rfl) (by kernel_rfl) (by kernel_rfl) (fun _ _ _ h=>h) (Or.inl ⟨by rfl,?y5⟩) (by assumption) ?r5
 case y5=>(intro w' hSw;(try dsimp only at hSw);(try simp only[kD,kB,kC]);go_simp;try (with_reducible rfl))
 try simp only[Act.put,kE,kG,kF,kD,kB,kC]
 refine wpAnyH_ready (rs:=[6]) (by kernel_rfl) (by simp) ?_
 refine AllReadyH.cons rfl (fun K hK=>?_) AllReadyH.nil
 try simp only[kD,kB,kC]
 rw[kZ (by rfl)]
 have hxl:xs.length=n*63:=HR.out.1
 refine zmh w.drew _ _ 114 rfl 152 iG 63 Tryz.underlying114 HIG.out HZ1G.out ga i gc y (n - (i+1)) _ rfl rfl cur (by exact HCUR.out) (by rw[HCZ.out];omega) (xs.drop ((i+1)*63)) (by rw[List.length_drop,hxl];omega) (fun j u hj=>?_) (fun u hu=>H1.out u (List.mem_of_mem_drop hu)) (by omega) ?_
 ·rcases HYR.out with h0|h0
  ·have h2:=(kK.1 hj).1
   rw[List.length_drop,hxl] at h2
   omega
  ·have h2:=(kK.1 hj).1
   rw[List.length_drop,hxl] at h2
   rw[h0]
   rw[List.getElem?_drop, ← HCT.out,List.getElem?_take_of_lt (by omega)] at hj
   simpa using hj
 refine hK.out _ _ trivial (fun hHeld=>?_)
 clear hK K
 try simp only[Act.put,kE,kG,kF]
 refine wpAnyH_take (i:=7) (oi:=_) (v:=?v7) rfl (by kernel_rfl) (by kernel_rfl) (by kernel_rfl) (fun _ _ _ h=>h) (Or.inl ⟨by rfl,?y7⟩) (by assumption) ?r7
 case y7=>(intro w' hSw;(try dsimp only at hSw);(try simp only[kD,kB,kC]);go_simp;try (with_reducible rfl))
 try simp only[Act.put,kE,kG,kD,kB,kC]
 refine wpAnyH_done (by kernel_rfl) ?_ _
 obtain ⟨W2,hW2⟩:∃ x,x=w.drew.setCells ga (i*63) (xs.drop ((i+1)*63)):=⟨_,rfl⟩
 rw[← hW2]
 have HW2:=kA hW2
 have hni:i+(n - (i+1))=n - 1:=by omega
 rw[hni]
 have hn1:((n - 1:Nat):Int)<(n:Int):=by omega
 have hg1:gc≠n - 1:=by omega
 have hs1:n - (n - 1)=1:=by omega
 clear hW2 hni hxl
 have HB2:Hid (W2.heap[ga]? = some (.cells (spl cur.toList (i*63) (xs.drop ((i+1)*63))).toArray 152 (0,0))):=kA (by
  rw[HW2.out]
  refine zbz ga _ _ _ w.drew cur HCUR.out ?_
  rw[List.length_drop,HR.out.1,HCZ.out]
  omega)
 obtain ⟨Z,hZ⟩:∃ Z,Z=(Builtin.zeroCells zG.cells 1).toList:=⟨_,rfl⟩
 have HZL:Hid (Z.length=63):=kA (by rw[hZ];simp[size_zeroCells,HZ3G.out])
 have HSZ:Hid ((spl cur.toList (i*63) (xs.drop ((i+1)*63))).length=gc*63):=kA (by rw[zub (by rw[List.length_drop,HR.out.1,Array.length_toList,HCZ.out];omega)];simpa using HCZ.out)
 have hcl:(Builtin.clear_ #[114] 0 #[.slice (some ⟨ga,(n - 1)*63,none⟩) 1 (gc - (n - 1))]).run Tryz.prog W2 = .ok (.tuple #[]) (W2.setCells ga ((n - 1)*63) Z):=by
  rw[hZ]
  refine zio W2 _ 152 _ zG Tryz.underlying114 (zn4 HIG.out HZ0G.out) (zuc (zero_g _ _ HIG.out HZ0G.out)) ga _ _ (by decide) (fun j hj=>?_) (fun j hj=>by simp[World.frozen?,HB2.out])
  rw[← hZ,HZL.out] at hj
  rw[Blk.cell (show Blk W2 ga _ _ from HB2.out),List.getElem?_toArray,kV (by rw[HSZ.out];omega)]
  rfl
 have HZ:=kA hZ
 clear hZ
 go_wp2_with fail
 go_ret
 have hxl:=HR.out.1
 have hdl:(xs.drop ((i+1)*63)).length=(n - (i+1))*63:=by rw[List.length_drop,hxl];omega
 have hcl63:cur.toList.length=gc*63:=by simpa using HCZ.out
 have hll:=HSZ.out
 have hzl:=HZL.out
 have hb3:=zbz ga 152 Z ((n - 1)*63) W2 _ HB2.out (by rw[List.size_toArray,hll,hzl];omega)
 have hbase:B≤ga:=by
  rcases HR.out.2 with ⟨h,_⟩|⟨g,cap,cur',h,h2,_⟩
  ·cases h
  ·injection h with ha
   injection ha with ha
   injection ha with ha
   omega
 refine ⟨rfl,⟨?_,.inr ⟨ga,gc,_,rfl,hbase,hb3,by omega,by unfold maxLen;omega,?_,?_⟩⟩,?_⟩
 ·rw[kI,hdl,List.length_take,hxl]
  omega
 ·rw[List.size_toArray,zub (by show _≤(spl cur.toList (i*63) (xs.drop ((i+1)*63))).length;rw[hll,hzl];omega)]
  exact hll
 ·show (spl (spl cur.toList (i*63) (xs.drop ((i+1)*63))) ((n - 1)*63) Z).take ((n - 1)*63)=_
  have h1:∀ (L:List Value) (o:Nat) (vs:List Value),o≤L.length→(spl L o vs).take o=L.take o:=fun L o vs h=>by
   unfold spl
   rw[kR,List.take_append_of_le_length (by rw[List.length_take];omega),List.take_take,Nat.min_self]
  rw[h1 _ _ _ (by rw[hll];omega)]
  unfold spl
  have h2:(cur.toList.take (i*63)++xs.drop ((i+1)*63)).length=(n - 1)*63:=by
   rw[kI,hdl,List.length_take,hcl63]
   omega
  rw[List.take_append_of_le_length (by omega),List.take_of_length_le (by omega), ← HCT.out,List.take_take,Nat.min_eq_left (by omega)]
 ·have h1:Alt w W2 (fun k=>k=ga):=by
   rw[HW2.out]
   exact Alt.trans ((Alt.refl w (fun k=>k=ga)).drewN 1) (zea ga _ _ _) (fun _ _ h=>h)
  exact Alt.trans h1 (zea ga _ _ _) (fun _ _ h=>h)
theorem zcb {w:World}{g:Nat}{t:TypeId}{cs:Array Value}(h:Blk w g t cs)(h1:t≠5)(h2:t≠157)(h3:t≠154)(h4:t≠240):¬ TB w g:=by
 unfold Blk at h
 rintro (⟨es,q,e⟩|⟨cs',t',fr,e,ht⟩)
 ·rw[h] at e;cases e
 ·rw[h] at e
  injection e with e
  injection e with e1 e2
  subst e2
  rcases ht with ht|ht|ht|ht
  ·exact h1 ht
  ·exact h2 ht
  ·exact h3 ht
  ·exact h4 ht
structure Ac where
 kind:Int
 id:Int
 ver:Int
 time:Int
 name:ByteArray
 mA:Option Addr
 mn:Nat
 mc:Nat
 cA:Option Addr
 cn:Nat
 cc:Nat
def cellsA (a:Ac):Array Value:=#[.int .i64 a.kind,.int .i64 a.id,.int .i64 a.ver,.int .i64 a.time,.string a.name,.slice a.mA a.mn a.mc,.slice a.cA a.cn a.cc]
def svC (bk:Nat)(Mo:Int)(W now:Nat)(gA:Option Addr)(gn gc:Nat):Array Value:=#[.pointer (some ⟨bk,0,none⟩),.int .i64 Mo,.int .i64 (W:Int),.int .i64 (now:Int),.slice gA gn gc]
section
variable {w:World}{sp bk:Nat}{Mo:Int}{W now:Nat}{gA:Option Addr}{gn gc:Nat}{a:Ac}
theorem zmi (hK:a.kind=2)(hpt:Blk w sp 116 (svC bk Mo W now gA gn gc)){Q:World→Int→World→Prop}
  (hb:∀ V,Below w.heap.size w V→Calls Tryz.prog 37 #[.pointer (some ⟨bk,0,none⟩),.string a.name,.int .i64 a.ver] V fun e w'=>∃ r,e = .returned (.int .i64 r)∧Q V r w'∧Kb V w') :
  Calls Tryz.prog 20 #[.pointer (some ⟨sp,0,none⟩),.agg (cellsA a)] w fun e w'=>∃ V r,Below w.heap.size w V∧Q V r w'∧Kb V w'∧e = .returned (.tuple (if r=0 then #[.int .i64 a.ver,.int .i64 0] else #[.int .i64 0,.int .i64 r])):=by
 have HK:=kA hK
 have HPT:=kA hpt
 have HB:=kA hb
 clear hK hpt hb
 unfold cellsA
 rw[HK.out]
 go_enter Tryz.func20,Tryz.ntmps20
 have HA1:Hid (Blk (w.alloc (.cells #[.int .i64 2,.int .i64 a.id,.int .i64 a.ver,.int .i64 a.time,.string a.name,.slice a.mA a.mn a.mc,.slice a.cA a.cn a.cc] 35)) w.heap.size 35 #[.int .i64 2,.int .i64 a.id,.int .i64 a.ver,.int .i64 a.time,.string a.name,.slice a.mA a.mn a.mc,.slice a.cA a.cn a.cc]):=kA (Blk.new w _ _)
 have HB1:Hid (Below w.heap.size w (w.alloc (.cells #[.int .i64 2,.int .i64 a.id,.int .i64 a.ver,.int .i64 a.time,.string a.name,.slice a.mA a.mn a.mc,.slice a.cA a.cn a.cc] 35))):=kA (Below.new1 w _)
 go_upto_region 1 with fail
 generalize w.alloc (.cells #[.int .i64 2,.int .i64 a.id,.int .i64 a.ver,.int .i64 a.time,.string a.name,.slice a.mA a.mn a.mc,.slice a.cA a.cn a.cc] 35)=W1 at HA1 HB1 ⊢
 have HCA:Hid (∀ V,Kb W1 V→V.cell? ⟨w.heap.size,2,none⟩=some (.int .i64 a.ver)∧V.cell? ⟨w.heap.size,4,none⟩=some (.string a.name)∧V.cell? ⟨sp,0,none⟩=some (.pointer (some ⟨bk,0,none⟩))):=kA fun V hV=>by
  have h1:=HA1.out.kept hV (fun e=>zb4 HA1.out (by decide) (by decide) (by decide) (by decide) (by decide) (by decide) (by decide) (by decide) (.inl e))
  have h2:=(zab HPT.out HB1.out).kept hV (zcb (zab HPT.out HB1.out) (by decide) (by decide) (by decide) (by decide))
  exact ⟨h1.cell 2,h1.cell 4,h2.cell 0⟩
 have a0:W1.cell? ⟨w.heap.size,0,none⟩=some (.int .i64 2):=HA1.out.cell 0
 obtain ⟨a2,a4,p0⟩:=HCA.out W1 (Alt.refl _ _)
 go_upto_region 9 with fail
 go_region_held3 (fun w'=>w'.cell? ⟨w.heap.size,2,none⟩=some (.int .i64 a.ver)∧w'.cell? ⟨w.heap.size,4,none⟩=some (.string a.name)∧w'.cell? ⟨sp,0,none⟩=some (.pointer (some ⟨bk,0,none⟩))) (simp[*]) (first
  |(go_at_call 37;refine (HB.out _ HB1.out.drew).mono ?_;rintro e w2 ⟨r,rfl,hq,hk⟩;have HQ:=kA hq;have HKB:=kA hk;obtain ⟨k2,k4,q0⟩:=HCA.out w2 (((Alt.refl W1 (TB W1)).drewN 1).trans hk (fun _ _ h=>h));clear hq hk))
 have HB2:=kA HB1.out.drew
 by_cases hr:r=0
 ·subst hr
  go_wp2
  go_ret2
  exact ⟨_,0,HB2.out,HQ.out,HKB.out,rfl⟩
 ·have hr1:(r == 0)=false:=by rw[kS];exact hr
  go_wp2
  go_ret2
  exact ⟨_,r,HB2.out,HQ.out,HKB.out,by rw[kT hr];rfl⟩
theorem zn5 (hK:a.kind=3)(hpt:Blk w sp 116 (svC bk Mo W now gA gn gc)){Q:World→Int→World→Prop}
  (hb:∀ V,Below w.heap.size w V→Calls Tryz.prog 38 #[.pointer (some ⟨bk,0,none⟩),.string a.name,.int .i64 a.ver] V fun e w'=>∃ r,e = .returned (.int .i64 r)∧Q V r w'∧Kb V w') :
  Calls Tryz.prog 20 #[.pointer (some ⟨sp,0,none⟩),.agg (cellsA a)] w fun e w'=>∃ V r,Below w.heap.size w V∧Q V r w'∧Kb V w'∧e = .returned (.tuple (if r=0 then #[.int .i64 a.ver,.int .i64 0] else #[.int .i64 0,.int .i64 r])):=by
 have HK:=kA hK
 have HPT:=kA hpt
 have HB:=kA hb
 clear hK hpt hb
 unfold cellsA
 rw[HK.out]
 go_enter Tryz.func20,Tryz.ntmps20
 have HA1:Hid (Blk (w.alloc (.cells #[.int .i64 3,.int .i64 a.id,.int .i64 a.ver,.int .i64 a.time,.string a.name,.slice a.mA a.mn a.mc,.slice a.cA a.cn a.cc] 35)) w.heap.size 35 #[.int .i64 3,.int .i64 a.id,.int .i64 a.ver,.int .i64 a.time,.string a.name,.slice a.mA a.mn a.mc,.slice a.cA a.cn a.cc]):=kA (Blk.new w _ _)
 have HB1:Hid (Below w.heap.size w (w.alloc (.cells #[.int .i64 3,.int .i64 a.id,.int .i64 a.ver,.int .i64 a.time,.string a.name,.slice a.mA a.mn a.mc,.slice a.cA a.cn a.cc] 35))):=kA (Below.new1 w _)
 go_upto_region 1 with fail
 generalize w.alloc (.cells #[.int .i64 3,.int .i64 a.id,.int .i64 a.ver,.int .i64 a.time,.string a.name,.slice a.mA a.mn a.mc,.slice a.cA a.cn a.cc] 35)=W1 at HA1 HB1 ⊢
 have HCA:Hid (∀ V,Kb W1 V→V.cell? ⟨w.heap.size,2,none⟩=some (.int .i64 a.ver)∧V.cell? ⟨w.heap.size,4,none⟩=some (.string a.name)∧V.cell? ⟨sp,0,none⟩=some (.pointer (some ⟨bk,0,none⟩))):=kA fun V hV=>by
  have h1:=HA1.out.kept hV (fun e=>zb4 HA1.out (by decide) (by decide) (by decide) (by decide) (by decide) (by decide) (by decide) (by decide) (.inl e))
  have h2:=(zab HPT.out HB1.out).kept hV (zcb (zab HPT.out HB1.out) (by decide) (by decide) (by decide) (by decide))
  exact ⟨h1.cell 2,h1.cell 4,h2.cell 0⟩
 have a0:W1.cell? ⟨w.heap.size,0,none⟩=some (.int .i64 3):=HA1.out.cell 0
 obtain ⟨a2,a4,p0⟩:=HCA.out W1 (Alt.refl _ _)
 go_upto_region 11 with fail
 go_region_held3 (fun w'=>w'.cell? ⟨w.heap.size,2,none⟩=some (.int .i64 a.ver)∧w'.cell? ⟨w.heap.size,4,none⟩=some (.string a.name)∧w'.cell? ⟨sp,0,none⟩=some (.pointer (some ⟨bk,0,none⟩))) (simp[*]) (first
  |(go_at_call 38;refine (HB.out _ HB1.out.drew).mono ?_;rintro e w2 ⟨r,rfl,hq,hk⟩;have HQ:=kA hq;have HKB:=kA hk;obtain ⟨k2,k4,q0⟩:=HCA.out w2 (((Alt.refl W1 (TB W1)).drewN 1).trans hk (fun _ _ h=>h));clear hq hk))
 have HB2:=kA HB1.out.drew
 by_cases hr:r=0
 ·subst hr
  go_wp2
  go_ret2
  exact ⟨_,0,HB2.out,HQ.out,HKB.out,rfl⟩
 ·have hr1:(r == 0)=false:=by rw[kS];exact hr
  go_wp2
  go_ret2
  exact ⟨_,r,HB2.out,HQ.out,HKB.out,by rw[kT hr];rfl⟩
end
section
variable {w:World}{sp bk:Nat}{Mo:Int}{W now:Nat}{gA:Option Addr}{gn gc:Nat}{a:Ac}
theorem zn6 (hK:a.kind=6)(hpt:Blk w sp 116 (svC bk Mo W now gA gn gc)){Q:World→Int→World→Prop}
  (hb:∀ V,Below w.heap.size w V→Calls Tryz.prog 39 #[.pointer (some ⟨bk,0,none⟩)] V fun e w'=>∃ r,e = .returned (.int .i64 r)∧Q V r w'∧Kb V w') :
  Calls Tryz.prog 20 #[.pointer (some ⟨sp,0,none⟩),.agg (cellsA a)] w fun e w'=>∃ V r,Below w.heap.size w V∧Q V r w'∧Kb V w'∧e = .returned (.tuple #[.int .i64 0,.int .i64 r]):=by
 have HK:=kA hK
 have HPT:=kA hpt
 have HB:=kA hb
 clear hK hpt hb
 unfold cellsA
 rw[HK.out]
 go_enter Tryz.func20,Tryz.ntmps20
 have HA1:Hid (Blk (w.alloc (.cells #[.int .i64 6,.int .i64 a.id,.int .i64 a.ver,.int .i64 a.time,.string a.name,.slice a.mA a.mn a.mc,.slice a.cA a.cn a.cc] 35)) w.heap.size 35 #[.int .i64 6,.int .i64 a.id,.int .i64 a.ver,.int .i64 a.time,.string a.name,.slice a.mA a.mn a.mc,.slice a.cA a.cn a.cc]):=kA (Blk.new w _ _)
 have HB1:Hid (Below w.heap.size w (w.alloc (.cells #[.int .i64 6,.int .i64 a.id,.int .i64 a.ver,.int .i64 a.time,.string a.name,.slice a.mA a.mn a.mc,.slice a.cA a.cn a.cc] 35))):=kA (Below.new1 w _)
 go_upto_region 1 with fail
 generalize w.alloc (.cells #[.int .i64 6,.int .i64 a.id,.int .i64 a.ver,.int .i64 a.time,.string a.name,.slice a.mA a.mn a.mc,.slice a.cA a.cn a.cc] 35)=W1 at HA1 HB1 ⊢
 have HCA:Hid (∀ V,Kb W1 V→V.cell? ⟨w.heap.size,2,none⟩=some (.int .i64 a.ver)∧V.cell? ⟨w.heap.size,4,none⟩=some (.string a.name)∧V.cell? ⟨sp,0,none⟩=some (.pointer (some ⟨bk,0,none⟩))):=kA fun V hV=>by
  have h1:=HA1.out.kept hV (fun e=>zb4 HA1.out (by decide) (by decide) (by decide) (by decide) (by decide) (by decide) (by decide) (by decide) (.inl e))
  have h2:=(zab HPT.out HB1.out).kept hV (zcb (zab HPT.out HB1.out) (by decide) (by decide) (by decide) (by decide))
  exact ⟨h1.cell 2,h1.cell 4,h2.cell 0⟩
 have a0:W1.cell? ⟨w.heap.size,0,none⟩=some (.int .i64 6):=HA1.out.cell 0
 obtain ⟨a2,a4,p0⟩:=HCA.out W1 (Alt.refl _ _)
 go_upto_region 13 with fail
 go_wp2_with (first
  |(go_at_call 39;refine (HB.out _ HB1.out).mono ?_;rintro e w2 ⟨r,rfl,hq,hk⟩;have HQ:=kA hq;have HKB:=kA hk;clear hq hk))
 go_ret2
 exact ⟨_,r,HB1.out,HQ.out,HKB.out,rfl⟩
end
section
variable {w:World}{sp bk:Nat}{Mo:Int}{W now:Nat}{gA:Option Addr}{gn gc:Nat}{a:Ac}
theorem zq4 (hK:a.kind=1)(hpt:Blk w sp 116 (svC bk Mo W now gA gn gc)){RM:World→Array Value→Prop}{er:Int}{Q:World→Int→Int→World→Prop}
  (hr:∀ V,Below w.heap.size w V→Calls Tryz.prog 35 #[.slice a.mA a.mn a.mc] V fun e w'=>∃ cs,e = .returned (.tuple #[.agg cs,.int .i64 er])∧cs.size=59∧AllOne cs∧Below V.heap.size V w'∧(er=0→RM w' cs))
  (hm:∀ V V' cs,RM V cs→Below V.heap.size V V'→RM V' cs)
  (hb:∀ V cs,Below w.heap.size w V→RM V cs→er=0→Calls Tryz.prog 36 #[.pointer (some ⟨bk,0,none⟩),.string a.name,.agg cs] V fun e w'=>∃ x r,e = .returned (.tuple #[.int .i64 x,.int .i64 r])∧Q V x r w'∧Kb V w') :
  Calls Tryz.prog 20 #[.pointer (some ⟨sp,0,none⟩),.agg (cellsA a)] w fun e w'=>(er≠0∧Below w.heap.size w w'∧e = .returned (.tuple #[.int .i64 0,.int .i64 er]))∨(er=0∧∃ V x r,Below w.heap.size w V∧Q V x r w'∧Kb V w'∧e = .returned (.tuple #[.int .i64 x,.int .i64 r])):=by
 have HK:=kA hK
 have HPT:=kA hpt
 have HB:=kA hb
 have HR:=kA hr
 have HRM:=kA hm
 clear hK hpt hb hr hm
 unfold cellsA
 rw[HK.out]
 go_enter Tryz.func20,Tryz.ntmps20
 have HA1:Hid (Blk (w.alloc (.cells #[.int .i64 1,.int .i64 a.id,.int .i64 a.ver,.int .i64 a.time,.string a.name,.slice a.mA a.mn a.mc,.slice a.cA a.cn a.cc] 35)) w.heap.size 35 #[.int .i64 1,.int .i64 a.id,.int .i64 a.ver,.int .i64 a.time,.string a.name,.slice a.mA a.mn a.mc,.slice a.cA a.cn a.cc]):=kA (Blk.new w _ _)
 have HB1:Hid (Below w.heap.size w (w.alloc (.cells #[.int .i64 1,.int .i64 a.id,.int .i64 a.ver,.int .i64 a.time,.string a.name,.slice a.mA a.mn a.mc,.slice a.cA a.cn a.cc] 35))):=kA (Below.new1 w _)
 go_upto_region 1 with fail
 generalize w.alloc (.cells #[.int .i64 1,.int .i64 a.id,.int .i64 a.ver,.int .i64 a.time,.string a.name,.slice a.mA a.mn a.mc,.slice a.cA a.cn a.cc] 35)=W1 at HA1 HB1 ⊢
 have HCA:Hid (∀ V,Kb W1 V→V.cell? ⟨w.heap.size,2,none⟩=some (.int .i64 a.ver)∧V.cell? ⟨w.heap.size,4,none⟩=some (.string a.name)∧V.cell? ⟨sp,0,none⟩=some (.pointer (some ⟨bk,0,none⟩))):=kA fun V hV=>by
  have h1:=HA1.out.kept hV (fun e=>zb4 HA1.out (by decide) (by decide) (by decide) (by decide) (by decide) (by decide) (by decide) (by decide) (.inl e))
  have h2:=(zab HPT.out HB1.out).kept hV (zcb (zab HPT.out HB1.out) (by decide) (by decide) (by decide) (by decide))
  exact ⟨h1.cell 2,h1.cell 4,h2.cell 0⟩
 have a0:W1.cell? ⟨w.heap.size,0,none⟩=some (.int .i64 1):=HA1.out.cell 0
 obtain ⟨a2,a4,p0⟩:=HCA.out W1 (Alt.refl _ _)
 have a5:W1.cell? ⟨w.heap.size,5,none⟩=some (.slice a.mA a.mn a.mc):=HA1.out.cell 5
 go_upto_region 5 with (first
  |(go_at_call 35;go_loud (refine (HR.out _ HB1.out).mono ?_;rintro e w2 ⟨cs,rfl,hs1,ho1,hb2,hrm⟩;have HS1:=kA hs1;have HO1:=kA ho1;have HB2:=kA hb2;have HRC:=kA hrm;clear hs1 ho1 hb2 hrm))
  |(refine zaw _ rfl 90 _ _ rfl w2.heap.size zM cs 90 rfl rfl (by exact Blk.new w2 _ _) (HS1.out.symm ▸ zba) HS1.out.symm HO1.out ?_;intro w3 hb3 ha3 hs3;have HK3:=kA hb3;have HA3:=kA ha3;clear hb3 ha3 hs3))
 have HB3:Hid (Below w2.heap.size w2 w3):=kA ((Below.new1 w2 _).trans (Alt.toBelow HA3.out (fun q _ e=>by rw[e];exact kJ _) (by rw[World.size_alloc];omega)))
 have HW3:Hid (Below W1.heap.size W1 w3):=kA (HB2.out.trans (HB3.out.mono HB2.out.size))
 have HV3:Hid (Below w.heap.size w w3):=kA (HB1.out.trans (HW3.out.mono HB1.out.size))
 by_cases he:er=0
 ·subst he
  have HR3:=kA (HRM.out _ _ _ (HRC.out rfl) HB3.out)
  obtain ⟨b2,b4,q0⟩:=HCA.out w3 (alt_of_below HW3.out)
  go_upto_region 7 with fail
  have HKW3:Hid (Kb W1 w3):=kA (alt_of_below HW3.out)
  refine wp_region_held_drew (S:=fun W=>Kb w3 W) (by kernel_rfl) ((Alt.refl w3 (TB w3)).drewN 1) (fun hHeld=>?_)
  refine wpAnyH_take (i:=0) (oi:=_) (v:=?v0) rfl (by kernel_rfl) (by kernel_rfl) (by kernel_rfl) (fun _ _ _ h=>h) (Or.inl ⟨by rfl,?y0⟩) (by assumption) ?r0
  case y0=>(intro w' hSw;(try dsimp only at hSw);(try simp only[kD,kB]);go_simp;try (with_reducible rfl))
  try simp only[Act.put,kE,kG,kF,kD,kB]
  refine wpAnyH_take (i:=1) (oi:=_) (v:=?v1) rfl (by kernel_rfl) (by kernel_rfl) (by kernel_rfl) (fun _ _ _ h=>h) (Or.inl ⟨by rfl,?y1⟩) (by assumption) ?r1
  case y1=>(intro w' hSw;(try dsimp only at hSw);(try simp only[kD,kB,kC]);go_simp;try (with_reducible rfl))
  try simp only[Act.put,kE,kG,kF,kD,kB,kC]
  refine wpAnyH_take (i:=2) (oi:=_) (v:=?v2) rfl (by kernel_rfl) (by kernel_rfl) (by kernel_rfl) (fun _ _ _ h=>h) (Or.inl ⟨by rfl,?y2⟩) (by assumption) ?r2
  case y2=>(intro w' hSw;(try dsimp only at hSw);(try simp only[kD,kB,kC]);go_simp;try (with_reducible rfl))
  try simp only[Act.put,kE,kG,kF,kD,kB,kC]
  refine wpAnyH_take (i:=3) (oi:=_) (v:=?v3) rfl (by kernel_rfl) (by kernel_rfl) (by kernel_rfl) (fun _ _ _ h=>h) (Or.inl ⟨by rfl,?y3⟩) (by assumption) ?r3
  case y3=>(intro w' hSw;have hxx:=HCA.out w' (HKW3.out.trans hSw);clear hSw;obtain ⟨_,hx4,hx0⟩:=hxx;(try dsimp only at hSw);(try simp only[kD,kB,kC]);go_simp;try (with_reducible rfl))
  try simp only[Act.put,kE,kG,kF,kD,kB,kC]
  refine wpAnyH_take (i:=4) (oi:=_) (v:=?v4) rfl (by kernel_rfl) (by kernel_rfl) (by kernel_rfl) (fun _ _ _ h=>h) (Or.inl ⟨by rfl,?y4⟩) (by assumption) ?r4
  case y4=>(intro w' hSw;(try dsimp only at hSw);(try simp only[kD,kB,kC]);go_simp;try (with_reducible rfl))
  try simp only[Act.put,kE,kG,kF,kD,kB,kC]
  refine wpAnyH_take (i:=5) (oi:=_) (v:=?v5) rfl (by kernel_rfl) (by kernel_rfl) (by kernel_rfl) (fun _ _ _ h=>h) (Or.inl ⟨by rfl,?y5⟩) (by assumption) ?r5
  case y5=>(intro w' hSw;have hxx:=HCA.out w' (HKW3.out.trans hSw);clear hSw;obtain ⟨_,hx4,hx0⟩:=hxx;(try dsimp only at hSw);(try simp only[kD,kB,kC]);go_simp;try (with_reducible rfl))
  try simp only[Act.put,kE,kG,kF,kD,kB,kC]
  refine wpAnyH_take (i:=6) (oi:=_) (v := .agg cs) rfl (by kernel_rfl) (by kernel_rfl) (by kernel_rfl) (fun _ _ _ h=>h) (zcj (by rfl) 90 (.tmp 7) rfl w2.heap.size rfl cs 90 _ (fun W hW=>HK3.out.kept hW (zcb HK3.out (by decide) (by decide) (by decide) (by decide))) Tryz.underlying90 rfl (HS1.out.symm ▸ zba)) (by assumption) ?r6
  try simp only[Act.put,kE,kG,kF,kD,kB,kC]
  refine wpAnyH_ready (rs:=[7]) (by kernel_rfl) (by simp) ?_
  refine AllReadyH.cons rfl (fun K hK=>?_) AllReadyH.nil
  try simp only[kD,kB,kC]
  go_simp
  go_at_call 36
  refine (HB.out _ cs HV3.out.drew (HRM.out _ _ _ HR3.out (Below.refl _ w3).drew) rfl).mono ?_
  rintro e w4 ⟨x,r,rfl,hq,hk⟩
  have HQ:=kA hq
  have HKB:=kA hk
  clear hq hk
  refine hK.out _ _ (by exact hHeld.trans HKB.out) (fun hHeld=>?_)
  clear hK K
  try simp only[Act.put,kE,kG,kF,kD,kB,kC]
  refine wpAnyH_take (i:=8) (oi:=_) (v:=?v8) rfl (by kernel_rfl) (by kernel_rfl) (by kernel_rfl) (fun _ _ _ h=>h) (Or.inl ⟨by rfl,?y8⟩) (by assumption) ?r8
  case y8=>(intro w' hSw;(try dsimp only at hSw);(try simp only[kD,kB,kC]);go_simp;try (with_reducible rfl))
  try simp only[Act.put,kE,kG,kF,kD,kB,kC]
  refine wpAnyH_take (i:=9) (oi:=_) (v:=?v9) rfl (by kernel_rfl) (by kernel_rfl) (by kernel_rfl) (fun _ _ _ h=>h) (Or.inl ⟨by rfl,?y9⟩) (by assumption) ?r9
  case y9=>(intro w' hSw;(try dsimp only at hSw);(try simp only[kD,kB,kC]);go_simp;try (with_reducible rfl))
  try simp only[Act.put,kE,kG,kF,kD,kB,kC]
  refine wpAnyH_take (i:=10) (oi:=_) (v:=?v10) rfl (by kernel_rfl) (by kernel_rfl) (by kernel_rfl) (fun _ _ _ h=>h) (Or.inl ⟨by rfl,?y10⟩) (by assumption) ?r10
  case y10=>(intro w' hSw;(try dsimp only at hSw);(try simp only[kD,kB,kC]);go_simp;try (with_reducible rfl))
  try simp only[Act.put,kE,kG,kF,kD,kB,kC]
  refine wpAnyH_take (i:=11) (oi:=_) (v:=?v11) rfl (by kernel_rfl) (by kernel_rfl) (by kernel_rfl) (fun _ _ _ h=>h) (Or.inl ⟨by rfl,?y11⟩) (by assumption) ?r11
  case y11=>(intro w' hSw;(try dsimp only at hSw);(try simp only[kD,kB,kC]);go_simp;try (with_reducible rfl))
  try simp only[Act.put,kE,kG,kF,kD,kB,kC]
  refine wpAnyH_done (by kernel_rfl) ?_ _
  go_wp2
  go_ret2
  exact ⟨_,HV3.out.drew,x,r,HQ.out,HKB.out,rfl⟩
 ·have he1:(er == 0)=false:=by rw[kS];exact he
  go_wp2
  go_ret2
  exact .inl ⟨he,HV3.out,rfl⟩
end
end Go.Proofs.YtemgclnkgieldaaGreatDoor.Oc
