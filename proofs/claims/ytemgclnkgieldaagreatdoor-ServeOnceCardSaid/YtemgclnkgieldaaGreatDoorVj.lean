/- Is an act fine? -/
import Derived.Test.YtemgclnkgieldaaGreatDoorVi
set_option maxHeartbeats 4000000
set_option maxRecDepth 100000
namespace Go.Proofs.YtemgclnkgieldaaGreatDoor.Oc
open Go Go.RowKit Dk
def cntB (n:Int):Bool:=decide (0≤n∧n≤1073741824)
theorem zmm {n:Int}:cntB n=true↔0≤n∧n≤1073741824:=by unfold cntB;simp
theorem zq8 (n:Int)(w:World):Calls Tryz.prog 32 #[.int .i64 n] w fun e w'=>e = .returned (.bool (cntB n))∧w'=w:=by
 go_enter Tryz.func32,Tryz.ntmps32
 by_cases h0:0≤n
 ·by_cases h1:n≤1073741824
  ·have HC:Hid (cntB n=true):=kA (zmm.2 ⟨h0,h1⟩)
   go_wp2
   go_ret
   exact ⟨by rw[HC.out];rfl,rfl⟩
  ·have HC:Hid (cntB n=false):=kA (by rw[Bool.eq_false_iff];exact fun h=>h1 (zmm.1 h).2)
   go_wp2
   go_ret
   exact ⟨by rw[HC.out];rfl,rfl⟩
 ·have HC:Hid (cntB n=false):=kA (by rw[Bool.eq_false_iff];exact fun h=>h0 (zmm.1 h).1)
  go_wp2
  go_ret
  exact ⟨by rw[HC.out];rfl,rfl⟩
def FineC (kind id ver time:Int)(ln mn n:Nat):Prop :=
 (1≤kind∧kind≤6)∧(0≤id∧id≤1073741824)∧(0≤ver∧ver≤1073741824)∧(0≤time∧time≤1073741824)∧ln≤20∧n≤20∧(mn=0∨kind=1)∧(n=0∨kind=4)
structure CellsOf (ck:List Value→Bool)(n:Nat)(xs:List Value)(cl:List (List Value)):Prop where
 len:cl.length=n
 eq:xs=cl.flatten
 sz:∀ l∈cl,l.length=7∧(∀ u∈l,u.oneCell'=true)
 ok:∀ l∈cl,∀ W,Calls Tryz.prog 33 #[.agg l.toArray] W fun e w'=>e = .returned (.bool (ck l))∧Below W.heap.size W w'
def FineRes (w:World)(a:Ac)(ck:List Value→Bool)(cl:List (List Value))(e:Ending)(w':World):Prop:=∃ r,e = .returned (.bool r)∧(r=true↔FineC a.kind a.id a.ver a.time a.name.size a.mn a.cn∧cl.all ck=true)∧Below w.heap.size w w'
theorem flat7:∀ (cl:List (List Value)) (i t:Nat) (u:Value) {l:List Value},(∀ x∈cl,x.length=7)→cl[i]? = some l→l[t]? = some u→cl.flatten[i*7+t]? = some u
 | [],i,t,u,l,_,h,_=>by cases h
 |p :: ps,0,t,u,l,h0,h,ht=>by
  injection h with h
  subst h
  rw[qD,Nat.zero_mul,Nat.zero_add,qB (kK.1 ht).1]
  exact ht
 |p :: ps,i+1,t,u,l,h0,h,ht=>by
  have hp:=h0 p (qO ..)
  have e:(i+1)*7+t - p.length=i*7+t:=by rw[hp];omega
  rw[qD,kY (by rw[hp];omega),e]
  exact flat7 ps i t u (fun x hx=>h0 x (qP _ hx)) h ht
theorem zep:(Tryz.prog.info? 124).map (·.size)=some 7:=by kernel_rfl
theorem zwj {ck:List Value→Bool}{cl:List (List Value)}{j:Nat}{l:List Value}(h:cl[j]? = some l):(cl.take (j+1)).all ck=((cl.take j).all ck && ck l):=by
 rw[List.take_add_one,h,Option.toList_some,List.all_append]
 simp
theorem zkt (a:Ac){ck:List Value→Bool}{xs:List Value}{cl:List (List Value)}(hc:CellsOf ck a.cn xs cl)(w:World)(hr:w.ownsRow 0 124 7 (.slice a.cA a.cn a.cc) a.cn xs) :
  Calls Tryz.prog 18 #[.agg (cellsA a)] w (FineRes w a ck cl):=by
 have HC:=kA hc
 have HR:=kA hr
 obtain ⟨kind,id,ver,time,name,mA,mn,mc,cA,n,c⟩:=a
 clear hc hr
 unfold cellsA
 go_enter Tryz.func18,Tryz.ntmps18
 have HB1:Hid (Below w.heap.size w (w.alloc (.cells #[.int .i64 kind,.int .i64 id,.int .i64 ver,.int .i64 time,.string name,.slice mA mn mc,.slice cA n c] 35))):=kA (Below.new1 w _)
 have HK1:Hid (Blk (w.alloc (.cells #[.int .i64 kind,.int .i64 id,.int .i64 ver,.int .i64 time,.string name,.slice mA mn mc,.slice cA n c] 35)) w.heap.size 35 #[.int .i64 kind,.int .i64 id,.int .i64 ver,.int .i64 time,.string name,.slice mA mn mc,.slice cA n c]):=kA (Blk.new w _ _)
 go_upto_block 0 with fail
 generalize w.alloc (.cells #[.int .i64 kind,.int .i64 id,.int .i64 ver,.int .i64 time,.string name,.slice mA mn mc,.slice cA n c] 35)=W1 at HB1 HK1 ⊢
 have x0:W1.cell? ⟨w.heap.size,0,none⟩=some (.int .i64 kind):=HK1.out.cell 0
 have x1:W1.cell? ⟨w.heap.size,1,none⟩=some (.int .i64 id):=HK1.out.cell 1
 have x2:W1.cell? ⟨w.heap.size,2,none⟩=some (.int .i64 ver):=HK1.out.cell 2
 have x3:W1.cell? ⟨w.heap.size,3,none⟩=some (.int .i64 time):=HK1.out.cell 3
 have x4:W1.cell? ⟨w.heap.size,4,none⟩=some (.string name):=HK1.out.cell 4
 have x5:W1.cell? ⟨w.heap.size,5,none⟩=some (.slice mA mn mc):=HK1.out.cell 5
 have x6:W1.cell? ⟨w.heap.size,6,none⟩=some (.slice cA n c):=HK1.out.cell 6
 go_cut [] from 5 to 61 (fun wx=>Hid (FineC kind id ver time name.size mn n∧wx=W1))
 case first =>
  go_wp2_with (go_at_call 32;refine (zq8 _ _).mono ?_;rintro e w2 ⟨rfl,rfl⟩)
  all_goals first
   |(go_ret;refine ⟨false,rfl,⟨fun h=>(by cases h),fun h=>?_⟩,HB1.out⟩;exfalso;have h1:=h.1;clear h;unfold FineC at h1;(try simp only[zmm, ← Bool.not_eq_true,Bool.not_eq_true',bne_iff_ne] at *);omega)
   |(go_meet;refine kA ⟨?_,rfl⟩;unfold FineC;(try simp only[zmm,Bool.not_eq_false',bne_eq_false_iff_eq] at *);omega)
 case rest =>
  obtain ⟨hfc,hw⟩:=hcut.out
  clear hcut
  subst hw
  have HFC:=kA hfc
  have hn20:n≤20:=hfc.2.2.2.2.2.1
  clear hfc
  go_wp2
  go_loopw [65] (fun i wr=>∃ j:Nat,j≤n∧i = .int .i64 (j:Int)∧Hid (Below wc.heap.size wc wr∧(cl.take j).all ck=true)) (fun i _=>n - (intOf i).toNat)
  case atStart=>exact ⟨0,kX _,rfl,kA ⟨Below.refl _ _,rfl⟩⟩
  case round =>
   obtain ⟨j,hj,rfl,hrl⟩:=hrel
   have HBw:Hid (Below w.heap.size w wr):=kA (HB1.out.trans (hrl.out.1.mono HB1.out.size))
   by_cases hlt:j<n
   ·obtain ⟨l,hl⟩:∃ x,cl[j]? = some x:=⟨_,kV (by rw[HC.out.len];exact hlt)⟩
    have HL:=kA hl
    have hlm:l∈cl:=qH hl
    have HOK:=kA (HC.out.ok l hlm)
    obtain ⟨hz7,h17⟩:=HC.out.sz l hlm
    have hrow:=HR.out
    obtain ⟨ga,gc',hav,_,_⟩:=hrow.form (by show 0<n;omega)
    obtain ⟨rfl,_⟩:cA=some ⟨ga,0,none⟩∧True:=by injection hav with e;exact ⟨e,trivial⟩
    obtain ⟨CA,hCA⟩:∃ x,x=l.toArray:=⟨_,rfl⟩
    have HLD:Hid (∀ k u,CA.toList[k]? = some u→wr.cell? ((⟨ga,j*7,none⟩:Addr).add k)=some u):=kA (by
     intro k u hu
     rw[addk]
     have h1:=(zad hrow HBw.out).cells (g:=ga) rfl (j*7+k) u (by rw[HC.out.eq];exact flat7 cl j k u (fun x hx=>(HC.out.sz x hx).1) hl (by rw[hCA] at hu;simpa using hu))
     rw[add0] at h1
     exact h1)
    have HGZ:Hid (CA.size=7):=kA (by rw[hCA];simpa using hz7)
    have HG1:Hid (CA.all (·.oneCell')=true):=kA (by rw[hCA, ← Array.all_toList];exact List.all_eq_true.2 (by simpa using h17))
    rw[← hCA] at HOK
    obtain ⟨bx,hbx⟩:∃ b,b=ck l:=⟨_,rfl⟩
    rw[← hbx] at HOK
    have HBX:=kA hbx
    have hlt':(j:Int)<(n:Int):=by omega
    clear hl hlm hz7 h17 hrow hav hCA hbx
    cases bx with
    |true =>
     go_wp2_with (first
      |(refine za1 _ rfl 124 _ rfl ⟨ga,j*7,none⟩ CA _ rfl (by exact HLD.out) Tryz.underlying124 rfl (HGZ.out.symm ▸ zep) ?_)
      |(refine zaw _ rfl 124 _ _ rfl wr.heap.size _ CA 124 rfl rfl (by exact Blk.new wr _ _) (HGZ.out.symm ▸ zep) (by rw[HGZ.out];rfl) HG1.out ?_;intro w5 hb5 ha5 hs5;have HK5:=kA hb5;have HB5:Hid (Below wr.heap.size wr w5):=kA ((Below.new1 wr _).trans (ha5.below (fun k e=>by rw[e];exact kJ _) (by simp)));clear hb5 ha5 hs5)
      |(refine zar _ rfl 124 _ rfl wr.heap.size CA 124 (0,0) _ rfl (by exact HK5.out) Tryz.underlying124 rfl (HGZ.out.symm ▸ zep) ?_)
      |(go_at_call 33;refine (HOK.out _).mono ?_;rintro e w6 ⟨rfl,hb6⟩;have HB6:=kA hb6;clear hb6))
     go_roundw
     case rel=>exact ⟨j+1,by omega,by go_num,kA ⟨hrl.out.1.trans ((HB5.out.trans (HB6.out.mono HB5.out.size)).mono hrl.out.1.size),by rw[zwj HL.out,hrl.out.2, ← HBX.out];rfl⟩⟩
     case measure=>simp[intOf];omega
    |false =>
     go_wp2_with (first
      |(refine za1 _ rfl 124 _ rfl ⟨ga,j*7,none⟩ CA _ rfl (by exact HLD.out) Tryz.underlying124 rfl (HGZ.out.symm ▸ zep) ?_)
      |(refine zaw _ rfl 124 _ _ rfl wr.heap.size _ CA 124 rfl rfl (by exact Blk.new wr _ _) (HGZ.out.symm ▸ zep) (by rw[HGZ.out];rfl) HG1.out ?_;intro w5 hb5 ha5 hs5;have HK5:=kA hb5;have HB5:Hid (Below wr.heap.size wr w5):=kA ((Below.new1 wr _).trans (ha5.below (fun k e=>by rw[e];exact kJ _) (by simp)));clear hb5 ha5 hs5)
      |(refine zar _ rfl 124 _ rfl wr.heap.size CA 124 (0,0) _ rfl (by exact HK5.out) Tryz.underlying124 rfl (HGZ.out.symm ▸ zep) ?_)
      |(go_at_call 33;refine (HOK.out _).mono ?_;rintro e w6 ⟨rfl,hb6⟩;have HB6:=kA hb6;clear hb6))
     go_ret
     refine ⟨false,rfl,⟨fun h=>(by cases h),fun h=>?_⟩,HBw.out.trans ((HB5.out.trans (HB6.out.mono HB5.out.size)).mono HBw.out.size)⟩
     have h1:=List.all_eq_true.1 h.2 l (qH HL.out)
     rw[← HBX.out] at h1
     cases h1
   ·go_wp2
    go_ret
    have hjn:j=n:=by omega
    refine ⟨true,rfl,⟨fun _=>⟨HFC.out,?_⟩,fun _=>rfl⟩,HBw.out⟩
    have h1:=hrl.out.2
    rw[hjn, ← HC.out.len,List.take_length] at h1
    exact h1
structure SVw (PR:SMod)(M:List Int→Prop)(Cq:List Value→Prop)(w:World)(B sp bk Mo W now:Nat)(gA:Option Addr)(gc:Nat)(gs:List Gp):Prop where
 pt:Blk w sp 116 (svC bk (Mo:Int) W now gA gs.length gc)
 sg:SG PR M Cq w B (.slice gA gs.length gc) gs
 b:B≤sp
theorem zif:(Tryz.prog.info? 35).map (·.size)=some 7:=by kernel_rfl
def Sm (gs:List Gp):Prop:=gs.length≤990∧∀ g∈gs,g.rs.length≤100∧g.time≤2000000000
def Tq (w:World)(k:Nat):Prop:=∃ cs fr,w.heap[k]? = some (.cells cs 47 fr)
def TN (w:World)(k:Nat):Prop:=∃ cs t fr,w.heap[k]? = some (.cells cs t fr)∧(t=116∨t=152∨t=176)
theorem TN.same {w w':World}{k:Nat}(h:w'.heap[k]? = w.heap[k]?):TN w' k↔TN w k:=by unfold TN;rw[h]
theorem TN.ts {w:World}{k:Nat}(h:TN w k):TS w k:=by
 obtain ⟨cs,t,fr,h,ht⟩:=h
 exact .inr ⟨cs,t,fr,h,ht.elim .inl fun h=>h.elim (fun h => .inr (.inl h)) (fun h => .inr (.inr (.inl h)))⟩
theorem TN.no_tb {w:World}{k:Nat}(h:TN w k):¬ TB w k:=by
 obtain ⟨cs,t,fr,h,ht⟩:=h
 rintro (⟨es,q,e⟩|⟨cs',t',fr',e,ht'⟩)
 ·rw[h] at e;cases e
 ·rw[h] at e
  injection e with e
  injection e with e1 e2
  subst e2
  rcases ht with rfl|rfl|rfl <;> rcases ht' with ht'|ht'|ht'|ht' <;> exact absurd ht' (by decide)
abbrev Kn (w w':World):Prop:=Alt w w' (TN w)
theorem Kn.trans {w w1 w2:World}(h1:Kn w w1)(h2:Kn w1 w2):Kn w w2:=Alt.trans h1 h2 (fun k hk hq=>Classical.byContradiction fun hn=>hn ((TN.same (h1.block k hk hn)).1 hq))
theorem Kn.ks {w w':World}(h:Kn w w'):Ks w w':=h.mono fun _ h=>h.ts
def DoTick (PR:SMod)(M:List Int→Prop)(Cq:List Value→Prop)(ans:List Int→List Value→List Value×Int)(w:World)(B sp bk Mo W:Nat)(gs:List Gp)(t:Nat)(e:Ending)(w':World):Prop :=
 ∃ v gA gc,e = .returned v∧TRow w' w.heap.size v (expT ans W t true gs)∧SVw PR M Cq w' B sp bk Mo W t gA gc (expR W t true gs)∧Alt w w' (fun k=>k=sp)
def DoChg (PR:SMod)(M:List Int→Prop)(Cq:List Value→Prop)(ans:List Int→List Value→List Value×Int)(w:World)(B sp bk Mo W:Nat)(gs:List Gp)(t:Nat)(id:Int)(Q:World→Int→Int→World→Prop)(e:Ending)(w':World):Prop :=
 ∃ v gA gc V w3 ver er,e = .returned v∧Alt w V (fun k=>k=sp)∧Q V ver er w3∧Kb V w3∧Alt w3 w' (fun k=>Tq w3 k∧w.heap.size≤k)∧TRow w' w.heap.size v (expT ans W t false gs++[⟨id,ver,(t:Int),er,zR⟩])∧SVw PR M Cq w' B sp bk Mo W t gA gc (expR W t false gs)
def DoAsk (PR:SMod)(M:List Int→Prop)(Cq:List Value→Prop)(ans:List Int→List Value→List Value×Int)(w:World)(B sp bk Mo W:Nat)(gs:List Gp)(t:Nat)(name:ByteArray)(kv:Nat)(ms:List Int)(q:Pq)(er:Int)(e:Ending)(w':World):Prop :=
 (er≠0∧∃ v gA gc,e = .returned v∧TRow w' w.heap.size v (expT ans W t false gs++[⟨q.id,0,(t:Int),er,zR⟩])∧SVw PR M Cq w' B sp bk Mo W t gA gc (expR W t false gs)∧Kn w w'∧Below B w w') ∨
 (er=0∧∃ v gA gc gs',e = .returned v∧gs'.map Gp.p=(askP ans Mo t name kv ms q ((expR W t false gs).map Gp.p)).1∧TRow w' w.heap.size v (expT ans W t false gs++(askP ans Mo t name kv ms q ((expR W t false gs).map Gp.p)).2)∧SVw PR M Cq w' B sp bk Mo W t gA gc gs'∧Kn w w'∧Below B w w')
theorem zn9 {w:World}{B n sz:Nat}{t:TypeId}{v:Value}{xs:List Value}(h:w.ownsRow B t sz v n xs)(h1:t≠5)(h2:t≠157)(h3:t≠154)(h4:t≠240):∀ k,v.ownBlock=some k→¬ TB w k:=fun k hk=>by
 rcases h.2 with ⟨rfl,_⟩|⟨g',cap,cur,rfl,_,hh,_⟩
 ·cases hk
 ·have e:g'=k:=by simpa [Value.ownBlock] using hk
  subst e
  exact zcb (show Blk w g' t cur from hh) h1 h2 h3 h4
theorem Tq.same {w w':World}{k:Nat}(h:w'.heap[k]? = w.heap[k]?):Tq w' k↔Tq w k:=by unfold Tq;rw[h]
def TF (w:World)(k:Nat):Prop:=TS w k∧¬ Tq w k
theorem TF.same {w w':World}{k:Nat}(h:w'.heap[k]? = w.heap[k]?):TF w' k↔TF w k:=by unfold TF;rw[TS.same h,Tq.same h]
abbrev Kf (w w':World):Prop:=Alt w w' (TF w)
theorem Kf.trans {w w1 w2:World}(h1:Kf w w1)(h2:Kf w1 w2):Kf w w2:=Alt.trans h1 h2 (fun k hk hq=>Classical.byContradiction fun hn=>hn ((TF.same (h1.block k hk hn)).1 hq))
theorem TN.tf {w:World}{k:Nat}(h:TN w k):TF w k:=⟨h.ts,by
 obtain ⟨cs,t,fr,h,ht⟩:=h
 rintro ⟨cs',fr',e⟩
 rw[h] at e
 injection e with e
 injection e with _ e2
 rcases ht with rfl|rfl|rfl <;> exact absurd e2 (by decide)⟩
theorem Kn.kf {w w':World}(h:Kn w w'):Kf w w':=h.mono fun _ h=>h.tf
theorem tb_tf {w:World}{k:Nat}(h:TB w k):TF w k:=⟨.inl h,by
 rintro ⟨cs',fr',e⟩
 rcases h with ⟨es,q,e2⟩|⟨cs,t,fr,e2,ht⟩
 ·rw[e] at e2;cases e2
 ·rw[e] at e2
  injection e2 with e2
  injection e2 with _ e3
  subst e3
  rcases ht with h|h|h|h <;> exact absurd h (by decide)⟩
theorem Kb.kf {w w':World}(h:Kb w w'):Kf w w':=h.mono fun _ h=>tb_tf h
theorem Kf.of {w w':World}(h:Below w.heap.size w w'):Kf w w':=alt_of_below h
theorem Tq.ts {w:World}{k:Nat}(h:Tq w k):TS w k:=by
 obtain ⟨cs,fr,h⟩:=h
 exact .inr ⟨cs,_,fr,h,.inr (.inr (.inr rfl))⟩
theorem zeq {w:World}{g:Nat}{t:TypeId}{cs:Array Value}(h:Blk w g t cs)(h1:t≠47):¬ Tq w g:=by
 rintro ⟨cs',fr,e⟩
 unfold Blk at h
 rw[h] at e
 injection e with e
 injection e with _ e2
 exact h1 e2
theorem zgg {w:World}{B n sz:Nat}{t:TypeId}{v:Value}{xs:List Value}(h:w.ownsRow B t sz v n xs)(h1:t≠47):∀ k,v.ownBlock=some k→¬ Tq w k:=fun k hk=>by
 rcases h.2 with ⟨rfl,_⟩|⟨g',cap,cur,rfl,_,hh,_⟩
 ·cases hk
 ·have e:g'=k:=by simpa [Value.ownBlock] using hk
  subst e
  exact zeq (show Blk w g' t cur from hh) h1
theorem zeb {w:World}{B n sz:Nat}{v:Value}{xs:List Value}(h:w.ownsRow B 47 sz v n xs):∀ k,v.ownBlock=some k→Tq w k:=fun k hk=>by
 rcases h.2 with ⟨rfl,_⟩|⟨g',cap,cur,rfl,_,hh,_⟩
 ·cases hk
 ·have e:g'=k:=by simpa [Value.ownBlock] using hk
  subst e
  exact ⟨_,_,hh⟩
section
variable {PR:SMod}{M:List Int→Prop}{Cq:List Value→Prop}{w w':World}{B sp bk Mo W now:Nat}{gA:Option Addr}{gc:Nat}{gs:List Gp}(hst:StaysS PR)
include hst
theorem SVw.kb (h:SVw PR M Cq w B sp bk Mo W now gA gc gs)(hk:Kb w w'):SVw PR M Cq w' B sp bk Mo W now gA gc gs:=by
 refine ⟨h.pt.kept hk (zcb h.pt (by decide) (by decide) (by decide) (by decide)),h.sg.alt hst hk (fun k _ e => .inl e) (fun k hk e=>?_),h.b⟩
 rcases hk with hk|⟨g,hg,hk⟩
 ·exact zn9 h.sg.row (by decide) (by decide) (by decide) (by decide) k hk e
 ·exact zn9 (h.sg.ok g hg).row (by decide) (by decide) (by decide) (by decide) k hk e
theorem SVw.told (h:SVw PR M Cq w B sp bk Mo W now gA gc gs){p:Nat→Prop}(ha:Alt w w' p)(hp:∀ k,p k→Tq w k):SVw PR M Cq w' B sp bk Mo W now gA gc gs:=by
 refine ⟨h.pt.kept ha (fun e=>zeq h.pt (by decide) (hp _ e)),h.sg.alt hst ha (fun k _ e=>(hp k e).ts) (fun k hk e=>?_),h.b⟩
 rcases hk with hk|⟨g,hg,hk⟩
 ·exact zgg h.sg.row (by decide) k hk (hp k e)
 ·exact zgg (h.sg.ok g hg).row (by decide) k hk (hp k e)
theorem SVw.below (h:SVw PR M Cq w B sp bk Mo W now gA gc gs)(hb:Below w.heap.size w w'):SVw PR M Cq w' B sp bk Mo W now gA gc gs :=
 ⟨zab h.pt hb,h.sg.below hst hb,h.b⟩
end
section
variable {PR:SMod}{M:List Int→Prop}{Cq:List Value→Prop}{ans:List Int→List Value→List Value×Int}(ha:AnsH PR M Cq ans){w:World}{B sp bk Mo W now t:Nat}{gA:Option Addr}{gc:Nat}{gs:List Gp}{a:Ac}
include ha
theorem zzn (hs:SVw PR M Cq w B sp bk Mo W now gA gc gs)(hB:B≤w.heap.size)(hsm:Sm gs)(hW:W≤2000000000)(hT:(expT ans W t true gs).length≤90000){ck:List Value→Bool}{xs:List Value}{cl:List (List Value)}(hc:CellsOf ck a.cn xs cl)(hck:cl.all ck=true)(hrow:w.ownsRow 0 124 7 (.slice a.cA a.cn a.cc) a.cn xs)(hf:FineC a.kind a.id a.ver a.time a.name.size a.mn a.cn)(ht:a.time=(t:Int))(hnow:now≤t)(hk:a.kind=5)  :
  Calls Tryz.prog 6 #[.pointer (some ⟨sp,0,none⟩),.agg (cellsA a)] w (DoTick PR M Cq ans w B sp bk Mo W gs t):=by
 have HA:=kA ha
 have HS:=kA hs
 have HSM:=kA hsm
 have HTL:=kA hT
 have HBB:=kA hB
 obtain ⟨AC,hAC⟩:∃ x,x=cellsA a:=⟨_,rfl⟩
 have HAC:=kA hAC
 rw[← hAC]
 have HC0:Hid (AC[0]? = some (.int .i64 5)):=kA (by rw[hAC];unfold cellsA;rw[hk];rfl)
 have HC3:Hid (AC[3]? = some (.int .i64 (t:Int))):=kA (by rw[hAC];unfold cellsA;rw[ht];rfl)
 have HZA:Hid (AC.size=7):=kA (by rw[hAC];rfl)
 have HFI:Hid (∀ V,Below w.heap.size w V→Calls Tryz.prog 18 #[.agg AC] V fun e w'=>e = .returned (.bool true)∧Below V.heap.size V w'):=kA (fun V hV=>by
  rw[hAC]
  refine (zkt a hc V (zad hrow hV)).mono ?_
  rintro e w' ⟨r,rfl,hr,hb⟩
  rw[hr.2 ⟨hf,hck⟩]
  exact ⟨rfl,hb⟩)
 have HWW:=kA hW
 have hd:decide ((t:Int)<(now:Int))=false:=kQ (by omega)
 clear ha hs hsm hT hB hAC hc hck hrow hf ht hk hW
 go_enter Tryz.func6,Tryz.ntmps6
 have HB1:Hid (Below w.heap.size w (w.alloc (.cells AC 35))):=kA (Below.new1 w _)
 have HK1:Hid (Blk (w.alloc (.cells AC 35)) w.heap.size 35 AC):=kA (Blk.new w _ _)
 go_upto_region 1 with fail
 generalize w.alloc (.cells AC 35)=W1 at HB1 HK1 ⊢
 go_upto_region 3 with (first
  |(refine zar _ rfl 35 _ rfl w.heap.size AC 35 (0,0) _ rfl (by exact HK1.out) Tryz.underlying35 rfl (HZA.out.symm ▸ zif) ?_)
  |(go_at_call 18;refine (HFI.out _ HB1.out).mono ?_;rintro e w2 ⟨rfl,hb2⟩;have HB2:=kA (HB1.out.trans (hb2.mono HB1.out.size));have HK2:=kA (zab HK1.out hb2);clear hb2))
 have HP2:=kA (zab HS.out.pt HB2.out)
 have x3:w2.cell? ⟨w.heap.size,3,none⟩=some (.int .i64 (t:Int)):=(HK2.out.cell 3).trans HC3.out
 have y3:w2.cell? ⟨sp,3,none⟩=some (.int .i64 (now:Int)):=HP2.out.cell 3
 go_region_held3 (fun w'=>w'.cell? ⟨w.heap.size,3,none⟩=some (.int .i64 (t:Int))∧w'.cell? ⟨sp,3,none⟩=some (.int .i64 (now:Int))) (simp[*]) (first|(go_at_call 9999))
 have HB3:Hid (Below w.heap.size w w2.drew):=kA HB2.out.drew
 have HK3:Hid (Blk w2.drew w.heap.size 35 AC):=kA HK2.out
 have HP3:Hid (Blk w2.drew sp 116 (svC bk (Mo:Int) W now gA gs.length gc)):=kA HP2.out
 have HS3:Hid (SG PR M Cq w2.drew B (.slice gA gs.length gc) gs):=kA (HS.out.sg.below HA.out.st HB3.out)
 go_upto_region 5 with fail
 clear x3 y3 HB2 HK2 HP2 hd
 generalize w2.drew=w3 at HB3 HK3 HP3 HS3 ⊢
 have x3:w3.cell? ⟨w.heap.size,3,none⟩=some (.int .i64 (t:Int)):=(HK3.out.cell 3).trans HC3.out
 have y3:w3.cell? ⟨sp,3,none⟩=some (.int .i64 (now:Int)):=HP3.out.cell 3
 have f3:w3.frozen? ⟨sp,3,none⟩=false:=HP3.out.frozen 3
 go_upto_region 6 with fail
 have HP4:Hid (Blk (w3.setCell ⟨sp,3,none⟩ (.int .i64 (t:Int))) sp 116 (svC bk (Mo:Int) W t gA gs.length gc)):=kA (HP3.out.set_ 3 _)
 have ha4:Alt w3 (w3.setCell ⟨sp,3,none⟩ (.int .i64 (t:Int))) (fun k=>k=sp):=Alt.set_ (p:=fun k=>k=sp) (a:=⟨sp,3,none⟩) (Alt.refl _ _) rfl _
 have hts4:∀ k,k<w3.heap.size→k=sp→TS w3 k:=fun k _ e=>by rw[e];exact .inr ⟨_,_,_,HP3.out,.inl rfl⟩
 have HS4:Hid (SG PR M Cq (w3.setCell ⟨sp,3,none⟩ (.int .i64 (t:Int))) B (.slice gA gs.length gc) gs):=kA (HS3.out.alt HA.out.st ha4 hts4 (fun k hk e=>by
  rcases hk with hk|⟨g,hg,hk⟩
  ·exact zai HS3.out.row HP3.out (by decide) (by rw[← e];exact hk)
  ·exact zai (HS3.out.ok g hg).row HP3.out (by decide) (by rw[← e];exact hk)))
 have HA4:Hid (Alt w (w3.setCell ⟨sp,3,none⟩ (.int .i64 (t:Int))) (fun k=>k=sp)):=kA (Alt.trans (alt_of_below (p:=fun k=>k=sp) HB3.out) ha4 (fun _ _ h=>h))
 have HK4:Hid (Blk (w3.setCell ⟨sp,3,none⟩ (.int .i64 (t:Int))) w.heap.size 35 AC):=kA (HK3.out.kept ha4 (fun e=>Blk.ne_ HK3.out HP3.out (by decide) e))
 have HWL:Hid (w.heap.size≤(w3.setCell ⟨sp,3,none⟩ (.int .i64 (t:Int))).heap.size):=kA HA4.out.size
 clear x3 y3 f3 ha4 hts4 HP3 HS3 HK3 HB3
 generalize w3.setCell ⟨sp,3,none⟩ (.int .i64 (t:Int))=w4 at HP4 HS4 HA4 HK4 HWL ⊢
 have x0:w4.cell? ⟨w.heap.size,0,none⟩=some (.int .i64 5):=(HK4.out.cell 0).trans HC0.out
 have HEX:Hid (Calls Tryz.prog 19 #[.pointer (some ⟨sp,0,none⟩),.bool true] w4 fun e w'=>∃ v rA rc,e = .returned v∧TRow w' w4.heap.size v (expT ans W t true gs)∧GRow w' w4.heap.size (.slice rA (expR W t true gs).length rc) (expR W t true gs) ∧
   Blk w' sp 116 #[.pointer (some ⟨bk,0,none⟩),.int .i64 (Mo:Int),.int .i64 (W:Int),.int .i64 (t:Int),.slice rA (expR W t true gs).length rc]∧Alt w4 w' (fun k=>k=sp)):=kA (zgf HA.out true HP4.out HS4.out.row (fun g hg=>⟨HS4.out.ok g hg,kH (HSM.out.2 g hg).1 (by decide),(HSM.out.2 g hg).2⟩) (kH HSM.out.1 (by decide)) HWW.out (kH HTL.out (by decide)))
 go_upto_region 7 with (first
  |(go_at_call 19;refine HEX.out.mono ?_;rintro e w5 ⟨v5,rA,rc,rfl,ht5,hr5,hp5,ha5⟩;have HT5:=kA ht5;have HR5:=kA hr5;have HP5:=kA hp5;have HA5:=kA ha5;clear ht5 hr5 hp5 ha5))
 have HSV5:Hid (SVw PR M Cq w5 B sp bk Mo W t rA rc (expR W t true gs)):=kA (by
  have hts:∀ k,k<w4.heap.size→k=sp→TS w4 k:=fun k _ e=>by rw[e];exact .inr ⟨_,_,_,HP4.out,.inl rfl⟩
  refine ⟨HP5.out,⟨zau HR5.out (kH HBB.out HWL.out),fun g hg=>?_,List.Pairwise.sublist List.filter_sublist HS4.out.ap⟩,HS.out.b⟩
  have hok:=HS4.out.ok g (List.mem_filter.1 hg).1
  exact hok.alt HA.out.st HA5.out hts (fun k hk e=>zai hok.row HP4.out (by decide) (by rw[← e];exact hk)))
 have HK5:Hid (Blk w5 w.heap.size 35 AC):=kA (HK4.out.kept HA5.out (fun e=>Blk.ne_ HK4.out HP4.out (by decide) e))
 have HA05:Hid (Alt w w5 (fun k=>k=sp)):=kA (Alt.trans HA4.out HA5.out (fun _ _ h=>h))
 have HT5w:Hid (TRow w5 w.heap.size v5 (expT ans W t true gs)):=kA (zau HT5.out HWL.out)
 clear x0 HEX HP4 HS4 HA4 HK4 HT5 HR5 HP5 HA5
 have x0:w5.cell? ⟨w.heap.size,0,none⟩=some (.int .i64 5):=(HK5.out.cell 0).trans HC0.out
 go_wp2_with fail
 go_ret
 exact ⟨v5,rA,rc,rfl,HT5w.out,HSV5.out,HA05.out⟩
theorem zpl (hs:SVw PR M Cq w B sp bk Mo W now gA gc gs)(hB:B≤w.heap.size)(hsm:Sm gs)(hW:W≤2000000000)(hT:(expT ans W t false gs).length≤90000){ck:List Value→Bool}{xs:List Value}{cl:List (List Value)}(hc:CellsOf ck a.cn xs cl)(hck:cl.all ck=true)(hrow:w.ownsRow 0 124 7 (.slice a.cA a.cn a.cc) a.cn xs)(hf:FineC a.kind a.id a.ver a.time a.name.size a.mn a.cn)(ht:a.time=(t:Int))(hnow:now≤t)(hk:a.kind=1∨a.kind=2∨a.kind=3∨a.kind=6){Q:World→Int→Int→World→Prop}
  (hch:∀ V,Alt w V (fun k=>k=sp)→(∃ rA rc,Blk V sp 116 (svC bk (Mo:Int) W t rA (expR W t false gs).length rc))→Calls Tryz.prog 20 #[.pointer (some ⟨sp,0,none⟩),.agg (cellsA a)] V fun e w'=>∃ ver er,e = .returned (.tuple #[.int .i64 ver,.int .i64 er])∧Q V ver er w'∧Kb V w')  :
  Calls Tryz.prog 6 #[.pointer (some ⟨sp,0,none⟩),.agg (cellsA a)] w (DoChg PR M Cq ans w B sp bk Mo W gs t a.id Q):=by
 have HA:=kA ha
 have HS:=kA hs
 have HSM:=kA hsm
 have HTL:=kA hT
 have HBB:=kA hB
 obtain ⟨AC,hAC⟩:∃ x,x=cellsA a:=⟨_,rfl⟩
 have HAC:=kA hAC
 rw[← hAC]
 have HC0:Hid (AC[0]? = some (.int .i64 a.kind)):=kA (by rw[hAC];rfl)
 have HC3:Hid (AC[3]? = some (.int .i64 (t:Int))):=kA (by rw[hAC];unfold cellsA;rw[ht];rfl)
 have HZA:Hid (AC.size=7):=kA (by rw[hAC];rfl)
 have HFI:Hid (∀ V,Below w.heap.size w V→Calls Tryz.prog 18 #[.agg AC] V fun e w'=>e = .returned (.bool true)∧Below V.heap.size V w'):=kA (fun V hV=>by
  rw[hAC]
  refine (zkt a hc V (zad hrow hV)).mono ?_
  rintro e w' ⟨r,rfl,hr,hb⟩
  rw[hr.2 ⟨hf,hck⟩]
  exact ⟨rfl,hb⟩)
 have HWW:=kA hW
 have HC1:Hid (AC[1]? = some (.int .i64 a.id)):=kA (by rw[hAC];rfl)
 rw[← hAC] at hch
 have HCH:=kA hch
 obtain ⟨kd,hkd⟩:∃ kd,kd=a.kind:=⟨_,rfl⟩
 rw[← hkd] at HC0 hk
 have HKD:=kA hk
 have hk5:(kd == 5)=false:=by rw[kS];omega
 have hd:decide ((t:Int)<(now:Int))=false:=kQ (by omega)
 clear hch hkd ha hs hsm hT hB hAC hc hck hrow hf ht hk hW
 go_enter Tryz.func6,Tryz.ntmps6
 have HB1:Hid (Below w.heap.size w (w.alloc (.cells AC 35))):=kA (Below.new1 w _)
 have HK1:Hid (Blk (w.alloc (.cells AC 35)) w.heap.size 35 AC):=kA (Blk.new w _ _)
 go_upto_region 1 with fail
 generalize w.alloc (.cells AC 35)=W1 at HB1 HK1 ⊢
 go_upto_region 3 with (first
  |(refine zar _ rfl 35 _ rfl w.heap.size AC 35 (0,0) _ rfl (by exact HK1.out) Tryz.underlying35 rfl (HZA.out.symm ▸ zif) ?_)
  |(go_at_call 18;refine (HFI.out _ HB1.out).mono ?_;rintro e w2 ⟨rfl,hb2⟩;have HB2:=kA (HB1.out.trans (hb2.mono HB1.out.size));have HK2:=kA (zab HK1.out hb2);clear hb2))
 have HP2:=kA (zab HS.out.pt HB2.out)
 have x3:w2.cell? ⟨w.heap.size,3,none⟩=some (.int .i64 (t:Int)):=(HK2.out.cell 3).trans HC3.out
 have y3:w2.cell? ⟨sp,3,none⟩=some (.int .i64 (now:Int)):=HP2.out.cell 3
 go_region_held3 (fun w'=>w'.cell? ⟨w.heap.size,3,none⟩=some (.int .i64 (t:Int))∧w'.cell? ⟨sp,3,none⟩=some (.int .i64 (now:Int))) (simp[*]) (first|(go_at_call 9999))
 have HB3:Hid (Below w.heap.size w w2.drew):=kA HB2.out.drew
 have HK3:Hid (Blk w2.drew w.heap.size 35 AC):=kA HK2.out
 have HP3:Hid (Blk w2.drew sp 116 (svC bk (Mo:Int) W now gA gs.length gc)):=kA HP2.out
 have HS3:Hid (SG PR M Cq w2.drew B (.slice gA gs.length gc) gs):=kA (HS.out.sg.below HA.out.st HB3.out)
 go_upto_region 5 with fail
 clear x3 y3 HB2 HK2 HP2 hd
 generalize w2.drew=w3 at HB3 HK3 HP3 HS3 ⊢
 have x3:w3.cell? ⟨w.heap.size,3,none⟩=some (.int .i64 (t:Int)):=(HK3.out.cell 3).trans HC3.out
 have y3:w3.cell? ⟨sp,3,none⟩=some (.int .i64 (now:Int)):=HP3.out.cell 3
 have f3:w3.frozen? ⟨sp,3,none⟩=false:=HP3.out.frozen 3
 go_upto_region 6 with fail
 have HP4:Hid (Blk (w3.setCell ⟨sp,3,none⟩ (.int .i64 (t:Int))) sp 116 (svC bk (Mo:Int) W t gA gs.length gc)):=kA (HP3.out.set_ 3 _)
 have ha4:Alt w3 (w3.setCell ⟨sp,3,none⟩ (.int .i64 (t:Int))) (fun k=>k=sp):=Alt.set_ (p:=fun k=>k=sp) (a:=⟨sp,3,none⟩) (Alt.refl _ _) rfl _
 have hts4:∀ k,k<w3.heap.size→k=sp→TS w3 k:=fun k _ e=>by rw[e];exact .inr ⟨_,_,_,HP3.out,.inl rfl⟩
 have HS4:Hid (SG PR M Cq (w3.setCell ⟨sp,3,none⟩ (.int .i64 (t:Int))) B (.slice gA gs.length gc) gs):=kA (HS3.out.alt HA.out.st ha4 hts4 (fun k hk e=>by
  rcases hk with hk|⟨g,hg,hk⟩
  ·exact zai HS3.out.row HP3.out (by decide) (by rw[← e];exact hk)
  ·exact zai (HS3.out.ok g hg).row HP3.out (by decide) (by rw[← e];exact hk)))
 have HA4:Hid (Alt w (w3.setCell ⟨sp,3,none⟩ (.int .i64 (t:Int))) (fun k=>k=sp)):=kA (Alt.trans (alt_of_below (p:=fun k=>k=sp) HB3.out) ha4 (fun _ _ h=>h))
 have HK4:Hid (Blk (w3.setCell ⟨sp,3,none⟩ (.int .i64 (t:Int))) w.heap.size 35 AC):=kA (HK3.out.kept ha4 (fun e=>Blk.ne_ HK3.out HP3.out (by decide) e))
 have HWL:Hid (w.heap.size≤(w3.setCell ⟨sp,3,none⟩ (.int .i64 (t:Int))).heap.size):=kA HA4.out.size
 clear x3 y3 f3 ha4 hts4 HP3 HS3 HK3 HB3
 generalize w3.setCell ⟨sp,3,none⟩ (.int .i64 (t:Int))=w4 at HP4 HS4 HA4 HK4 HWL ⊢
 have x0:w4.cell? ⟨w.heap.size,0,none⟩=some (.int .i64 kd):=(HK4.out.cell 0).trans HC0.out
 have HEX:Hid (Calls Tryz.prog 19 #[.pointer (some ⟨sp,0,none⟩),.bool false] w4 fun e w'=>∃ v rA rc,e = .returned v∧TRow w' w4.heap.size v (expT ans W t false gs)∧GRow w' w4.heap.size (.slice rA (expR W t false gs).length rc) (expR W t false gs) ∧
   Blk w' sp 116 #[.pointer (some ⟨bk,0,none⟩),.int .i64 (Mo:Int),.int .i64 (W:Int),.int .i64 (t:Int),.slice rA (expR W t false gs).length rc]∧Alt w4 w' (fun k=>k=sp)):=kA (zgf HA.out false HP4.out HS4.out.row (fun g hg=>⟨HS4.out.ok g hg,kH (HSM.out.2 g hg).1 (by decide),(HSM.out.2 g hg).2⟩) (kH HSM.out.1 (by decide)) HWW.out (kH HTL.out (by decide)))
 go_upto_region 7 with (first
  |(go_at_call 19;refine HEX.out.mono ?_;rintro e w5 ⟨v5,rA,rc,rfl,ht5,hr5,hp5,ha5⟩;have HT5:=kA ht5;have HR5:=kA hr5;have HP5:=kA hp5;have HA5:=kA ha5;clear ht5 hr5 hp5 ha5))
 have HSV5:Hid (SVw PR M Cq w5 B sp bk Mo W t rA rc (expR W t false gs)):=kA (by
  have hts:∀ k,k<w4.heap.size→k=sp→TS w4 k:=fun k _ e=>by rw[e];exact .inr ⟨_,_,_,HP4.out,.inl rfl⟩
  refine ⟨HP5.out,⟨zau HR5.out (kH HBB.out HWL.out),fun g hg=>?_,List.Pairwise.sublist List.filter_sublist HS4.out.ap⟩,HS.out.b⟩
  have hok:=HS4.out.ok g (List.mem_filter.1 hg).1
  exact hok.alt HA.out.st HA5.out hts (fun k hk e=>zai hok.row HP4.out (by decide) (by rw[← e];exact hk)))
 have HK5:Hid (Blk w5 w.heap.size 35 AC):=kA (HK4.out.kept HA5.out (fun e=>Blk.ne_ HK4.out HP4.out (by decide) e))
 have HA05:Hid (Alt w w5 (fun k=>k=sp)):=kA (Alt.trans HA4.out HA5.out (fun _ _ h=>h))
 have HT5w:Hid (TRow w5 w.heap.size v5 (expT ans W t false gs)):=kA (zau HT5.out HWL.out)
 clear x0 HEX HP4 HS4 HA4 HK4 HT5 HR5 HP5 HA5
 have x0:w5.cell? ⟨w.heap.size,0,none⟩=some (.int .i64 kd):=(HK5.out.cell 0).trans HC0.out
 rcases HKD.out with e|e|e|e
 all_goals
  subst e
  have HCC:=kA (HCH.out w5 HA05.out ⟨rA,rc,HSV5.out.pt⟩)
  obtain ⟨A5,c5,hv5⟩:=zfu HT5w.out
  subst hv5
  obtain ⟨n5,hn5⟩:∃ n5,n5=(expT ans W t false gs).length:=⟨_,rfl⟩
  have HN5:=kA hn5
  rw[← hn5] at HT5w ⊢
  have hn59:n5≤90000:=by rw[hn5];exact HTL.out
  obtain ⟨iT,hi0,hz0,hz1,hz2⟩:=info_parts zdv
  have HIT:=kA hi0
  obtain ⟨zT,hzT⟩:∃ z,z=Value.agg #[.int .i64 0,.int .i64 0,.int .i64 0,.int .i64 0,.int .i64 0,.bool false,.int .u64 0,.string ⟨#[]⟩,.int .u64 0,.string ⟨#[]⟩]:=⟨_,rfl⟩
  rw[← hzT] at hz0
  have HZ0T:=kA hz0
  have HZ1T:=kA hz1
  have HZ2T:=kA hz2
  have HZ3T:Hid (zT.cells.size=10):=kA (by rw[hzT];rfl)
  have HTRx:Hid (w5.ownsRow w.heap.size 47 10 (.slice A5 n5 c5) n5 ((expT ans W t false gs).map cellsT).flatten):=kA (by have h1:=HT5w.out;unfold TRow at h1;rw[← hn5] at h1;exact h1)
  clear hi0 hz0 hz1 hz2 hzT hn5 HT5w hk5
  try clear HKD
  go_upto_region 13 with (first
   |(refine zar _ rfl 35 _ rfl w.heap.size AC 35 (0,0) _ rfl (by exact HK5.out) Tryz.underlying35 rfl (HZA.out.symm ▸ zif) ?_)
   |(go_at_call 20;refine HCC.out.mono ?_;rintro e w6 ⟨ver,er,rfl,hq6,hk6⟩;have HQ6:=kA hq6;have HKB6:=kA hk6;clear hq6 hk6))
  have HSV6:Hid (SVw PR M Cq w6 B sp bk Mo W t rA rc (expR W t false gs)):=kA (HSV5.out.kb HA.out.st HKB6.out)
  have HK6:Hid (Blk w6 w.heap.size 35 AC):=kA (HK5.out.kept HKB6.out (zcb HK5.out (by decide) (by decide) (by decide) (by decide)))
  have HTR6:Hid (w6.ownsRow w.heap.size 47 10 (.slice A5 n5 c5) n5 ((expT ans W t false gs).map cellsT).flatten):=kA (zas HTRx.out HKB6.out (fun k hk=>zn9 HTRx.out (by decide) (by decide) (by decide) (by decide) k hk))
  have z1:w6.cell? ⟨w.heap.size,1,none⟩=some (.int .i64 a.id):=(HK6.out.cell 1).trans HC1.out
  have z3:w6.cell? ⟨w.heap.size,3,none⟩=some (.int .i64 (t:Int)):=(HK6.out.cell 3).trans HC3.out
  have HW6:Hid (w.heap.size≤w6.heap.size):=kA (kH HA05.out.size HKB6.out.size)
  clear HK5 HTRx HCC
  go_upto_region 16 with (at_builtin;go_loud (refine wpList_append_own _ rfl _ _ 29 rfl w.heap.size 47 iT zT 10 96 Tryz.underlying29 HIT.out HZ0T.out HZ1T.out HZ2T.out HZ3T.out (by decide) (.slice A5 n5 c5) n5 ((expT ans W t false gs).map cellsT).flatten rfl (by exact zad HTR6.out (Below.new1 w6 _)) ⟨w6.heap.size,0,none⟩ 1 1 [.int .i64 a.id,.int .i64 ver,.int .i64 (t:Int),.int .i64 er,.int .i64 0,.bool false,.int .u64 0,.string ⟨#[]⟩,.int .u64 0,.string ⟨#[]⟩] rfl rfl (fun j u hu=>za3 w6 _ #[.int .i64 a.id,.int .i64 ver,.int .i64 (t:Int),.int .i64 er,.int .i64 0,.bool false,.int .u64 0,.string ⟨#[]⟩,.int .u64 0,.string ⟨#[]⟩] j u hu) (by intro u hu;simp only[List.mem_cons,List.mem_nil_iff,or_false] at hu;rcases hu with rfl|rfl|rfl|rfl|rfl|rfl|rfl|rfl|rfl|rfl <;> rfl) (by unfold maxLen;omega) (by omega) (by have:=HW6.out;simp;omega) ?_;intro v8 w8 hown8 hgrow8 _;obtain ⟨A8,c8,rfl⟩:=zfu hown8;have HO8:=kA hown8;have HG8:=kA hgrow8;clear hown8 hgrow8))
  go_wp2_with fail
  go_ret
  have hal:Alt w6 w8 (fun k=>(Value.slice A5 n5 c5).ownBlock=some k):=Alt.trans (alt_of_below (p:=fun k=>(Value.slice A5 n5 c5).ownBlock=some k) (Below.new1 w6 _)) (Alt.grow HG8.out) (fun _ _ h=>h)
  refine ⟨.slice A8 (n5+1) c8,rA,rc,w5,w6,ver,er,rfl,HA05.out,HQ6.out,HKB6.out,?_,?_,?_⟩
  ·exact hal.mono fun k hk=>⟨zeb HTR6.out k hk,(World.ownsRow.lt HTR6.out k hk).1⟩
  ·unfold TRow
   have h1:=HO8.out
   rw[kI,qJ, ← HN5.out,kL,qQ]
   exact h1
  ·exact HSV6.out.told HA.out.st hal (zeb HTR6.out)
end
theorem zck {ops:Array Oper}{rest:List Oper}{o:Oper}{a:Act}{Q:Exit→Act→World→Prop}(w:World)(hgd:o.guard=none)(s x:Operand)(t:TypeId)
  (ho:o.op = .call { callee := .builtin .append,args:=#[s,x],argTypes:=#[t,t] })
  (base:Nat) (e:TypeId) (i:TypeInfo) (z:Value) (size bytes:Nat) (ht:Tryz.prog.underlying t=some (.slice e)) (hi:Tryz.prog.info? e=some i) (hz:i.zero=some z)
  (hsize:i.size=size) (hby:i.bytes=bytes) (hzs:z.cells.size=size) (hsz:0<size)
  (sv:Value) (n:Nat) (olds:List Value) (hs:a.eval s=sv) (hown:w.ownsRow base e size sv n olds)
  (B2:Nat) (v2:Value) (n2:Nat) (news:List Value) (hx:a.eval x=v2) (hrow:w.ownsRow B2 e size v2 n2 news) (h1:∀ u∈news,u.oneCell'=true)
  (h63:n+n2≤maxLen) (hbytes:(n+n2)*bytes≤140737488355328) (hb:base≤w.heap.size)
  (h:∀ v' w',w'.ownsRow base e size v' (n+n2) (olds++news)→Alt w w' (fun k=>sv.ownBlock=some k)→wpList Tryz.prog ops Q rest (a.put o.dst v') w'):wpList Tryz.prog ops Q (o :: rest) a w:=by
 refine wpList_plain hgd fun K' hK'=>?_
 rcases hrow.2 with ⟨rfl,rfl⟩|⟨g,cap,cur,rfl,_⟩
 ·have hxs:news=[]:=List.length_eq_zero_iff.1 (by rw[hrow.1];exact Nat.zero_mul _)
  subst hxs
  obtain ⟨A,c,hsv⟩:=zfu hown
  subst hsv
  have hle:n≤c:=by
   rcases hown.2 with ⟨h0,h1⟩|⟨g,cap,cur,h0,_,_,h2,_⟩
   ·omega
   ·injection h0 with _ _ hc
    omega
  subst hsize
  have hr:=run_append_nothing (P:=Tryz.prog) w t t o.type e i ht hi A n c hle (.slice none 0 0) (Src.ofNil w (tx:=t) ht 0)
  unfold Oper.wp execOp
  simp only[ho,resolve,invoke,builtin,Sem.run_bind,Sem.run_pure,Result.andThen_ok,List.map_toArray,kM,List.map_nil,hs,hx,hr]
  exact hK' _ _ (h _ _ (by rw[Nat.add_zero,qI];exact hown) (Alt.refl _ _))
 ·refine wp_append_own w s x t ho base e i z size bytes ht hi hz hsize hby hzs hsz sv n olds hs hown ⟨g,0,none⟩ n2 cap news hx hrow.1 (fun j u hu=>hrow.cells rfl j u hu) h1 h63 hbytes hb (fun v' w' h2 h3 _=>?_)
  exact hK' _ _ (h _ _ h2 ((Alt.grow h3).mono fun k e=>e))
theorem zdw {ts:List Td}(h:∀ t∈ts,∀ u∈t.rp,u.oneCell'=true):∀ u∈(ts.map cellsT).flatten,u.oneCell'=true:=by
 intro u hu
 obtain ⟨l,hl,hu⟩:=List.mem_flatten.1 hu
 obtain ⟨t,ht,rfl⟩:=kO.1 hl
 unfold cellsT at hu
 simp only[List.mem_cons] at hu
 rcases hu with rfl|rfl|rfl|rfl|hu
 ·rfl
 ·rfl
 ·rfl
 ·rfl
 ·exact h t ht u hu
theorem zmn:∀ u∈zR,u.oneCell'=true:=by
 unfold zR
 intro u hu
 simp only[List.mem_cons,List.mem_nil_iff,or_false] at hu
 rcases hu with rfl|rfl|rfl|rfl|rfl|rfl <;> rfl
theorem zpm {ans:List Int→List Value→List Value×Int}{Mo now:Nat}{nm:ByteArray}{v:Nat}{ms:List Int}{q:Pq}{gs:List Pg}(h:∀ g∈gs,g.rs.length≤990):(askP ans Mo now nm v ms q gs).2.length≤991:=by
 unfold askP
 cases hg:gs[findP nm v gs]? with
 |none=>simp only;split <;> simp
 |some g =>
  simp only
  split
  ·simp
  ·rw[kN,kI,qJ]
   have:=h g (qH hg)
   omega
theorem zzo {M:List Int→Prop}{ans:List Int→List Value→List Value×Int}{Mo now:Nat}{nm:ByteArray}{v:Nat}{ms:List Int}{q:Pq}{gs:List Pg}(hm:M ms)(h:∀ g∈gs,M g.ms):∀ x∈(askP ans Mo now nm v ms q gs).2,∃ ms' q',M ms'∧x.rp=(tdP ans 0 0 ms' q').rp:=by
 unfold askP
 cases hg:gs[findP nm v gs]? with
 |none =>
  simp only
  split
  ·intro x hx;cases hx
  ·intro x hx
   rw[kP.1 hx]
   exact ⟨ms,q,hm,rfl⟩
 |some g =>
  simp only
  split
  ·intro x hx;cases hx
  ·intro x hx
   obtain ⟨y,_,rfl⟩:=kO.1 hx
   exact ⟨g.ms,y,h g (qH hg),rfl⟩
theorem alt_tn {w w':World}{p:Nat→Prop}(h:Alt w w' p)(hp:∀ k,k<w.heap.size→p k→TN w k):Kn w w' :=
 ⟨h.os,h.tape,h.output,h.size,fun k hk hn=>h.block k hk fun hpk=>hn (hp k hk hpk)⟩
section
variable {PR:SMod}{M:List Int→Prop}{Cq:List Value→Prop}{ans:List Int→List Value→List Value×Int}(ha:AnsH PR M Cq ans)
def AskU (PR:SMod)(M:List Int→Prop)(Cq:List Value→Prop)(ans:List Int→List Value→List Value×Int)(w:World)(B sp bk Mo W now:Nat)(v0:Value)(gs:List Gp)(name:ByteArray)(kv:Nat)(ms:List Int)(q:Pq)(er:Int)(e:Ending)(w':World):Prop :=
 ∃ v gA gc gs7 ts,e = .returned v∧TRow w' w.heap.size v ts∧SVw PR M Cq w' B sp bk Mo W now gA gc gs7∧Alt w w' (fun k=>k=sp∨Gb v0 gs k)∧ts.length≤991 ∧
  ((er≠0∧ts=[⟨q.id,0,(now:Int),er,zR⟩]∧gs7=gs)∨(er=0∧gs7.map Gp.p=(askP ans Mo now name kv ms q (gs.map Gp.p)).1∧ts=(askP ans Mo now name kv ms q (gs.map Gp.p)).2))
include ha
theorem AskPost.u {w w':World}{B sp bk Mo W now:Nat}{gA:Option Addr}{gc:Nat}{gs:List Gp}{name:ByteArray}{kv:Nat}{ms:List Int}{q:Pq}{er:Int}{e:Ending}(hs:SVw PR M Cq w B sp bk Mo W now gA gc gs)(hr:∀ g∈gs,g.rs.length≤990)
  (h:AskPost PR M Cq ans w B sp bk Mo W now (.slice gA gs.length gc) gs name kv ms q er e w'):AskU PR M Cq ans w B sp bk Mo W now (.slice gA gs.length gc) gs name kv ms q er e w':=by
 rcases h with ⟨he,v,rfl,ht,hb⟩|⟨he,v,gA',gc',gs',rfl,hp,ht,hpt,hsg,hal⟩
 ·exact ⟨v,gA,gc,gs,_,rfl,ht,hs.below ha.st hb,alt_of_below hb,by simp,.inl ⟨he,rfl,rfl⟩⟩
 ·refine ⟨v,gA',gc',gs',_,rfl,ht,⟨hpt,hsg,hs.b⟩,hal,zpm fun g hg=>?_,.inr ⟨he,hp,rfl⟩⟩
  obtain ⟨x,hx,rfl⟩:=kO.1 hg
  show (x.rs.map Rq.p).length≤990
  rw[kN]
  exact hr x hx
end
section
variable {PR:SMod}{M:List Int→Prop}{Cq:List Value→Prop}{ans:List Int→List Value→List Value×Int}(ha:AnsH PR M Cq ans){w:World}{B sp bk Mo W now t:Nat}{gA:Option Addr}{gc:Nat}{gs:List Gp}{a:Ac}
include ha
theorem zxj (hs:SVw PR M Cq w B sp bk Mo W now gA gc gs)(hB:B≤w.heap.size)(hsm:Sm gs)(hW:W≤2000000000)(hT:(expT ans W t false gs).length≤90000){ck:List Value→Bool}{xs:List Value}{cl:List (List Value)}(hc:CellsOf ck a.cn xs cl)(hck:cl.all ck=true)(hrow:w.ownsRow 0 124 7 (.slice a.cA a.cn a.cc) a.cn xs)(hf:FineC a.kind a.id a.ver a.time a.name.size a.mn a.cn)(ht:a.time=(t:Int))(hnow:now≤t)(hk:a.kind=4){name:ByteArray}{kv:Nat}{ms:List Int}{er:Int}(hms:M ms)
  (hor:(∀ u∈xs,u.oneCell'=true)∧∀ ms q,M ms→∀ u∈(tdP ans 0 0 ms q).rp,u.oneCell'=true)
  (hask:∀ V rA rc,Alt w V (fun k=>k=sp)→SVw PR M Cq V B sp bk Mo W t rA rc (expR W t false gs)→V.ownsRow 0 124 7 (.slice a.cA a.cn a.cc) a.cn xs→Calls Tryz.prog 21 #[.pointer (some ⟨sp,0,none⟩),.agg (cellsA a)] V (AskU PR M Cq ans V B sp bk Mo W t (.slice rA (expR W t false gs).length rc) (expR W t false gs) name kv ms ⟨a.id,xs⟩ er))  :
  Calls Tryz.prog 6 #[.pointer (some ⟨sp,0,none⟩),.agg (cellsA a)] w (DoAsk PR M Cq ans w B sp bk Mo W gs t name kv ms ⟨a.id,xs⟩ er):=by
 have HA:=kA ha
 have HS:=kA hs
 have HSM:=kA hsm
 have HTL:=kA hT
 have HBB:=kA hB
 obtain ⟨AC,hAC⟩:∃ x,x=cellsA a:=⟨_,rfl⟩
 have HAC:=kA hAC
 rw[← hAC]
 have HC0:Hid (AC[0]? = some (.int .i64 4)):=kA (by rw[hAC];unfold cellsA;rw[hk];rfl)
 have HC3:Hid (AC[3]? = some (.int .i64 (t:Int))):=kA (by rw[hAC];unfold cellsA;rw[ht];rfl)
 have HZA:Hid (AC.size=7):=kA (by rw[hAC];rfl)
 have HFI:Hid (∀ V,Below w.heap.size w V→Calls Tryz.prog 18 #[.agg AC] V fun e w'=>e = .returned (.bool true)∧Below V.heap.size V w'):=kA (fun V hV=>by
  rw[hAC]
  refine (zkt a hc V (zad hrow hV)).mono ?_
  rintro e w' ⟨r,rfl,hr,hb⟩
  rw[hr.2 ⟨hf,hck⟩]
  exact ⟨rfl,hb⟩)
 have HWW:=kA hW
 rw[← hAC] at hask
 have HASK:=kA hask
 have HRWC:=kA hrow
 have HTD:Hid (∀ (gs7:List Gp) (ts:List Td),((er≠0∧ts=[⟨a.id,0,(t:Int),er,zR⟩]∧gs7=expR W t false gs)∨(er=0∧gs7.map Gp.p=(askP ans Mo t name kv ms ⟨a.id,xs⟩ ((expR W t false gs).map Gp.p)).1∧ts=(askP ans Mo t name kv ms ⟨a.id,xs⟩ ((expR W t false gs).map Gp.p)).2))→∀ u∈(ts.map cellsT).flatten,u.oneCell'=true):=kA (fun gs7 ts h=>zdw (by
  have hall:∀ g∈expR W t false gs,M g.ms:=fun g hg=>(hs.sg.ok g (List.mem_filter.1 hg).1).m
  rcases h with ⟨_,rfl,_⟩|⟨_,_,rfl⟩
  ·intro x hx
   rw[kP.1 hx]
   exact zmn
  ·intro x hx
   obtain ⟨ms',q',hm',hq'⟩:=zzo hms (fun g hg=>by obtain ⟨y,hy,rfl⟩:=kO.1 hg;show M y.ms;exact hall y hy) x hx
   rw[hq']
   exact hor.2 ms' q' hm'))
 have hd:decide ((t:Int)<(now:Int))=false:=kQ (by omega)
 clear hask hor hms ha hs hsm hT hB hAC hc hck hrow hf ht hk hW
 go_enter Tryz.func6,Tryz.ntmps6
 have HB1:Hid (Below w.heap.size w (w.alloc (.cells AC 35))):=kA (Below.new1 w _)
 have HK1:Hid (Blk (w.alloc (.cells AC 35)) w.heap.size 35 AC):=kA (Blk.new w _ _)
 go_upto_region 1 with fail
 generalize w.alloc (.cells AC 35)=W1 at HB1 HK1 ⊢
 go_upto_region 3 with (first
  |(refine zar _ rfl 35 _ rfl w.heap.size AC 35 (0,0) _ rfl (by exact HK1.out) Tryz.underlying35 rfl (HZA.out.symm ▸ zif) ?_)
  |(go_at_call 18;refine (HFI.out _ HB1.out).mono ?_;rintro e w2 ⟨rfl,hb2⟩;have HB2:=kA (HB1.out.trans (hb2.mono HB1.out.size));have HK2:=kA (zab HK1.out hb2);clear hb2))
 have HP2:=kA (zab HS.out.pt HB2.out)
 have x3:w2.cell? ⟨w.heap.size,3,none⟩=some (.int .i64 (t:Int)):=(HK2.out.cell 3).trans HC3.out
 have y3:w2.cell? ⟨sp,3,none⟩=some (.int .i64 (now:Int)):=HP2.out.cell 3
 go_region_held3 (fun w'=>w'.cell? ⟨w.heap.size,3,none⟩=some (.int .i64 (t:Int))∧w'.cell? ⟨sp,3,none⟩=some (.int .i64 (now:Int))) (simp[*]) (first|(go_at_call 9999))
 have HB3:Hid (Below w.heap.size w w2.drew):=kA HB2.out.drew
 have HK3:Hid (Blk w2.drew w.heap.size 35 AC):=kA HK2.out
 have HP3:Hid (Blk w2.drew sp 116 (svC bk (Mo:Int) W now gA gs.length gc)):=kA HP2.out
 have HS3:Hid (SG PR M Cq w2.drew B (.slice gA gs.length gc) gs):=kA (HS.out.sg.below HA.out.st HB3.out)
 go_upto_region 5 with fail
 clear x3 y3 HB2 HK2 HP2 hd
 generalize w2.drew=w3 at HB3 HK3 HP3 HS3 ⊢
 have x3:w3.cell? ⟨w.heap.size,3,none⟩=some (.int .i64 (t:Int)):=(HK3.out.cell 3).trans HC3.out
 have y3:w3.cell? ⟨sp,3,none⟩=some (.int .i64 (now:Int)):=HP3.out.cell 3
 have f3:w3.frozen? ⟨sp,3,none⟩=false:=HP3.out.frozen 3
 go_upto_region 6 with fail
 have HP4:Hid (Blk (w3.setCell ⟨sp,3,none⟩ (.int .i64 (t:Int))) sp 116 (svC bk (Mo:Int) W t gA gs.length gc)):=kA (HP3.out.set_ 3 _)
 have ha4:Alt w3 (w3.setCell ⟨sp,3,none⟩ (.int .i64 (t:Int))) (fun k=>k=sp):=Alt.set_ (p:=fun k=>k=sp) (a:=⟨sp,3,none⟩) (Alt.refl _ _) rfl _
 have hts4:∀ k,k<w3.heap.size→k=sp→TS w3 k:=fun k _ e=>by rw[e];exact .inr ⟨_,_,_,HP3.out,.inl rfl⟩
 have HS4:Hid (SG PR M Cq (w3.setCell ⟨sp,3,none⟩ (.int .i64 (t:Int))) B (.slice gA gs.length gc) gs):=kA (HS3.out.alt HA.out.st ha4 hts4 (fun k hk e=>by
  rcases hk with hk|⟨g,hg,hk⟩
  ·exact zai HS3.out.row HP3.out (by decide) (by rw[← e];exact hk)
  ·exact zai (HS3.out.ok g hg).row HP3.out (by decide) (by rw[← e];exact hk)))
 have HA4:Hid (Alt w (w3.setCell ⟨sp,3,none⟩ (.int .i64 (t:Int))) (fun k=>k=sp)):=kA (Alt.trans (alt_of_below (p:=fun k=>k=sp) HB3.out) ha4 (fun _ _ h=>h))
 have HK4:Hid (Blk (w3.setCell ⟨sp,3,none⟩ (.int .i64 (t:Int))) w.heap.size 35 AC):=kA (HK3.out.kept ha4 (fun e=>Blk.ne_ HK3.out HP3.out (by decide) e))
 have HWL:Hid (w.heap.size≤(w3.setCell ⟨sp,3,none⟩ (.int .i64 (t:Int))).heap.size):=kA HA4.out.size
 clear x3 y3 f3 ha4 hts4 HP3 HS3 HK3 HB3
 generalize w3.setCell ⟨sp,3,none⟩ (.int .i64 (t:Int))=w4 at HP4 HS4 HA4 HK4 HWL ⊢
 have x0:w4.cell? ⟨w.heap.size,0,none⟩=some (.int .i64 4):=(HK4.out.cell 0).trans HC0.out
 have HEX:Hid (Calls Tryz.prog 19 #[.pointer (some ⟨sp,0,none⟩),.bool false] w4 fun e w'=>∃ v rA rc,e = .returned v∧TRow w' w4.heap.size v (expT ans W t false gs)∧GRow w' w4.heap.size (.slice rA (expR W t false gs).length rc) (expR W t false gs) ∧
   Blk w' sp 116 #[.pointer (some ⟨bk,0,none⟩),.int .i64 (Mo:Int),.int .i64 (W:Int),.int .i64 (t:Int),.slice rA (expR W t false gs).length rc]∧Alt w4 w' (fun k=>k=sp)):=kA (zgf HA.out false HP4.out HS4.out.row (fun g hg=>⟨HS4.out.ok g hg,kH (HSM.out.2 g hg).1 (by decide),(HSM.out.2 g hg).2⟩) (kH HSM.out.1 (by decide)) HWW.out (kH HTL.out (by decide)))
 go_upto_region 7 with (first
  |(go_at_call 19;refine HEX.out.mono ?_;rintro e w5 ⟨v5,rA,rc,rfl,ht5,hr5,hp5,ha5⟩;have HT5:=kA ht5;have HR5:=kA hr5;have HP5:=kA hp5;have HA5:=kA ha5;clear ht5 hr5 hp5 ha5))
 have HSV5:Hid (SVw PR M Cq w5 B sp bk Mo W t rA rc (expR W t false gs)):=kA (by
  have hts:∀ k,k<w4.heap.size→k=sp→TS w4 k:=fun k _ e=>by rw[e];exact .inr ⟨_,_,_,HP4.out,.inl rfl⟩
  refine ⟨HP5.out,⟨zau HR5.out (kH HBB.out HWL.out),fun g hg=>?_,List.Pairwise.sublist List.filter_sublist HS4.out.ap⟩,HS.out.b⟩
  have hok:=HS4.out.ok g (List.mem_filter.1 hg).1
  exact hok.alt HA.out.st HA5.out hts (fun k hk e=>zai hok.row HP4.out (by decide) (by rw[← e];exact hk)))
 have HK5:Hid (Blk w5 w.heap.size 35 AC):=kA (HK4.out.kept HA5.out (fun e=>Blk.ne_ HK4.out HP4.out (by decide) e))
 have HA05:Hid (Alt w w5 (fun k=>k=sp)):=kA (Alt.trans HA4.out HA5.out (fun _ _ h=>h))
 have HT5w:Hid (TRow w5 w.heap.size v5 (expT ans W t false gs)):=kA (zau HT5.out HWL.out)
 clear x0 HEX HP4 HS4 HA4 HK4 HT5 HR5 HP5 HA5
 have x0:w5.cell? ⟨w.heap.size,0,none⟩=some (.int .i64 4):=(HK5.out.cell 0).trans HC0.out
 have HROW5:Hid (w5.ownsRow 0 124 7 (.slice a.cA a.cn a.cc) a.cn xs):=kA (zas HRWC.out HA05.out (fun k hk e=>zai HRWC.out HS.out.pt (by decide) (by rw[← e];exact hk)))
 have HCC:=kA (HASK.out w5 rA rc HA05.out HSV5.out HROW5.out)
 obtain ⟨A5,c5,hv5⟩:=zfu HT5w.out
 subst hv5
 obtain ⟨n5,hn5⟩:∃ n5,n5=(expT ans W t false gs).length:=⟨_,rfl⟩
 have HN5:=kA hn5
 rw[← hn5] at HT5w ⊢
 have hn59:n5≤90000:=by rw[hn5];exact HTL.out
 obtain ⟨iT,hi0,hz0,hz1,hz2⟩:=info_parts zdv
 have HIT:=kA hi0
 obtain ⟨zT,hzT⟩:∃ z,z=Value.agg #[.int .i64 0,.int .i64 0,.int .i64 0,.int .i64 0,.int .i64 0,.bool false,.int .u64 0,.string ⟨#[]⟩,.int .u64 0,.string ⟨#[]⟩]:=⟨_,rfl⟩
 rw[← hzT] at hz0
 have HZ0T:=kA hz0
 have HZ1T:=kA hz1
 have HZ2T:=kA hz2
 have HZ3T:Hid (zT.cells.size=10):=kA (by rw[hzT];rfl)
 have HTRx:Hid (w5.ownsRow w.heap.size 47 10 (.slice A5 n5 c5) n5 ((expT ans W t false gs).map cellsT).flatten):=kA (by have h1:=HT5w.out;unfold TRow at h1;rw[← hn5] at h1;exact h1)
 have HNOT:Hid (∀ k,(Value.slice A5 n5 c5).ownBlock=some k→¬ (k=sp∨Gb (.slice rA (expR W t false gs).length rc) (expR W t false gs) k)):=kA (fun k hk h=>by
  rcases h with h|h|⟨g,hg,h⟩
  ·exact zai HTRx.out HSV5.out.pt (by decide) (by rw[← h];exact hk)
  ·exact zbu HTRx.out HSV5.out.sg.row (by decide) k hk h
  ·exact zbu HTRx.out (HSV5.out.sg.ok g hg).row (by decide) k hk h)
 clear hi0 hz0 hz1 hz2 hzT hn5 HT5w
 go_upto_region 16 with (first
  |(refine zar _ rfl 35 _ rfl w.heap.size AC 35 (0,0) _ rfl (by exact HK5.out) Tryz.underlying35 rfl (HZA.out.symm ▸ zif) ?_)
  |(go_at_call 21;refine HCC.out.mono ?_;rintro e w6 ⟨v6,qA,qc,gs7,ts,rfl,ht6,hs6,ha6,hl6,hres⟩;have HT6:=kA ht6;have HS6:=kA hs6;have HA6:=kA ha6;have HRES:=kA hres;have HTO6:Hid (w6.ownsRow w.heap.size 47 10 (.slice A5 n5 c5) n5 ((expT ans W t false gs).map cellsT).flatten):=kA (zas HTRx.out ha6 HNOT.out);have HONE:Hid (∀ u∈(ts.map cellsT).flatten,u.oneCell'=true):=kA (HTD.out _ _ hres);have HWL6:Hid (w.heap.size≤w6.heap.size):=kA (kH HA05.out.size ha6.size);clear ht6 hs6 ha6 hres)
  |(at_builtin;go_loud (refine zck w6 rfl _ _ 29 rfl w.heap.size 47 iT zT 10 96 Tryz.underlying29 HIT.out HZ0T.out HZ1T.out HZ2T.out HZ3T.out (by decide) (.slice A5 n5 c5) n5 _ rfl HTO6.out _ v6 ts.length _ rfl HT6.out HONE.out (by unfold maxLen;omega) (by omega) HWL6.out ?_;intro v8 w8 hown8 hal8;have HO8:=kA hown8;have HA8:=kA hal8;clear hown8 hal8)))
 go_wp2_with fail
 go_ret
 have hsv8:=HS6.out.told HA.out.st HA8.out (zeb HTO6.out)
 have htr8:TRow w8 w.heap.size v8 (expT ans W t false gs++ts):=by
  have h1:=HO8.out
  unfold TRow
  rw[kI,kL,qQ, ← HN5.out]
  exact h1
 have hts5:∀ k,k<w5.heap.size→(k=sp∨Gb (.slice rA (expR W t false gs).length rc) (expR W t false gs) k)→TN w5 k:=by
  rintro k _ (e|e|⟨g,hg,e⟩)
  ·rw[e];exact ⟨_,_,_,HSV5.out.pt,.inl rfl⟩
  ·rcases HSV5.out.sg.row.2 with ⟨e1,_⟩|⟨q,cap,cur,e1,_,hh,_⟩
   ·rw[e1] at e;cases e
   ·rw[e1] at e
    have e3:q=k:=by simpa [Value.ownBlock] using e
    rw[← e3]
    exact ⟨_,_,_,hh,.inr (.inl rfl)⟩
  ·rcases (HSV5.out.sg.ok g hg).row.2 with ⟨e1,_⟩|⟨q,cap,cur,e1,_,hh,_⟩
   ·rw[e1] at e;cases e
   ·rw[e1] at e
    have e3:q=k:=by simpa [Value.ownBlock] using e
    rw[← e3]
    exact ⟨_,_,_,hh,.inr (.inr rfl)⟩
 have h12:Kn w w6:=by
  refine Kn.trans (HA05.out.mono fun k e=>?_) (alt_tn HA6.out hts5)
  rw[e];exact ⟨_,_,_,HS.out.pt,.inl rfl⟩
 have hks:Kn w w8:=Alt.trans h12 HA8.out fun k hk e=>absurd (World.ownsRow.lt HTO6.out k e).1 (Nat.not_le.2 hk)
 have hbl:Below B w w8:=by
  refine (Alt.toBelow HA05.out (fun k _ e=>by rw[e];exact HS.out.b) HBB.out).trans (Below.trans (Alt.toBelow HA6.out (fun k _ e=>?_) (kH HBB.out HA05.out.size)) (Alt.toBelow HA8.out (fun k _ e=>kH HBB.out (World.ownsRow.lt HTO6.out k e).1) (kH HBB.out HWL6.out)))
  rcases e with e|e|⟨g,hg,e⟩
  ·rw[e];exact HS.out.b
  ·exact (World.ownsRow.lt HSV5.out.sg.row k e).1
  ·exact (World.ownsRow.lt (HSV5.out.sg.ok g hg).row k e).1
 rcases HRES.out with ⟨he,h1,h2⟩|⟨he,h1,h2⟩
 ·subst h2
  rw[h1] at htr8
  exact .inl ⟨he,v8,qA,qc,rfl,htr8,hsv8,hks,hbl⟩
 ·rw[h2] at htr8
  exact .inr ⟨he,v8,qA,qc,gs7,rfl,h1,htr8,hsv8,hks,hbl⟩
end
theorem zug (Mo W:Nat)(h1:1≤Mo)(h2:Mo≤300)(h3:W≤1000000)(w:World) :
  Calls Tryz.prog 31 #[.agg #[.int .i64 (Mo:Int),.int .i64 (W:Int)]] w fun e w'=>e = .returned (.bool true)∧Below w.heap.size w w':=by
 have hb1:(1:Int)≤(Mo:Int):=by omega
 have hb2:(Mo:Int)≤300:=by omega
 have hb3:(0:Int)≤(W:Int):=by omega
 have hb4:(W:Int)≤1073741824:=by omega
 have hd1:decide ((1:Int)≤(Mo:Int))=true:=kW hb1
 have hd2:decide ((Mo:Int)≤300)=true:=kW hb2
 have hd3:decide ((0:Int)≤(W:Int))=true:=kW hb3
 have hd4:decide ((W:Int)≤1073741824)=true:=kW hb4
 go_enter Tryz.func31,Tryz.ntmps31
 go_wp2
 go_ret
 exact ⟨rfl,Below.new1 w _⟩
section
variable {PR:SMod}{M:List Int→Prop}{Cq:List Value→Prop}
theorem zzp (bk Mo W:Nat)(h1:1≤Mo)(h2:Mo≤300)(h3:W≤1000000)(w:World)(B:Nat)(hB:B≤w.heap.size) :
  Calls Tryz.prog 17 #[.pointer (some ⟨bk,0,none⟩),.agg #[.int .i64 (Mo:Int),.int .i64 (W:Int)]] w fun e w'=>∃ sp,e = .returned (.tuple #[.pointer (some ⟨sp,0,none⟩),.int .i64 0])∧w.heap.size≤sp∧SVw PR M Cq w' B sp bk Mo W 0 none 0 []∧Below w.heap.size w w':=by
 have HB:=kA hB
 have HF:=kA (zug Mo W h1 h2 h3)
 clear hB h1 h2 h3
 go_enter Tryz.func17,Tryz.ntmps17
 go_wp2_with (first|(go_at_call 31;refine (HF.out _).mono ?_;rintro e w2 ⟨rfl,hb2⟩;have HB2:=kA ((Below.new1 w (.cells #[.int .i64 (Mo:Int),.int .i64 (W:Int)] 106)).trans (hb2.mono (by simp)));have y0:w2.cell? ⟨w.heap.size,0,none⟩=some (.int .i64 (Mo:Int)):=(zab (Blk.new w _ _) hb2).cell 0;have y1:w2.cell? ⟨w.heap.size,1,none⟩=some (.int .i64 (W:Int)):=(zab (Blk.new w _ _) hb2).cell 1;clear hb2))
 go_ret2
 refine ⟨w2.heap.size,rfl,HB2.out.size,⟨?_,SG.nil _ _,kH HB.out HB2.out.size⟩,HB2.out.alloc HB2.out.size _⟩
 exact Blk.new w2 _ _
theorem zmo {w:World}{B sp bk Mo W now:Nat}{gA:Option Addr}{gc:Nat}{gs:List Gp}(hs:SVw PR M Cq w B sp bk Mo W now gA gc gs)(hn:gs.length≤990)(hr:∀ g∈gs,g.rs.length≤990) :
  Calls Tryz.prog 14 #[.pointer (some ⟨sp,0,none⟩)] w fun e w'=>e = .returned (.int .i64 (((gs.map fun g=>g.rs.length).sum:Nat):Int))∧Below w.heap.size w w':=by
 have HS:=kA hs
 obtain ⟨n,hnn⟩:∃ n,n=gs.length:=⟨_,rfl⟩
 have HN:=kA hnn
 have HR:=kA hr
 have hn':n≤990:=by omega
 have y4:w.cell? ⟨sp,4,none⟩=some (.slice gA n gc):=by rw[hnn];exact hs.pt.cell 4
 have HSM:Hid (∀ i,i≤n→((gs.take i).map fun g=>g.rs.length).sum≤i*990):=kA (by
  intro i hi
  induction i with
  |zero=>simp
  |succ i ih =>
   obtain ⟨x,hx⟩:∃ x,gs[i]? = some x:=⟨_,kV (by omega)⟩
   rw[List.take_add_one,hx,Option.toList_some,kL,List.sum_append,List.map_singleton,List.sum_singleton]
   have h1:=ih (by omega)
   have h2:=hr x (qH hx)
   omega)
 clear hs hnn hr hn
 go_enter Tryz.func14,Tryz.ntmps14
 go_wp2
 go_loopw [3,11] (fun v3 v11 wr=>∃ i:Nat,i≤n∧v11 = .int .i64 (i:Int)∧(∃ s:Nat,s≤1000000∧v3 = .int .i64 (s:Int)∧Hid (s=((gs.take i).map fun g=>g.rs.length).sum))∧Hid (Below w.heap.size w wr)) (fun _ v11 _=>n - (intOf v11).toNat)
 case atStart=>exact ⟨0,kX _,rfl,⟨0,by omega,rfl,rfl⟩,Below.refl _ _⟩
 case round =>
  obtain ⟨i,hi,rfl,⟨s,hs9,rfl,hss⟩,hbel⟩:=hrel
  by_cases hlt:i<n
  ·obtain ⟨gg,hgg⟩:∃ x,gs[i]? = some x:=⟨_,kV (by rw[← HN.out];exact hlt)⟩
   have HGG:=kA hgg
   have hok:=HS.out.sg.ok gg (qH hgg)
   have hrow:=HS.out.sg.row
   unfold GRow at hrow
   rw[← HN.out] at hrow
   obtain ⟨ga,gc',hav,_,_⟩:=hrow.form (by omega)
   obtain ⟨rfl,_⟩:gA=some ⟨ga,0,none⟩∧True:=by injection hav with e;exact ⟨e,trivial⟩
   obtain ⟨GC,hGC⟩:∃ x,x=(cellsG gg).toArray:=⟨_,rfl⟩
   have HLD:Hid (∀ k u,GC.toList[k]? = some u→wr.cell? ((⟨ga,i*63,none⟩:Addr).add k)=some u):=kA (by
    intro k u hu
    rw[addk]
    have h1:=(zad hrow hbel.out).cells (g:=ga) rfl (i*63+k) u (zq0 gs i k u (fun x hx=>(HS.out.sg.ok x hx).sz) hgg (by rw[hGC] at hu;simpa using hu))
    rw[add0] at h1
    exact h1)
   have HGZ:Hid (GC.size=63):=kA (by rw[hGC];simpa using zbv hok.sz)
   have HG1:Hid (GC.all (·.oneCell')=true):=kA (by
    rw[hGC, ← Array.all_toList]
    refine List.all_eq_true.2 fun u hu=>?_
    exact zpk (gs:=gs) HS.out.sg.ok u (List.mem_flatten.2 ⟨cellsG gg,kO.2 ⟨gg,qH hgg,rfl⟩,by simpa using hu⟩))
   have HG62:Hid (GC[62]? = some gg.av):=kA (by rw[hGC];simpa using zdu hok.sz)
   obtain ⟨m,hm⟩:∃ m,m=gg.rs.length:=⟨_,rfl⟩
   have hm9:m≤990:=by rw[hm];exact HR.out gg (qH hgg)
   have HM:=kA hm
   have hs1:s+m≤1000000:=by
    have h1:=HSM.out (i+1) hlt
    rw[List.take_add_one,hgg,Option.toList_some,kL,List.sum_append,List.map_singleton,List.sum_singleton, ← hss.out, ← hm] at h1
    have h2:(i+1)*990≤990*990:=Nat.mul_le_mul_right _ (kH hlt hn')
    exact kH h1 (kH h2 (by decide))
   have hlt':(i:Int)<(n:Int):=by omega
   clear hgg hok hrow hav hGC hm
   go_upto_region 5 with (first
    |(refine za1 _ rfl 152 _ rfl ⟨ga,i*63,none⟩ GC _ rfl (by exact HLD.out) Tryz.underlying152 rfl (HGZ.out.symm ▸ zct) ?_)
    |(refine zaw _ rfl 152 _ _ rfl wr.heap.size _ GC 152 rfl rfl (by exact Blk.new wr _ _) (HGZ.out.symm ▸ zct) (by rw[HGZ.out];rfl) HG1.out ?_;intro w5 hb5 ha5 hs5;have HK5:=kA hb5;have HB5:Hid (Below wr.heap.size wr w5):=kA ((Below.new1 wr _).trans (ha5.below (fun k e=>by rw[e];exact kJ _) (by simp)));clear hb5 ha5 hs5))
   have y62:w5.cell? ⟨wr.heap.size,62,none⟩=some (.slice gg.aA m gg.ac):=(HK5.out.cell 62).trans (by rw[HG62.out,HM.out])
   have hwr:IntKind.i64.wrap ((s:Int)+(m:Int))=((s+m:Nat):Int):=(qR _ (by omega)).trans (by omega)
   go_wp2
   go_roundw
   case rel=>exact ⟨i+1,by omega,by go_num,⟨s+m,hs1,by first|rfl|(congr 1;done)|(congr 1;omega)|(simp only[hwr];done)|(rw[← hwr];done),kA (by rw[List.take_add_one,HGG.out,Option.toList_some,kL,List.sum_append,List.map_singleton,List.sum_singleton, ← hss.out, ← HM.out])⟩,hbel.out.trans (HB5.out.mono hbel.out.size)⟩
   case measure=>simp[intOf];omega
  ·go_wp2
   go_ret
   have hin:i=n:=by omega
   have h1:=hss.out
   rw[hin,HN.out,List.take_length] at h1
   exact ⟨by rw[← h1];rfl,hbel.out⟩
end
end Go.Proofs.YtemgclnkgieldaaGreatDoor.Oc
