/- do, within what a book and a plain shelf keep. -/
import Derived.Test.YtildihjjocedmaaGreatDoorNm
set_option maxHeartbeats 4000000
set_option maxRecDepth 100000
namespace Go.Proofs.YtildihjjocedmaaGreatDoor.Oc
open Go Go.RowKit Dk
def NoFit (PM:PMod)(M:List Int→Prop)(kk:Int)(nn vv:Nat)(aM:Int)(C':Con)(S:St):Prop :=
 (kk=4∧nn<3∧refC C' 2 (nmOf nn) vv=0∧¬ Fits S ⟨2,nmOf nn,vv,[]⟩)∨(kk=5∧nn<3∧refC C' 3 (nmOf nn) vv=0∧¬ Fits S ⟨3,nmOf nn,vv,[]⟩) ∨
 (kk≠4∧kk≠5∧kk≠6∧nn<3∧∃ ms,MdlOk PM M aM ms∧¬ Fits S ⟨1,nmOf nn,nextC C' (nmOf nn),ms⟩)
def DoP (PM:PMod)(M:List Int→Prop)(w:World)(B g gd room k:Nat)(C':Con)(ks:List Kt)(ns:List Nt)(bm:Nat)(A:Option Addr)(c:Nat)(S:St)(f:Int)(L:List Ly)(far:Nat→Prop)(gp:Nat)(v:Value)(ps:List Pe)(kk:Int)(nn vv:Nat)(aM:Int)(e:Ending)(w':World):Prop :=
 ∃ (r:Bool) (far':Nat→Prop) (v':Value) (ps':List Pe),e = .returned (.bool r)∧SP PM w' B far' gp v' ps'∧(∀ q,far q→far' q)∧(∀ q,far' q→far q∨(w.heap.size≤q∧q<w'.heap.size)) ∧
  (∀ q,So gp v' ps' q→So gp v ps q∨w.heap.size≤q)∧Alt w w' (fun q=>So gp v ps q∨TB w q)∧Below B w w' ∧
  (r=true→∃ C'',BT w' B g gd room (k+1) C''∧(ps'.map Pe.s).Perm C''∧Iv M C'')∧(r=false→BX w' B g gd room k C' ks ns bm A c S f L∧NoFit PM M kk nn vv aM C' S)
theorem nm_lt {nn:Nat}(h:nn<3):nmOf nn=nmA∨nmOf nn=nmB∨nmOf nn=nmC:=by
 match nn,h with
 | 0,_=>exact .inl rfl
 | 1,_=>exact .inr (.inl rfl)
 | 2,_=>exact .inr (.inr rfl)
theorem zo8:nmOf 3=nm1:=rfl
theorem zf9 {kind:Int}{nn v:Nat}{ms:List Int}(hn:nn<3)(hk:kind=1∨kind=2∨kind=3)(hv:v≤100000)(his:IsOk (nmOf nn))(hm:kind=1→IsB ms∧0<ms.length∧ms.length≤12000∧ReadOk ms):NtOk ⟨kind,nmOf nn,v,ms⟩:=by
 have h:(nmOf nn).size≤20∧0<(nmOf nn).size∧strOf (nums (nmOf nn))=nmOf nn:=by
  rcases nm_lt hn with e|e|e <;> rw[e] <;> decide
 exact ⟨h.1,h.2.1,h.2.2,hv,hk,his,hm⟩
theorem zww {M:List Int→Prop}{C:Con}(h:Iv M C):fndC C nm1=none:=by
 unfold fndC
 rw[List.find?_eq_none]
 intro s hs
 rcases h.nm s hs with e|e|e <;> rw[e] <;> decide
theorem zta {M:List Int→Prop}{C:Con}(h:Iv M C)(kind:Int)(v:Nat):refC C kind nm1 v=11:=by unfold refC;rw[zww h]
theorem ztb {M:List Int→Prop}{C:Con}(h:Iv M C){name:ByteArray}{s s':Sh}(hs:s∈C)(hn:s'.name=s.name)(hv:∀ x∈s'.vs,M x.2):Iv M (updC C name s'):=by
 refine ⟨fun x hx=>?_,fun x hx=>?_⟩
 ·rcases zc0 hx with rfl|⟨hx,_⟩
  ·rw[hn];exact h.nm s hs
  ·exact h.nm x hx
 ·rcases zc0 hx with rfl|⟨hx,_⟩
  ·exact hv
  ·exact h.kn x hx
theorem ztc {M:List Int→Prop}{C:Con}(h:Iv M C)(n:Nt)(hk:n.kind=2∨n.kind=3):Iv M (stepK C n):=by
 unfold stepK
 split
 ·unfold pfC
  rw[if_neg (by rcases hk with e|e <;> rw[e] <;> decide)]
  cases hf:fndC C n.name with
  |none=>exact h
  |some s =>
   have hm:=(zbv hf).1
   simp only
   split
   ·exact ztb h hm rfl (h.kn s hm)
   ·exact ztb h hm rfl (fun x hx=>h.kn s hm x (List.mem_filter.1 hx).1)
 ·exact h
theorem put_iv {M:List Int→Prop}{C:Con}(h:Iv M C){nn v:Nat}{ms:List Int}(hn:nn<3)(hm:M ms):Iv M (pfC C ⟨1,nmOf nn,v,ms⟩):=by
 unfold pfC
 rw[if_pos rfl]
 cases hf:fndC C (nmOf nn) with
 |none =>
  simp only
  refine ⟨fun x hx=>?_,fun x hx=>?_⟩
  ·rcases List.mem_append.1 hx with hx|hx
   ·exact h.nm x hx
   ·rw[List.mem_singleton.1 hx];exact nm_lt hn
  ·rcases List.mem_append.1 hx with hx|hx
   ·exact h.kn x hx
   ·rw[List.mem_singleton.1 hx]
    intro y hy
    rw[List.mem_singleton.1 hy]
    exact hm
 |some s =>
  have hs:=(zbv hf).1
  simp only
  refine ztb h hs rfl fun x hx=>?_
  rcases List.mem_append.1 hx with hx|hx
  ·exact h.kn s hs x hx
  ·rw[List.mem_singleton.1 hx];exact hm
theorem zmf {C C':Con}(h:C.Perm C')(hn:(C.map Sh.name).Nodup)(n:Nt):(stepK C n).Perm (stepK C' n):=by
 unfold stepK
 rw[zg5 h hn]
 split
 ·exact zkl h hn n
 ·exact h
theorem zde {PM:PMod}{w:World}{B gp:Nat}{far:Nat→Prop}{v:Value}{ps:List Pe}{W W1 W2:World}{C2:Con}(_hsp:SP PM w B far gp v ps)(_hfar:∀ q,far q→q<w.heap.size)(hB:B≤w.heap.size)(hso:∀ q,So gp v ps q→B≤q)(h1:Below w.heap.size w W)(h2:BK B W W1)(h3:SPost PM W1 B far gp v ps C2 W2) :
  ∃ (far':Nat→Prop) (v':Value) (ps':List Pe),SP PM W2 B far' gp v' ps'∧ps'.map Pe.s=C2∧(∀ q,far q→far' q)∧(∀ q,far' q→far q∨(w.heap.size≤q∧q<W2.heap.size)) ∧
  (∀ q,So gp v' ps' q→So gp v ps q∨w.heap.size≤q)∧Alt w W2 (fun q=>So gp v ps q∨TB w q)∧Below B w W2∧Alt W1 W2 (So gp v ps):=by
 obtain ⟨far',v',ps',a1,a2,a3,a4,a5,a6⟩:=h3
 have hk:Kb w W1:=Kb.trans (.of h1) h2.kb
 have hs1:w.heap.size≤W1.heap.size:=hk.size
 refine ⟨far',v',ps',a1,a2,a5,fun q hq=>?_,fun q hq=>?_,?_,?_,a4⟩
 ·rcases a6 q hq with h|⟨h,h'⟩
  ·exact .inl h
  ·exact .inr ⟨Nat.le_trans hs1 h,h'⟩
 ·rcases a3 q hq with h|h
  ·exact .inl h
  ·exact .inr (Nat.le_trans hs1 h)
 ·exact (hk.mono fun q h => .inr h).trans a4 (fun q _ h => .inl h)
 ·exact ((h1.mono hB).trans h2.bel).trans (Alt.toBelow a4 (fun q _ h=>hso q h) (Nat.le_trans hB hs1))
theorem zig {PM:PMod}(hst:Stays PM){w:World}{B gp:Nat}{far:Nat→Prop}{v:Value}{ps:List Pe}(h:SP PM w B far gp v ps)(hs:Small ps)(hnd:((ps.map Pe.s).map Sh.name).Nodup)(name:ByteArray)(ver:Nat){r:Int}(hr:refC (ps.map Pe.s) 2 name ver=r) :
  Calls Tryz.prog 16 #[.pointer (some ⟨gp,0,none⟩),.string name,.int .i64 (ver:Int)] w fun e w'=>∃ r2,e = .returned (.int .i64 r2)∧r2=r∧SPost PM w B far gp v ps (stepK (ps.map Pe.s) ⟨2,name,ver,[]⟩) w':=by
 refine (zqb hst h hs hnd name ver hr).mono ?_
 rintro e w' ⟨rfl,ps',h1,h2,h3,h4⟩
 exact ⟨r,rfl,rfl,far,v,ps',h1,h2,fun k hk => .inl (h3 k hk),h4,fun _ h=>h,fun k h => .inl h⟩
theorem zmg {PM:PMod}(hst:Stays PM){w w':World}{B gp:Nat}{far:Nat→Prop}{v:Value}{ps:List Pe}(h:SP PM w B far gp v ps)(hb:Below w.heap.size w w'):SPost PM w B far gp v ps (ps.map Pe.s) w' :=
 ⟨far,v,ps,h.below hst hb,rfl,fun _ h => .inl h,alt_of_below hb,fun _ h=>h,fun _ h => .inl h⟩
theorem zjp {PM:PMod}(hst:Stays PM){w:World}{B gp:Nat}{far:Nat→Prop}{v:Value}{ps:List Pe}(h:SP PM w B far gp v ps)(hs:Small ps)(hnd:((ps.map Pe.s).map Sh.name).Nodup)(hri:∀ p∈ps,(p.ts.map (·.v)).Pairwise (· < ·))(hlh:∀ p∈ps,0<p.ts.length→hasV p.s p.o.live=true)(name:ByteArray)(ver:Nat){r:Int}(hr:refC (ps.map Pe.s) 3 name ver=r) :
  Calls Tryz.prog 18 #[.pointer (some ⟨gp,0,none⟩),.string name,.int .i64 (ver:Int)] w fun e w'=>∃ r2,e = .returned (.int .i64 r2)∧r2=r∧SPost PM w B far gp v ps (stepK (ps.map Pe.s) ⟨3,name,ver,[]⟩) w':=by
 have hsame:r≠0→stepK (ps.map Pe.s) ⟨3,name,ver,[]⟩=ps.map Pe.s:=fun h0=>by
  unfold stepK
  rw[if_neg (by rw[hr];exact h0)]
 by_cases h2:refC (ps.map Pe.s) 2 name ver=0
 ·obtain ⟨s,hs1,_⟩:=zoz h2
  have h3:=zs0 h2 hs1
  by_cases hl:ver=s.live∧1<s.vs.length
  ·rw[if_pos hl,hr] at h3
   refine (zqc hst h hs name ver h2 hs1 hl).mono ?_
   rintro e w' ⟨rfl,hb⟩
   refine ⟨17,rfl,h3.symm,?_⟩
   rw[hsame (by rw[h3];decide)]
   exact zmg hst h hb
  ·rw[if_neg hl,hr] at h3
   refine (zut hst h hs name ver h2 hs1 hl hnd hri hlh).mono ?_
   rintro e w' ⟨rfl,hp⟩
   exact ⟨0,rfl,h3.symm,hp⟩
 ·have h3:=zwp h2
  rw[hr] at h3
  refine (zuq h hs name ver h3.symm (by rw[h3];exact h2)).mono ?_
  rintro e w' ⟨rfl,hb⟩
  refine ⟨r,rfl,rfl,?_⟩
  rw[hsame (by rw[h3];exact h2)]
  exact zmg hst h hb
section
variable {PM:PMod}{PR:Nat→World→List Int→Array Value→Prop}{M:List Int→Prop}(lw:LawH PM PR M){w:World}{B g gd room k:Nat}{C':Con}{ks:List Kt}{ns:List Nt}{bm:Nat}{A:Option Addr}{c:Nat}{S:St}{f:Int}{L:List Ly}{far:Nat→Prop}{gp:Nat}{v:Value}{ps:List Pe}{aK aN aV aM:Int}{nn vv:Nat}
include lw
theorem zu2 (hbx:BX w B g gd room k C' ks ns bm A c S f L)(hk:k≤50)(hsp:SP PM w B far gp v ps)(hiv:Iv M C')(hperm:(ps.map Pe.s).Perm C')(hfar:∀ q,far q→q<w.heap.size)(hso:∀ q,So gp v ps q→B≤q)(hK:aK % 7=4)(hN:aN % 4=(nn:Int))(hV:aV % 6=(vv:Int)) :
  Calls Tryz.prog 7 #[.pointer (some ⟨g,0,none⟩),.pointer (some ⟨gp,0,none⟩),actV aK aN aV aM] w (DoP PM M w B g gd room k C' ks ns bm A c S f L far gp v ps (aK % 7) nn vv aM):=by
 have hB:B≤w.heap.size:=hbx.1.bw.b0l
 have hv6:vv<6:=by have:=Int.emod_lt_of_pos aV (show (0:Int)<6 by omega);omega
 have hn4:nn<4:=by have:=Int.emod_lt_of_pos aN (show (0:Int)<4 by omega);omega
 obtain ⟨s1,s2,s3,s4⟩:=zg7 hbx.bt.wk (by omega) hbx.2.2.2.2.2.2.2.2.1 hperm
 have href:refC (ps.map Pe.s) 2 (nmOf nn) vv=refC C' 2 (nmOf nn) vv:=zg5 hperm s2 _ _ _
 have hspw:∀ W,Below w.heap.size w W→SP PM W B far gp v ps:=fun W hW=>hsp.below lw.mt.st hW
 by_cases hfit:nn<3∧refC C' 2 (nmOf nn) vv=0∧¬ Fits S ⟨2,nmOf nn,vv,[]⟩
 ·have hnt:=zf9 (kind:=2) (ms:=[]) hfit.1 (.inr (.inl rfl)) (by omega:vv≤100000) (lw.is nn hfit.1) (fun h=>by cases h)
  refine (zo6 hK hN hV (Q1:=fun W r W1=>r=14∧Below W.heap.size W W1) (Q2:=fun W1 r r2 W2=>r2=0∧SPost PM W1 B far gp v ps (stepK (ps.map Pe.s) ⟨2,nmOf nn,vv,[]⟩) W2) (fun W hW=>?_) (fun W W1 r hW hq=>?_)).mono ?_
  ·refine zo5 ((zme (hbx.below hW) hnt (.inl rfl) hfit.2.1 hfit.2.2).mono ?_)
   rintro e w' ⟨rfl,hb⟩
   exact ⟨14,rfl,rfl,hb⟩
  ·exact zig lw.mt.st (hspw W1 (hW.trans (hq.2.mono hW.size))) s1 s2 (nmOf nn) vv (href.trans hfit.2.1)
  ·rintro e w' ⟨W,W1,r,r2,hW,⟨rfl,hb1⟩,⟨rfl,hp⟩,rfl⟩
   obtain ⟨far',v',ps',a1,a2,a3,a4,a5,a6,a7,a8⟩:=zde hsp hfar hB hso hW (.of hb1 (Nat.le_trans hB hW.size)) hp
   refine ⟨false,far',v',ps',rfl,a1,a3,a4,a5,a6,a7,(fun h=>by cases h),fun _=>⟨?_,.inl ⟨hK,hfit⟩⟩⟩
   exact ((hbx.below hW).below hb1).alt a8 (fun q _ h=>znx (hspw W1 (hW.trans (hb1.mono hW.size))) q h)
 ·refine (zo6 hK hN hV (Q1:=fun W r W1=>r=refC C' 2 (nmOf nn) vv∧BT W1 B g gd room (k+1) (stepK C' ⟨2,nmOf nn,vv,[]⟩)∧BK B W W1) (Q2:=fun W1 r r2 W2=>r2=refC C' 2 (nmOf nn) vv∧SPost PM W1 B far gp v ps (stepK (ps.map Pe.s) ⟨2,nmOf nn,vv,[]⟩) W2) (fun W hW=>?_) (fun W W1 r hW hq=>?_)).mono ?_
  ·refine zo5 ?_
   by_cases h3:nn<3
   ·have hnt:=zf9 (kind:=2) (ms:=[]) h3 (.inr (.inl rfl)) (by omega:vv≤100000) (lw.is nn h3) (fun h=>by cases h)
    refine (zif (hbx.below hW) (by omega) hnt (.inl rfl) (fun h=>Classical.byContradiction fun hn=>hfit ⟨h3,h,hn⟩)).mono ?_
    rintro e w' ⟨rfl,h1,h2⟩
    exact ⟨_,rfl,rfl,h1,h2⟩
   ·obtain rfl:nn=3:=by omega
    rw[zo8]
    have h11:=zta hiv 2 vv
    refine (zf6 (r:=11) (hbx.below hW).1 2 nm1 vv (.inl rfl) (by omega) (by rw[hbx.2.2.2.1];exact h11) (by decide)).mono ?_
    rintro e w' ⟨rfl,hb⟩
    refine ⟨11,rfl,h11.symm,?_,.of hb (Nat.le_trans hB hW.size)⟩
    have e1:stepK C' ⟨2,nm1,vv,[]⟩=C':=by unfold stepK;rw[if_neg (by rw[h11];decide)]
    rw[e1]
    exact ((hbx.below hW).below hb).bt.more
  ·exact zig lw.mt.st ((hspw W hW).kb lw.mt.st hq.2.2.kb) s1 s2 (nmOf nn) vv href
  ·rintro e w' ⟨W,W1,r,r2,hW,⟨rfl,hb1,hk1⟩,⟨rfl,hp⟩,rfl⟩
   obtain ⟨far',v',ps',a1,a2,a3,a4,a5,a6,a7,a8⟩:=zde hsp hfar hB hso hW hk1 hp
   refine ⟨true,far',v',ps',by simp,a1,a3,a4,a5,a6,a7,fun _=>⟨_,hb1.alt a8 (fun q _ h=>znx ((hspw W hW).kb lw.mt.st hk1.kb) q h),?_,ztc hiv _ (.inl rfl)⟩,fun h=>by cases h⟩
   rw[a2]
   exact zmf hperm s2 _
theorem zwx (hbx:BX w B g gd room k C' ks ns bm A c S f L)(hk:k≤50)(hsp:SP PM w B far gp v ps)(hiv:Iv M C')(hperm:(ps.map Pe.s).Perm C')(hfar:∀ q,far q→q<w.heap.size)(hso:∀ q,So gp v ps q→B≤q)(hK:aK % 7=5)(hN:aN % 4=(nn:Int))(hV:aV % 6=(vv:Int)) :
  Calls Tryz.prog 7 #[.pointer (some ⟨g,0,none⟩),.pointer (some ⟨gp,0,none⟩),actV aK aN aV aM] w (DoP PM M w B g gd room k C' ks ns bm A c S f L far gp v ps (aK % 7) nn vv aM):=by
 have hB:B≤w.heap.size:=hbx.1.bw.b0l
 have hv6:vv<6:=by have:=Int.emod_lt_of_pos aV (show (0:Int)<6 by omega);omega
 have hn4:nn<4:=by have:=Int.emod_lt_of_pos aN (show (0:Int)<4 by omega);omega
 obtain ⟨s1,s2,s3,s4⟩:=zg7 hbx.bt.wk (by omega) hbx.2.2.2.2.2.2.2.2.1 hperm
 have href:refC (ps.map Pe.s) 3 (nmOf nn) vv=refC C' 3 (nmOf nn) vv:=zg5 hperm s2 _ _ _
 have hspw:∀ W,Below w.heap.size w W→SP PM W B far gp v ps:=fun W hW=>hsp.below lw.mt.st hW
 by_cases hfit:nn<3∧refC C' 3 (nmOf nn) vv=0∧¬ Fits S ⟨3,nmOf nn,vv,[]⟩
 ·have hnt:=zf9 (kind:=3) (ms:=[]) hfit.1 (.inr (.inr rfl)) (by omega:vv≤100000) (lw.is nn hfit.1) (fun h=>by cases h)
  refine (zs8 hK hN hV (Q1:=fun W r W1=>r=14∧Below W.heap.size W W1) (Q2:=fun W1 r r2 W2=>r2=0∧SPost PM W1 B far gp v ps (stepK (ps.map Pe.s) ⟨3,nmOf nn,vv,[]⟩) W2) (fun W hW=>?_) (fun W W1 r hW hq=>?_)).mono ?_
  ·refine znw ((zme (hbx.below hW) hnt (.inr rfl) hfit.2.1 hfit.2.2).mono ?_)
   rintro e w' ⟨rfl,hb⟩
   exact ⟨14,rfl,rfl,hb⟩
  ·exact zjp lw.mt.st (hspw W1 (hW.trans (hq.2.mono hW.size))) s1 s2 s3 s4 (nmOf nn) vv (href.trans hfit.2.1)
  ·rintro e w' ⟨W,W1,r,r2,hW,⟨rfl,hb1⟩,⟨rfl,hp⟩,rfl⟩
   obtain ⟨far',v',ps',a1,a2,a3,a4,a5,a6,a7,a8⟩:=zde hsp hfar hB hso hW (.of hb1 (Nat.le_trans hB hW.size)) hp
   refine ⟨false,far',v',ps',rfl,a1,a3,a4,a5,a6,a7,(fun h=>by cases h),fun _=>⟨?_,.inr (.inl ⟨hK,hfit⟩)⟩⟩
   exact ((hbx.below hW).below hb1).alt a8 (fun q _ h=>znx (hspw W1 (hW.trans (hb1.mono hW.size))) q h)
 ·refine (zs8 hK hN hV (Q1:=fun W r W1=>r=refC C' 3 (nmOf nn) vv∧BT W1 B g gd room (k+1) (stepK C' ⟨3,nmOf nn,vv,[]⟩)∧BK B W W1) (Q2:=fun W1 r r2 W2=>r2=refC C' 3 (nmOf nn) vv∧SPost PM W1 B far gp v ps (stepK (ps.map Pe.s) ⟨3,nmOf nn,vv,[]⟩) W2) (fun W hW=>?_) (fun W W1 r hW hq=>?_)).mono ?_
  ·refine znw ?_
   by_cases h3:nn<3
   ·have hnt:=zf9 (kind:=3) (ms:=[]) h3 (.inr (.inr rfl)) (by omega:vv≤100000) (lw.is nn h3) (fun h=>by cases h)
    refine (zif (hbx.below hW) (by omega) hnt (.inr rfl) (fun h=>Classical.byContradiction fun hn=>hfit ⟨h3,h,hn⟩)).mono ?_
    rintro e w' ⟨rfl,h1,h2⟩
    exact ⟨_,rfl,rfl,h1,h2⟩
   ·obtain rfl:nn=3:=by omega
    rw[zo8]
    have h11:=zta hiv 3 vv
    refine (zf6 (r:=11) (hbx.below hW).1 3 nm1 vv (.inr rfl) (by omega) (by rw[hbx.2.2.2.1];exact h11) (by decide)).mono ?_
    rintro e w' ⟨rfl,hb⟩
    refine ⟨11,rfl,h11.symm,?_,.of hb (Nat.le_trans hB hW.size)⟩
    have e1:stepK C' ⟨3,nm1,vv,[]⟩=C':=by unfold stepK;rw[if_neg (by rw[h11];decide)]
    rw[e1]
    exact ((hbx.below hW).below hb).bt.more
  ·exact zjp lw.mt.st ((hspw W hW).kb lw.mt.st hq.2.2.kb) s1 s2 s3 s4 (nmOf nn) vv href
  ·rintro e w' ⟨W,W1,r,r2,hW,⟨rfl,hb1,hk1⟩,⟨rfl,hp⟩,rfl⟩
   obtain ⟨far',v',ps',a1,a2,a3,a4,a5,a6,a7,a8⟩:=zde hsp hfar hB hso hW hk1 hp
   refine ⟨true,far',v',ps',by simp,a1,a3,a4,a5,a6,a7,fun _=>⟨_,hb1.alt a8 (fun q _ h=>znx ((hspw W hW).kb lw.mt.st hk1.kb) q h),?_,ztc hiv _ (.inr rfl)⟩,fun h=>by cases h⟩
   rw[a2]
   exact zmf hperm s2 _
theorem zwy (hbx:BX w B g gd room k C' ks ns bm A c S f L)(hk:k≤50)(hsp:SP PM w B far gp v ps)(hiv:Iv M C')(hperm:(ps.map Pe.s).Perm C')(_hfar:∀ q,far q→q<w.heap.size)(_hso:∀ q,So gp v ps q→B≤q)(hK:aK % 7=6)(hN:aN % 4=(nn:Int))(hV:aV % 6=(vv:Int)) :
  Calls Tryz.prog 7 #[.pointer (some ⟨g,0,none⟩),.pointer (some ⟨gp,0,none⟩),actV aK aN aV aM] w (DoP PM M w B g gd room k C' ks ns bm A c S f L far gp v ps (aK % 7) nn vv aM):=by
 have hB:B≤w.heap.size:=hbx.1.bw.b0l
 refine (zwv hK hN hV (Q1:=fun W W1=>BT W1 B g gd room k C'∧BK B W W1) (fun W hW=>zwm (hbx.below hW).bt hk)).mono ?_
 rintro e w' ⟨W,hW,⟨h1,h2⟩,rfl⟩
 have hkb:Kb w w':=Kb.trans (.of hW) h2.kb
 exact ⟨true,far,v,ps,rfl,hsp.kb lw.mt.st hkb,fun _ h=>h,fun _ h => .inl h,fun _ h => .inl h,hkb.mono (fun _ h => .inr h),(hW.mono hB).trans h2.bel,fun _=>⟨C',h1.more,hperm,hiv⟩,fun h=>by cases h⟩
end
theorem ztd {PM:PMod}(hst:Stays PM){w:World}{B gp:Nat}{far:Nat→Prop}{v:Value}{ps:List Pe}(h:SP PM w B far gp v ps)(hs:Small ps)(hB:B≤w.heap.size)(name:ByteArray)(hfu:fullC (ps.map Pe.s) name=false)(hnd:((ps.map Pe.s).map Sh.name).Nodup){ms:List Int}{cs:Array Value}(hcs:cs.size=59∧AllOne cs∧PM w far ms cs)
  (hck:∀ W,Below w.heap.size w W→Calls Tryz.prog 50 #[.agg cs] W fun e w'=>e = .returned (.int .i64 0)∧Below W.heap.size W w') {x:Nat} (hx:nextC (ps.map Pe.s) name=x) :
  Calls Tryz.prog 22 #[.pointer (some ⟨gp,0,none⟩),.string name,.bool true,.agg cs] w fun e w'=>e = .returned (.tuple #[.int .i64 (x:Int),.int .i64 0])∧SPost PM w B far gp v ps (pfC (ps.map Pe.s) ⟨1,name,x,ms⟩) w':=by
 cases hf:fndC (ps.map Pe.s) name with
 |none =>
  have h1:x=1:=by rw[← hx];unfold nextC;rw[hf]
  subst h1
  exact zuw hst h hs hB name hfu hf hcs hck
 |some s =>
  have h1:x=s.next:=by rw[← hx];unfold nextC;rw[hf]
  subst h1
  exact zuv hst h hs hB name hfu hf hnd hcs hck
theorem zwz {k:Nat}{C:Con}(hw:Wk k C)(hk:k≤19)(name:ByteArray):fullC C name=false:=by
 have h1:=List.length_filter_le (othC name) C
 have h2:=hw.len
 have h3:numC C name≤k:=by
  unfold numC
  cases hf:fndC C name with
  |none=>exact Nat.zero_le _
  |some s=>exact (hw.sh s (zbv hf).1).1
 unfold fullC
 simp only[Bool.or_eq_false_iff,decide_eq_false_iff_not]
 omega
theorem zte {k:Nat}{C:Con}(hw:Wk k C)(name:ByteArray):nextC C name≤k+1:=by
 unfold nextC
 cases hf:fndC C name with
 |none=>exact Nat.succ_le_succ (Nat.zero_le _)
 |some s=>exact (hw.sh s (zbv hf).1).2.2.1
section
variable {PM:PMod}{PR:Nat→World→List Int→Array Value→Prop}{M:List Int→Prop}(lw:LawH PM PR M){w:World}{B g gd room k:Nat}{C':Con}{ks:List Kt}{ns:List Nt}{bm:Nat}{A:Option Addr}{c:Nat}{S:St}{f:Int}{L:List Ly}{far:Nat→Prop}{gp:Nat}{v:Value}{ps:List Pe}{aK aN aV aM:Int}{nn vv:Nat}
include lw
theorem rl_put (hbx:BX w B g gd room k C' ks ns bm A c S f L)(hk:k≤19)(hsp:SP PM w B far gp v ps)(hiv:Iv M C')(hperm:(ps.map Pe.s).Perm C')(hfar:∀ q,far q→q<w.heap.size)(hso:∀ q,So gp v ps q→B≤q)(hK:aK % 7=0∨aK % 7=1∨aK % 7=2∨aK % 7=3)(hN:aN % 4=(nn:Int))(hV:aV % 6=(vv:Int)) :
  Calls Tryz.prog 7 #[.pointer (some ⟨g,0,none⟩),.pointer (some ⟨gp,0,none⟩),actV aK aN aV aM] w (DoP PM M w B g gd room k C' ks ns bm A c S f L far gp v ps (aK % 7) nn vv aM):=by
 have hB:B≤w.heap.size:=hbx.1.bw.b0l
 have hn4:nn<4:=by have:=Int.emod_lt_of_pos aN (show (0:Int)<4 by omega);omega
 obtain ⟨s1,s2,s3,s4⟩:=zg7 hbx.bt.wk (by omega) hbx.2.2.2.2.2.2.2.2.1 hperm
 have hspw:∀ W,Below w.heap.size w W→SP PM W B far gp v ps:=fun W hW=>hsp.below lw.mt.st hW
 by_cases h3:nn<3
 ·have his:=lw.is nn h3
  have hdec:decide ((nn:Int)<3)=true:=by rw[decide_eq_true_eq];omega
  rcases lw.md aM with ⟨ms,hmd⟩|hbad
  ·have hfull:fullC C' (nmOf nn)=false:=zwz hbx.bt.wk hk _
   have hfullp:fullC (ps.map Pe.s) (nmOf nn)=false:=(zl9 hperm s2 _).trans hfull
   obtain ⟨x,hx⟩:∃ x,nextC C' (nmOf nn)=x:=⟨_,rfl⟩
   have hxp:nextC (ps.map Pe.s) (nmOf nn)=x:=(zl8 hperm s2 _).trans hx
   have hxk:x≤k+1:=by rw[← hx];exact zte hbx.bt.wk _
   have hnt:=zf9 (kind:=1) (v:=x) (ms:=ms) h3 (.inl rfl) (by omega) his (fun _=>hmd.b)
   have hplain:∀ W2 cs2 W3,Below w.heap.size W2 W2→w.heap.size≤W2.heap.size→SP PM W3 B far gp v ps→(cs2.size=59∧AllOne cs2∧PM W3 (fun k=>k<W2.heap.size) ms cs2)→(∀ W',Below W3.heap.size W3 W'→Calls Tryz.prog 50 #[.agg cs2] W' fun e w''=>e = .returned (.int .i64 0)∧Below W'.heap.size W' w'')→W2.heap.size≤W3.heap.size→Calls Tryz.prog 22 #[.pointer (some ⟨gp,0,none⟩),.string (nmOf nn),.bool (decide ((nn:Int)<3)),.agg cs2] W3 fun e w'=>∃ x2 r2,e = .returned (.tuple #[.int .i64 x2,.int .i64 r2])∧x2=(x:Int)∧r2=0∧SPost PM W3 B far gp v ps (pfC (ps.map Pe.s) ⟨1,nmOf nn,x,ms⟩) w':=fun W2 cs2 W3 _ hsz hsp3 hcs hck hsz3=>by
    rw[hdec]
    refine (ztd lw.mt.st hsp3 s1 (by omega) (nmOf nn) hfullp s2 ⟨hcs.1,hcs.2.1,lw.mt.st _ _ _ _ _ _ _ hcs.2.2 (Alt.refl _ (fun _=>False)) (fun _ _ h=>h.elim) (fun q _ hq=>by have:=hfar q hq;show q < _;omega)⟩ hck hxp).mono ?_
    rintro e w' ⟨rfl,hp⟩
    exact ⟨_,_,rfl,rfl,rfl,hp⟩
   by_cases hfit:Fits S ⟨1,nmOf nn,x,ms⟩
   ·refine (zo7 hK hN hV (QM:=fun W cs W1=>MOk W1 cs ms∧(cs.size=59∧AllOne cs∧PM W1 (fun k=>k<W.heap.size) ms cs)∧(∀ W',Below W1.heap.size W1 W'→Calls Tryz.prog 50 #[.agg cs] W' fun e w''=>e = .returned (.int .i64 0)∧Below W'.heap.size W' w'')∧Below W.heap.size W W1)
     (Q1:=fun W cs W1 y r W2=>y=(x:Int)∧r=0∧BT W2 B g gd room (k+1) (pfC C' ⟨1,nmOf nn,x,ms⟩)∧BK B W1 W2) (Q2:=fun W2 cs2 W3 y r x2 r2 W4=>x2=(x:Int)∧r2=0∧SPost PM W3 B far gp v ps (pfC (ps.map Pe.s) ⟨1,nmOf nn,x,ms⟩) W4)
     (fun W=>(hmd.make W).mono (by rintro e w' ⟨cs,rfl,h⟩;exact ⟨cs,rfl,h⟩)) (fun W cs W1 hW hq=>?_) (fun W cs W1 h=>h.2.2.2) (fun W cs W1 y r W2 h=>h.2.2.2.kb) (fun W cs W1 y r W2 cs2 W3 hW hq h1 h2=>?_)).mono ?_
    ·refine (zs7 ((hbx.below hW).below hq.2.2.2) (by omega) hnt hx.symm hfull hq.1 hfit).mono ?_
     rintro e w' ⟨rfl,a1,a2⟩
     exact ⟨_,_,rfl,rfl,rfl,a1,a2⟩
    ·have hk2:Kb w W2:=Kb.trans (Kb.trans (.of hW) (.of hq.2.2.2)) h1.2.2.2.kb
     exact hplain W2 cs2 W3 ((Below.refl _ _).mono hk2.size) hk2.size ((hsp.kb lw.mt.st hk2).below lw.mt.st h2.2.2.2) h2.2.1 h2.2.2.1 h2.2.2.2.size
    ·rintro e w' ⟨W,cs,W1,y,r,W2,cs2,W3,x2,r2,hW,hq,⟨rfl,rfl,h1,h1k⟩,h2,⟨rfl,rfl,hp⟩,rfl⟩
     have hBW:BK B W W3:=((BK.of hq.2.2.2 (Nat.le_trans hB hW.size)).trans h1k).trans (.of h2.2.2.2 (Nat.le_trans (Nat.le_trans hB hW.size) (Nat.le_trans hq.2.2.2.size h1k.kb.size)))
     obtain ⟨far',v',ps',a1,a2,a3,a4,a5,a6,a7,a8⟩:=zde hsp hfar hB hso hW hBW hp
     have hk3:Kb w W3:=Kb.trans (.of hW) hBW.kb
     refine ⟨true,far',v',ps',by simp,a1,a3,a4,a5,a6,a7,fun _=>⟨_,(h1.below h2.2.2.2).alt a8 (fun q _ h=>znx (hsp.kb lw.mt.st hk3) q h),?_,put_iv hiv h3 hmd.m⟩,fun h=>by cases h⟩
     rw[a2]
     exact zkl hperm s2 _
   ·refine (zo7 hK hN hV (QM:=fun W cs W1=>MOk W1 cs ms∧(cs.size=59∧AllOne cs∧PM W1 (fun k=>k<W.heap.size) ms cs)∧(∀ W',Below W1.heap.size W1 W'→Calls Tryz.prog 50 #[.agg cs] W' fun e w''=>e = .returned (.int .i64 0)∧Below W'.heap.size W' w'')∧Below W.heap.size W W1)
     (Q1:=fun W cs W1 y r W2=>y=0∧r=14∧Below W1.heap.size W1 W2) (Q2:=fun W2 cs2 W3 y r x2 r2 W4=>x2=(x:Int)∧r2=0∧SPost PM W3 B far gp v ps (pfC (ps.map Pe.s) ⟨1,nmOf nn,x,ms⟩) W4)
     (fun W=>(hmd.make W).mono (by rintro e w' ⟨cs,rfl,h⟩;exact ⟨cs,rfl,h⟩)) (fun W cs W1 hW hq=>?_) (fun W cs W1 h=>h.2.2.2) (fun W cs W1 y r W2 h => .of h.2.2) (fun W cs W1 y r W2 cs2 W3 hW hq h1 h2=>?_)).mono ?_
    ·refine (put_sp ((hbx.below hW).below hq.2.2.2) (by omega) hnt hx.symm hfull hq.1 hfit).mono ?_
     rintro e w' ⟨rfl,a1⟩
     exact ⟨_,_,rfl,rfl,rfl,a1⟩
    ·have hk2:Kb w W2:=Kb.trans (Kb.trans (.of hW) (.of hq.2.2.2)) (.of h1.2.2)
     exact hplain W2 cs2 W3 ((Below.refl _ _).mono hk2.size) hk2.size ((hsp.kb lw.mt.st hk2).below lw.mt.st h2.2.2.2) h2.2.1 h2.2.2.1 h2.2.2.2.size
    ·rintro e w' ⟨W,cs,W1,y,r,W2,cs2,W3,x2,r2,hW,hq,⟨rfl,rfl,h1⟩,h2,⟨rfl,rfl,hp⟩,rfl⟩
     have hbw:Below W.heap.size W W3:=hq.2.2.2.trans ((h1.trans (h2.2.2.2.mono h1.size)).mono hq.2.2.2.size)
     obtain ⟨far',v',ps',a1,a2,a3,a4,a5,a6,a7,a8⟩:=zde hsp hfar hB hso hW (.of hbw (Nat.le_trans hB hW.size)) hp
     refine ⟨false,far',v',ps',by simp,a1,a3,a4,a5,a6,a7,(fun h=>by cases h),fun _=>⟨((hbx.below hW).below hbw).alt a8 (fun q _ h=>znx ((hspw W hW).below lw.mt.st hbw) q h),.inr (.inr ⟨by omega,by omega,by omega,h3,ms,hmd,by rw[hx];exact hfit⟩)⟩⟩
  ·refine (zo7 hK hN hV (QM:=fun W cs W1=>cs.size=59∧(∃ r:Int,r≠0∧∀ W',Below W1.heap.size W1 W'→Calls Tryz.prog 42 #[.agg cs] W' fun e w''=>e = .returned (.int .i64 r)∧Below W'.heap.size W' w'')∧(∃ r:Int,r≠0∧∀ W',Below W1.heap.size W1 W'→Calls Tryz.prog 50 #[.agg cs] W' fun e w''=>e = .returned (.int .i64 r)∧Below W'.heap.size W' w'')∧Below W.heap.size W W1)
     (Q1:=fun W cs W1 y r W2=>y=0∧r=1∧Below W1.heap.size W1 W2) (Q2:=fun W2 cs2 W3 y r x2 r2 W4=>x2=0∧r2=1∧Below W3.heap.size W3 W4)
     (fun W=>(hbad W).mono (by rintro e w' ⟨cs,rfl,h⟩;exact ⟨cs,rfl,h⟩)) (fun W cs W1 hW hq=>?_) (fun W cs W1 h=>h.2.2.2) (fun W cs W1 y r W2 h => .of h.2.2) (fun W cs W1 y r W2 cs2 W3 hW hq h1 h2=>?_)).mono ?_
   ·obtain ⟨r,hr,hck⟩:=hq.2.1
    refine (zwu g (nmOf nn) cs hq.1 W1 his hr hck).mono ?_
    rintro e w' ⟨rfl,a1⟩
    exact ⟨_,_,rfl,rfl,rfl,a1⟩
   ·obtain ⟨r,hr,hck⟩:=h2.2.2.1
    rw[hdec]
    refine (zuu gp (nmOf nn) cs2 h2.1 W3 hr hck).mono ?_
    rintro e w' ⟨rfl,a1⟩
    exact ⟨_,_,rfl,rfl,rfl,a1⟩
   ·rintro e w' ⟨W,cs,W1,y,r,W2,cs2,W3,x2,r2,hW,hq,⟨rfl,rfl,h1⟩,h2,⟨rfl,rfl,h4⟩,rfl⟩
    have hbw:Below w.heap.size w w':=hW.trans ((hq.2.2.2.trans ((h1.trans ((h2.2.2.2.trans (h4.mono h2.2.2.2.size)).mono h1.size)).mono hq.2.2.2.size)).mono hW.size)
    exact ⟨true,far,v,ps,by simp,hspw _ hbw,fun _ h=>h,fun _ h => .inl h,fun _ h => .inl h,alt_of_below hbw,hbw.mono hB,fun _=>⟨C',(hbx.below hbw).bt.more,hperm,hiv⟩,fun h=>by cases h⟩
 ·obtain rfl:nn=3:=by omega
  have hmk:∀ W,Calls Tryz.prog 21 #[.int .i64 aM] W fun e w'=>∃ cs,e = .returned (.agg cs)∧Below W.heap.size W w':=fun W=>by
   rcases lw.md aM with ⟨ms,hmd⟩|hbad
   ·refine (hmd.make W).mono ?_
    rintro e w' ⟨cs,rfl,_,_,_,hb⟩
    exact ⟨cs,rfl,hb⟩
   ·refine (hbad W).mono ?_
    rintro e w' ⟨cs,rfl,_,_,_,hb⟩
    exact ⟨cs,rfl,hb⟩
  refine (zo7 hK hN hV (QM:=fun W cs W1=>Below W.heap.size W W1) (Q1:=fun W cs W1 y r W2=>y=0∧r=11∧Below W1.heap.size W1 W2) (Q2:=fun W2 cs2 W3 y r x2 r2 W4=>x2=0∧r2=11∧Below W3.heap.size W3 W4)
     hmk (fun W cs W1 hW hq=>?_) (fun W cs W1 h=>h) (fun W cs W1 y r W2 h => .of h.2.2) (fun W cs W1 y r W2 cs2 W3 hW hq h1 h2=>?_)).mono ?_
  ·refine (put_no g nm1 cs W1 lw.no).mono ?_
   rintro e w' ⟨rfl,a1⟩
   exact ⟨_,_,rfl,rfl,rfl,a1⟩
  ·have hdec:decide (((3:Nat):Int)<3)=false:=by decide
   rw[hdec]
   refine (zwq gp (nmOf 3) cs2 W3).mono ?_
   rintro e w' ⟨rfl,a1⟩
   exact ⟨_,_,rfl,rfl,rfl,a1⟩
  ·rintro e w' ⟨W,cs,W1,y,r,W2,cs2,W3,x2,r2,hW,hq,⟨rfl,rfl,h1⟩,h2,⟨rfl,rfl,h4⟩,rfl⟩
   have hbw:Below w.heap.size w w':=hW.trans ((Below.trans hq ((h1.trans ((Below.trans h2 (h4.mono h2.size)).mono h1.size)).mono hq.size)).mono hW.size)
   exact ⟨true,far,v,ps,by simp,hspw _ hbw,fun _ h=>h,fun _ h => .inl h,fun _ h => .inl h,alt_of_below hbw,hbw.mono hB,fun _=>⟨C',(hbx.below hbw).bt.more,hperm,hiv⟩,fun h=>by cases h⟩
theorem rl_do (hbx:BX w B g gd room k C' ks ns bm A c S f L)(hk:k≤19)(hsp:SP PM w B far gp v ps)(hiv:Iv M C')(hperm:(ps.map Pe.s).Perm C')(hfar:∀ q,far q→q<w.heap.size)(hso:∀ q,So gp v ps q→B≤q)(hN:aN % 4=(nn:Int))(hV:aV % 6=(vv:Int)) :
  Calls Tryz.prog 7 #[.pointer (some ⟨g,0,none⟩),.pointer (some ⟨gp,0,none⟩),actV aK aN aV aM] w (DoP PM M w B g gd room k C' ks ns bm A c S f L far gp v ps (aK % 7) nn vv aM):=by
 have h0:=Int.emod_nonneg aK (show (7:Int)≠0 by omega)
 have h1:=Int.emod_lt_of_pos aK (show (0:Int)<7 by omega)
 rcases (show aK % 7=4∨aK % 7=5∨aK % 7=6∨(aK % 7=0∨aK % 7=1∨aK % 7=2∨aK % 7=3) by omega) with h|h|h|h
 ·exact zu2 lw hbx (by omega) hsp hiv hperm hfar hso h hN hV
 ·exact zwx lw hbx (by omega) hsp hiv hperm hfar hso h hN hV
 ·exact zwy lw hbx (by omega) hsp hiv hperm hfar hso h hN hV
 ·exact rl_put lw hbx hk hsp hiv hperm hfar hso h hN hV
end
def Rk (PM:PMod)(M:List Int→Prop)(w:World)(B g gd room k gp:Nat):Prop :=
 ∃ (C':Con) (far:Nat→Prop) (v:Value) (ps:List Pe),BT w B g gd room k C'∧SP PM w B far gp v ps∧Iv M C'∧(ps.map Pe.s).Perm C'∧(∀ q,far q→q<w.heap.size)∧(∀ q,So gp v ps q→B≤q)
theorem Rk.below {PM:PMod}{M:List Int→Prop}(hst:Stays PM){w w':World}{B g gd room k gp:Nat}(h:Rk PM M w B g gd room k gp)(hb:Below w.heap.size w w'):Rk PM M w' B g gd room k gp:=by
 obtain ⟨C',far,v,ps,h1,h2,h3,h4,h5,h6⟩:=h
 exact ⟨C',far,v,ps,h1.below hb,h2.below hst hb,h3,h4,fun q hq=>Nat.lt_of_lt_of_le (h5 q hq) hb.size,h6⟩
theorem Rk.shelf {PM:PMod}{M:List Int→Prop}{w:World}{B g gd room k gp:Nat}(h:Rk PM M w B g gd room k gp):∃ A n c,Blk w gp 32 #[.slice A n c]:=by
 obtain ⟨C',far,v,ps,h1,h2,h3,h4,h5,h6⟩:=h
 obtain ⟨A,c,rfl⟩:=zcp h2.ps
 exact ⟨A,ps.length,c,h2.pt⟩
theorem zfr {k:Nat}{S:St}{n:Nt}{room:Nat}(hn:NtOk n)(hl:S.xs.length≤k*20000)(hr:S.room=room)(hroom:(k+1)*20000≤room):Fits S n:=by
 have:=(zkj hn).1
 unfold Fits
 omega
section
variable {PM:PMod}{PR:Nat→World→List Int→Array Value→Prop}{M:List Int→Prop}(lw:LawH PM PR M){w:World}{B g gd room k gp:Nat}{aK aN aV aM:Int}
include lw
theorem do_rk (h:Rk PM M w B g gd room k gp)(hk:k≤19)(hroom:(k+1)*20000≤room) :
  Calls Tryz.prog 7 #[.pointer (some ⟨g,0,none⟩),.pointer (some ⟨gp,0,none⟩),actV aK aN aV aM] w fun e w'=>e = .returned (.bool true)∧Rk PM M w' B g gd room (k+1) gp∧Below B w w'∧(∀ G t cs,Blk w G t cs→t≠5→t≠47→t≠44→t≠154→t≠32→t≠103→t≠3→t≠97→Blk w' G t cs):=by
 obtain ⟨C',far,v,ps,h1,h2,h3,h4,h5,h6⟩:=h
 have hwk:=h1.wk
 obtain ⟨ks,ns,bm,A,c,S,f,L,hbx⟩:=h1
 obtain ⟨nn,hN⟩:∃ nn:Nat,aN % 4=(nn:Int):=⟨(aN % 4).toNat,by have:=Int.emod_nonneg aN (show (4:Int)≠0 by omega);omega⟩
 obtain ⟨vv,hV⟩:∃ vv:Nat,aV % 6=(vv:Int):=⟨(aV % 6).toNat,by have:=Int.emod_nonneg aV (show (6:Int)≠0 by omega);omega⟩
 have hv6:vv<6:=by have:=Int.emod_lt_of_pos aV (show (0:Int)<6 by omega);omega
 have hB:B≤w.heap.size:=hbx.1.bw.b0l
 have hxl:S.xs.length≤k*20000:=hbx.2.2.2.2.2.2.2.2.2
 have hrm:S.room=room:=hbx.2.2.1
 refine (rl_do lw hbx hk h2 h3 h4 h5 h6 hN hV (aK:=aK) (aM:=aM)).mono ?_
 rintro e w' ⟨r,far',v',ps',rfl,a1,a2,a3,a4,a5,a6,a7,a8⟩
 have hr:r=true:=by
  cases r with
  |true=>rfl
  |false =>
   exfalso
   obtain ⟨_,hno⟩:=a8 rfl
   rcases hno with ⟨_,hn,_,hf⟩|⟨_,hn,_,hf⟩|⟨_,_,_,hn,ms,hmd,hf⟩
   ·exact hf (zfr (zf9 hn (.inr (.inl rfl)) (by omega) (lw.is nn hn) (fun h=>by cases h)) hxl hrm hroom)
   ·exact hf (zfr (zf9 hn (.inr (.inr rfl)) (by omega) (lw.is nn hn) (fun h=>by cases h)) hxl hrm hroom)
   ·exact hf (zfr (zf9 hn (.inl rfl) (by have:=zte hwk (nmOf nn);omega) (lw.is nn hn) (fun _=>hmd.b)) hxl hrm hroom)
 subst hr
 obtain ⟨C'',b1,b2,b3⟩:=a7 rfl
 refine ⟨rfl,⟨C'',far',v',ps',b1,a1,b3,b2,fun q hq=>?_,fun q hq=>?_⟩,a6,fun G t cs hG t1 t2 t3 t4 t5 t6 t7 t8=>hG.kept a5 ?_⟩
 ·rcases a3 q hq with h|h
  ·exact Nat.lt_of_lt_of_le (h5 q h) a5.size
  ·exact h.2
 ·rcases a4 q hq with h|h
  ·exact h6 q h
  ·exact Nat.le_trans hB h
 ·rintro (h|h)
  ·rcases h with h|h|⟨p,hp,h|h⟩
   ·exact Blk.ne_ hG h2.pt t5 h
   ·exact zas h2.ps.row hG (fun e=>t6 e.symm) h
   ·exact zas (h2.ps.each p hp).vr hG (fun e=>t7 e.symm) h
   ·exact zas (h2.ps.each p hp).mr hG (fun e=>t8 e.symm) h
  ·exact zeh hG t1 t2 t3 t4 h
theorem zo9 (h:Rk PM M w B g gd room k gp)(hk:k≤100){A:Option Addr}{n c:Nat}(hb:Blk w gp 32 #[.slice A n c]) :
  Calls Tryz.prog 10 #[.pointer (some ⟨g,0,none⟩),.agg #[.slice A n c]] w fun e w'=>e = .returned (.bool true)∧Below w.heap.size w w':=by
 obtain ⟨C',far,v,ps,h1,h2,h3,h4,h5,h6⟩:=h
 have hv:v = .slice A n c:=by
  have h7:=h2.pt
  unfold Blk at h7 hb
  rw[h7] at hb
  injection hb with hb
  injection hb with hb
  injection hb with hb
  injection hb with hb
 subst hv
 have hks:∀ s∈C',KsOk s:=by
  obtain ⟨ks,ns,bm,A,c,S,f,L,hbx⟩:=h1
  exact hbx.2.2.2.2.2.2.2.2.1
 obtain ⟨s1,s2,s3,s4⟩:=zg7 h1.wk (by omega) hks h4
 have h3':=h3.perm h4.symm
 exact zs5 lw.mt h1 hk h2.ps s1 rfl h4 h3'.kn h3'.nm
end
theorem new_rk {PM:PMod}{M:List Int→Prop}{w:World}{B g gd room:Nat}(h:BT w B g gd room 0 [])(hB:B≤w.heap.size):Rk PM M (w.alloc (.cells #[.slice none 0 0] 32)) B g gd room 0 w.heap.size:=by
 refine ⟨[],fun k=>k=w.heap.size,.slice none 0 0,[],h.below (Below.new1 w _),⟨Blk.new w _ _,⟨World.ownsRow_nil _ _ _ _,(fun p hp=>by cases hp),List.Pairwise.nil,(fun k hk=>by cases hk),fun p hp=>by cases hp⟩,hB,rfl⟩,⟨(fun s hs=>by cases hs),fun s hs=>by cases hs⟩,.refl _,fun q hq=>?_,?_⟩
 ·rw[hq,World.size_alloc];omega
 ·rintro q (h|h|⟨p,hp,_⟩)
  ·rw[h];exact hB
  ·cases h
  ·cases hp
theorem ztf (m1:List Int):nextC [⟨nmA,2,1,[(1,m1)]⟩] nmA=2:=by
 unfold nextC fndC
 rw[List.find?_cons,show decide ((⟨nmA,2,1,[(1,m1)]⟩:Sh).name=nmA)=true from decide_eq_true rfl]
theorem ztg (m1:List Int):fullC [⟨nmA,2,1,[(1,m1)]⟩] nmA=false:=by
 unfold fullC numC fndC
 rw[List.find?_cons,show decide ((⟨nmA,2,1,[(1,m1)]⟩:Sh).name=nmA)=true from decide_eq_true rfl,List.filter_cons,show othC nmA ⟨nmA,2,1,[(1,m1)]⟩=false from by unfold othC;simp]
 rfl
theorem zw0 (m1 m3:List Int):pfC [⟨nmA,2,1,[(1,m1)]⟩] ⟨1,nmA,2,m3⟩=[⟨nmA,3,1,[(1,m1),(2,m3)]⟩]:=by
 unfold pfC fndC
 rw[if_pos rfl,List.find?_cons,show decide ((⟨nmA,2,1,[(1,m1)]⟩:Sh).name=nmA)=true from decide_eq_true rfl]
 show List.map (fun s:Sh=>if s.name=nmA then putS ⟨nmA,2,1,[(1,m1)]⟩ 2 m3 else s) [⟨nmA,2,1,[(1,m1)]⟩]=_
 rw[List.map_cons,if_pos rfl]
 rfl
theorem zpa (m1 m3:List Int):refC [⟨nmA,3,1,[(1,m1),(2,m3)]⟩] 3 nmA 1=17:=by
 unfold refC fndC
 rw[List.find?_cons,show decide ((⟨nmA,3,1,[(1,m1),(2,m3)]⟩:Sh).name=nmA)=true from decide_eq_true rfl]
 rfl
theorem know_of {PM:PMod}{M:List Int→Prop}(his:IsOk nmA){m1 m3:List Int}(h1:MdlOk PM M 1 m1)(h3:MdlOk PM M 3 m3)(w:World) :
  Calls Tryz.prog 11 #[] w fun e w'=>e = .returned (.bool true)∧Below w.heap.size w w':=by
 have HIS:=hid his
 have H1:=hid h1
 have H3:=hid h3
 clear his h1 h3
 go_enter Tryz.func11,Tryz.ntmps11
 go_upto_region 4 with (first
  |(go_at_call 5;refine (zvk w 100000 (by decide)).mono ?_;rintro e w1 ⟨rfl,hd1,hb1⟩;have HD1:=hid hd1;have HB1:=hid hb1;clear hd1 hb1)
  |(go_at_call 6;refine (znp HD1.out).mono ?_;rintro e w2 ⟨g,C0,rfl,hp2,hs2,hb2⟩;have HS2:=hid (List.nil_perm.1 hp2 ▸ hs2);have HB2:=hid (HB1.out.trans (hb2.mono HB1.out.size));clear hp2 hs2 hb2))
 obtain ⟨ks,ns,bm,A,c,S,f,L,hbx⟩:=HS2.out
 have HBX:Hid (BX w2 w.heap.size g w.heap.size 100000 0 [] ks ns bm A c S f L):=hid hbx
 have HF:Hid (Fits S ⟨1,nmA,1,m1⟩):=hid (zfr (k:=0) (zf9 (kind:=1) (nn:=0) (by decide) (.inl rfl) (by decide) HIS.out (fun _=>H1.out.b)) hbx.2.2.2.2.2.2.2.2.2 hbx.2.2.1 (by decide))
 clear hbx
 go_upto_region 5 with (first
  |(go_at_call 21;refine (H1.out.make _).mono ?_;rintro e w3 ⟨cs,rfl,hm,_,_,hb3⟩;have HM:=hid hm;have HBX3:Hid (BX w3 w.heap.size g w.heap.size 100000 0 [] ks ns bm A c S f L):=hid (BX.below HBX.out hb3);have HB3:=hid (HB2.out.trans (hb3.mono HB2.out.size));clear hm hb3)
  |(go_at_call 20;refine (zs7 (name:=nmA) (v:=1) HBX3.out (by decide) (zf9 (kind:=1) (nn:=0) (by decide) (.inl rfl) (by decide) HIS.out (fun _=>H1.out.b)) rfl rfl HM.out HF.out).mono ?_;rintro e w4 ⟨rfl,hs4,hb4⟩;have HS4:=hid hs4;have HB4:=hid (HB3.out.trans hb4.bel);clear hs4 hb4))
 obtain ⟨ks4,ns4,bm4,A4,c4,S4,f4,L4,hbx⟩:=HS4.out
 have HBX4:Hid (BX w4 w.heap.size g w.heap.size 100000 1 [⟨nmA,2,1,[(1,m1)]⟩] ks4 ns4 bm4 A4 c4 S4 f4 L4):=hid hbx
 have HF4:Hid (Fits S4 ⟨1,nmA,2,m3⟩):=hid (zfr (k:=1) (zf9 (kind:=1) (nn:=0) (by decide) (.inl rfl) (by decide) HIS.out (fun _=>H3.out.b)) hbx.2.2.2.2.2.2.2.2.2 hbx.2.2.1 (by decide))
 clear hbx
 go_upto_region 6 with (first
  |(go_at_call 21;refine (H3.out.make _).mono ?_;rintro e w5 ⟨cs5,rfl,hm,_,_,hb5⟩;have HM5:=hid hm;have HBX5:Hid (BX w5 w.heap.size g w.heap.size 100000 1 [⟨nmA,2,1,[(1,m1)]⟩] ks4 ns4 bm4 A4 c4 S4 f4 L4):=hid (BX.below HBX4.out hb5);have HB5:=hid (HB4.out.trans (hb5.mono HB4.out.size));clear hm hb5)
  |(go_at_call 20;refine (zs7 (name:=nmA) (v:=2) HBX5.out (by decide) (zf9 (kind:=1) (nn:=0) (by decide) (.inl rfl) (by decide) HIS.out (fun _=>H3.out.b)) (ztf m1).symm (ztg m1) HM5.out HF4.out).mono ?_;rintro e w6 ⟨rfl,hs6,hb6⟩;have HS6:=hid hs6;have HB6:=hid (HB5.out.trans hb6.bel);clear hs6 hb6))
 obtain ⟨ks6,ns6,bm6,A6,c6,S6,f6,L6,hbx⟩:=HS6.out
 have HDR:Hid (Calls Tryz.prog 17 #[.pointer (some ⟨g,0,none⟩),.string nmA,.int .i64 ((1:Nat):Int)] w6 fun e w'=>∃ r,e = .returned (.int .i64 r)∧r=17∧Below w.heap.size w6 w'):=hid (znw (P:=fun r w'=>r=17∧Below w.heap.size w6 w') ((zif (n:=⟨3,nmA,1,[]⟩) (show BX w6 w.heap.size g w.heap.size 100000 2 [⟨nmA,3,1,[(1,m1),(2,m3)]⟩] ks6 ns6 bm6 A6 c6 S6 f6 L6 from zw0 m1 m3 ▸ hbx) (by decide) (zf9 (kind:=3) (nn:=0) (by decide) (.inr (.inr rfl)) (by decide) HIS.out (fun h=>by cases h)) (.inr rfl) (fun h=>by rw[zpa] at h;cases h)).mono (by
  rintro e w' ⟨rfl,_,hb⟩
  exact ⟨17,by rw[zpa],rfl,hb.bel⟩)))
 clear hbx
 go_wp2_with (first
  |(go_at_call 17;refine HDR.out.mono ?_;rintro e w7 ⟨r,rfl,rfl,hb7⟩;have HB7:=hid (HB6.out.trans hb7);clear hb7))
 go_ret
 exact ⟨rfl,HB7.out⟩
theorem zw1 (ad:Addr)(a b:Nat):(ad.add a).add b=ad.add (a+b):=by
 unfold Addr.add
 by_cases ha:a=0 <;> by_cases hb:b=0 <;> simp[ha,hb] <;> omega
theorem zin {P:Program}(w:World)(a:Addr)(ty:TypeId)(cs:Array Value)(d:TypeDesc)(hc:∀ j u,cs.toList[j]? = some u→w.cell? (a.add j)=some u)
  (hu:P.underlying ty=some d) (hd:(match d with | .struct _ | .array _ _=>true|_=>false)=true) (hi:(P.info? ty).map (·.size)=some cs.size) :
  (loadVar ty a).run P w = .ok (.agg cs) w:=by
 have hl:(loadCells a cs.toList.length).run P w = .ok cs.toList.toArray w:=run_loadCells_list (P:=P) w a cs.toList hc
 cases hq:P.info? ty with
 |none=>simp[hq] at hi
 |some i =>
  have hs:i.size=cs.size:=by simpa [hq] using hi
  have hagg:(isAgg ty).run P w = .ok true w:=by
   unfold isAgg
   rw[Sem.run_bind,run_underlying hu w]
   cases d <;> simp_all
  simp only[Array.length_toList,Array.toArray_toList] at hl
  simp[loadVar,Sem.run_bind,hagg,sizeOf,typeInfo,hq,hs,hl]
theorem zen {ops:Array Oper}{o:Oper}{a:Act}{Q:Exit→Act→World→Prop}{rest:List Oper}(w:World)(hgd:Region.wanted o (yielded ops a.tmps)=true)(t:TypeId)(p:Operand)(ho:o.op = .load t p)(ad:Addr)(cs:Array Value)(d:TypeDesc)(hp:a.eval p = .pointer (some ad))
  (hc:∀ j u,cs.toList[j]? = some u→w.cell? (ad.add j)=some u) (hu:Tryz.prog.underlying t=some d) (hd:(match d with | .struct _ | .array _ _=>true|_=>false)=true) (hi:(Tryz.prog.info? t).map (·.size)=some cs.size)
  (hK:wpList Tryz.prog ops Q rest (a.put o.dst (.agg cs)) w):wpList Tryz.prog ops Q (o :: rest) a w:=by
 have hrun:=zin (P:=Tryz.prog) w ad t cs d hc hu (by cases d <;> first|rfl|cases hd) hi
 refine wpList_step fun K' hK'=>?_
 rw[if_pos hgd]
 unfold Oper.wp
 simp[execOp,ho,hp,Instr.loadAt,Instr.sureAddr,hrun,Result.andThen]
 exact hK' _ _ hK
theorem zth:(Tryz.prog.info? 36).map (·.size)=some 4:=by kernel_rfl
theorem zfl {w:World}{ad:Addr}{i:Nat}{a b c d:Int}(h0:w.cell? (ad.add (i*4))=some (.int .i64 a))(h1:w.cell? (ad.add (i*4+1))=some (.int .i64 b))(h2:w.cell? (ad.add (i*4+2))=some (.int .i64 c))(h3:w.cell? (ad.add (i*4+3))=some (.int .i64 d)) :
  ∀ j u,(#[Value.int .i64 a,.int .i64 b,.int .i64 c,.int .i64 d]:Array Value).toList[j]? = some u→w.cell? ((ad.add (i*4)).add j)=some u:=by
 intro j u hu
 rw[zw1]
 match j,hu with
 | 0,hu=>injection hu with hu;rw[← hu];exact h0
 | 1,hu=>injection hu with hu;rw[← hu];exact h1
 | 2,hu=>injection hu with hu;rw[← hu];exact h2
 | 3,hu=>injection hu with hu;rw[← hu];exact h3
section
variable {PM:PMod}{PR:Nat→World→List Int→Array Value→Prop}{M:List Int→Prop}
end
def Rd (PM:PMod)(M:List Int→Prop)(w:World)(B gd room k gp:Nat):Prop :=
 ∃ (C':Con) (far:Nat→Prop) (v:Value) (ps:List Pe),DT w B gd room k C'∧SP PM w B far gp v ps∧Iv M C'∧(ps.map Pe.s).Perm C'∧(∀ q,far q→q<w.heap.size)∧(∀ q,So gp v ps q→B≤q)
theorem Rk.rd {PM:PMod}{M:List Int→Prop}{w:World}{B g gd room k gp:Nat}(h:Rk PM M w B g gd room k gp):Rd PM M w B gd room k gp:=by
 obtain ⟨C',far,v,ps,h1,h2⟩:=h
 exact ⟨C',far,v,ps,h1.dt,h2⟩
theorem zu3 {PM:PMod}{M:List Int→Prop}(hst:Stays PM){w:World}{B gd room k gp:Nat}(h:Rd PM M w B gd room k gp)(n:Int)(h0 : -9223372036854775808≤n)(h1:n≤9223372036854775807) :
  Calls Tryz.prog 8 #[.pointer (some ⟨gd,0,none⟩),.int .i64 n] w fun e w'=>e = .returned (.tuple #[])∧Rd PM M w' B gd room k gp∧BK B w w':=by
 obtain ⟨C',far,v,ps,a1,a2,a3,a4,a5,a6⟩:=h
 refine (zun a1 n h0 h1).mono ?_
 rintro e w' ⟨rfl,hd,hb⟩
 exact ⟨rfl,⟨C',far,v,ps,hd,a2.kb hst hb.kb,a3,a4,fun q hq=>Nat.lt_of_lt_of_le (a5 q hq) hb.kb.size,a6⟩,hb⟩
theorem zw2 {PM:PMod}{M:List Int→Prop}(hst:Stays PM){w:World}{B gd room k gp:Nat}(h:Rd PM M w B gd room k gp) :
  Calls Tryz.prog 6 #[.pointer (some ⟨gd,0,none⟩)] w fun e w'=>∃ g,e = .returned (.tuple #[.pointer (some ⟨g,0,none⟩),.int .i64 0])∧Rk PM M w' B g gd room k gp∧Below w.heap.size w w':=by
 obtain ⟨C',far,v,ps,a1,a2,a3,a4,a5,a6⟩:=h
 refine (znp a1).mono ?_
 rintro e w' ⟨g,C'',rfl,hp,hs,hb⟩
 exact ⟨g,rfl,⟨C'',far,v,ps,hs,a2.below hst hb,a3.perm hp,a4.trans hp,fun q hq=>Nat.lt_of_lt_of_le (a5 q hq) hb.size,a6⟩,hb⟩
section
variable {PM:PMod}{PR:Nat→World→List Int→Array Value→Prop}{M:List Int→Prop}
theorem opens_walk (lw:LawH PM PR M)(L:Option Addr)(n cl:Nat)(L2:Option Addr)(n2 cl2:Nat)(keep:Int)(fall:Bool)(w:World)(hL:Acts w L n)(hn:n≤cl)(hn2:n≤9223372036854775807)(hLn:L=none→n=0)(hL2:Acts w L2 n2)(h2n:n2≤cl2)(h2n2:n2≤9223372036854775807)(hLn2:L2=none→n2=0) :
  Calls Tryz.prog 3 #[.slice L n cl,.slice L2 n2 cl2,.int .i64 keep,.bool fall] w fun e w'=>e = .returned (.bool true)∧Below w.heap.size w w':=by
 have HL:=hid hL
 have HLN:=hid hLn
 have HL2:=hid hL2
 have HLN2:=hid hLn2
 have HLW:=hid lw
 clear hL hLn lw hL2 hLn2
 obtain ⟨m,hm⟩:∃ m,m=min n 9:=⟨_,rfl⟩
 have HM:=hid hm
 have hm9:m≤9:=by omega
 have hmn:m≤n:=by omega
 obtain ⟨m2,hm2⟩:∃ m2,m2=min n2 5:=⟨_,rfl⟩
 have HM2:=hid hm2
 have hm5:m2≤5:=by omega
 have hmn2:m2≤n2:=by omega
 clear hm hm2
 go_enter Tryz.func3,Tryz.ntmps3
 go_wp2_with (first
  |(go_at_call 4;have _:=FIRST1;refine (zsd L2 n2 cl2 5 w h2n h2n2 HLN2.out (by omega)).mono ?_;rintro e w' ⟨rfl,hw⟩;rw[hw, ← HM2.out];clear hw)
  |(go_at_call 4;refine (zsd L n cl 9 w hn hn2 HLN.out (by omega)).mono ?_;rintro e w' ⟨rfl,hw⟩;rw[hw, ← HM.out];have FIRST1:=True.intro;clear hw)
  |(go_at_call 5;refine (zvk w 4194304 (Nat.le_refl _)).mono ?_;rintro e w1 ⟨rfl,hd1,hb1⟩;have HD1:=hid hd1;have HB1:=hid hb1;clear hd1 hb1)
  |(go_at_call 6;refine (znp HD1.out).mono ?_;rintro e w2 ⟨g,C0,rfl,hp2,hs2,hb2⟩;have HP2:=hid hp2;have HS2:=hid hs2;have HB2:=hid (HB1.out.trans (hb2.mono HB1.out.size));clear hp2 hs2 hb2))
 have HG:Hid (Rk PM M (w2.alloc (.cells #[.slice none 0 0] 32)) w.heap.size g w.heap.size 4194304 0 w2.heap.size):=hid (by
  have h1:=HP2.out
  have h2:=HS2.out
  rw[List.nil_perm.1 h1] at h2
  exact new_rk h2 HB2.out.size)
 have HB3:Hid (Below w.heap.size w (w2.alloc (.cells #[.slice none 0 0] 32))):=hid (HB2.out.alloc HB2.out.size _)
 generalize w2.alloc (.cells #[.slice none 0 0] 32)=W3 at HG HB3 ⊢
 generalize w2.heap.size=gp at HG ⊢
 go_loopw [13] (fun v6 wz=>∃ i:Nat,i≤m∧v6 = .int .i64 (i:Int)∧Hid (Rk PM M wz w.heap.size g w.heap.size 4194304 i gp)∧Hid (Below w.heap.size w wz)) (fun v6 _=>m - (intOf v6).toNat)
 case atStart=>exact ⟨0,Nat.zero_le _,rfl,HG,HB3⟩
 case round =>
  obtain ⟨i,hi,rfl,hrk,hbe⟩:=hrel
  by_cases hlt:i<m
  ·obtain ⟨ad,rfl,hab,hc⟩:=HL.out (by omega)
   obtain ⟨aK,aN,aV,aM,h0,h1,h2,h3⟩:=hc i (by omega)
   have g0:=(hbe.out.cell (p:=ad.add (i*4)) (by rw[zay];exact hab)).trans h0
   have g1:=(hbe.out.cell (p:=ad.add (i*4+1)) (by rw[zay];exact hab)).trans h1
   have g2:=(hbe.out.cell (p:=ad.add (i*4+2)) (by rw[zay];exact hab)).trans h2
   have g3:=(hbe.out.cell (p:=ad.add (i*4+3)) (by rw[zay];exact hab)).trans h3
   have HAC:=hid (zfl g0 g1 g2 g3)
   have hlt':(i:Int)<(m:Int):=by omega
   clear hc h0 h1 h2 h3 g0 g1 g2 g3
   go_wp2_with (first
    |(refine zen _ rfl 36 _ rfl (ad.add (i*4)) #[.int .i64 aK,.int .i64 aN,.int .i64 aV,.int .i64 aM] _ rfl (by exact HAC.out) Tryz.underlying36 rfl zth ?_)
    |(go_at_call 7;refine (do_rk HLW.out hrk.out (by omega) (by omega)).mono ?_;rintro e w4 ⟨rfl,hr4,hb4,_⟩;have HR4:=hid hr4;have HB4:=hid (hbe.out.trans hb4);clear hr4 hb4))
   go_roundw
   case rel=>exact ⟨i+1,by omega,by go_num,HR4,HB4⟩
   case measure=>simp[intOf];omega
  ·have HRD:=hid hrk.out.rd
   go_upto_if 46 with fail
   go_cut [14] from 17 to 38 (fun v14 wx=>Hid (Rd PM M wx w.heap.size w.heap.size 4194304 i gp∧Below w.heap.size w wx))
   case first =>
    have hk0:=Int.emod_nonneg keep (show (99:Int)≠0 by omega)
    have hk1:=Int.emod_lt_of_pos keep (show (0:Int)<99 by omega)
    obtain ⟨kq,HKQ⟩:∃ kq,Hid (keep % 99=kq):=⟨_,hid rfl⟩
    rw[HKQ.out] at hk0 hk1
    cases fall with
    |true =>
     go_wp2_with (first
      |(go_at_call 9;refine (pick_any _ _ _ (by omega) (by omega)).mono ?_;rintro e w' ⟨rfl,hw⟩;rw[← hw,HKQ.out];clear hw)
      |(go_at_call 8;refine (zu3 HLW.out.mt.st HRD.out kq (by omega) (by omega)).mono ?_;rintro e w4 ⟨rfl,hd4,hb4⟩;have HD4:=hid hd4;have HB4:=hid (hbe.out.trans hb4.bel);clear hd4 hb4))
     go_meet
     exact hid ⟨HD4.out,HB4.out⟩
    |false =>
     go_wp2
     go_meet
     exact hid ⟨HRD.out,hbe.out⟩
   case rest =>
    have HRC:=hid hcut.out.1
    have HBC:=hid hcut.out.2
    clear hcut hrk hbe HRD
    go_upto_region 15 with (go_at_call 6;refine (zw2 HLW.out.mt.st HRC.out).mono ?_;rintro e w5 ⟨g2,rfl,hr5,hb5⟩;have HR5:=hid hr5;have HB5:=hid (HBC.out.trans (hb5.mono HBC.out.size));clear hr5 hb5)
    obtain ⟨A5,n5,c5,hbk5⟩:=HR5.out.shelf
    have HK5:=hid hbk5
    have x0:w5.cell? ⟨gp,0,none⟩=some (.slice A5 n5 c5):=hbk5.cell 0
    clear hbk5
    go_upto_region 17 with (go_at_call 10;refine (zo9 HLW.out HR5.out (by omega) HK5.out).mono ?_;rintro e w6 ⟨rfl,hb6⟩;have HR6:=hid (HR5.out.below HLW.out.mt.st hb6);have HB6:=hid (HB5.out.trans (hb6.mono HB5.out.size));clear hb6)
    clear x0 HK5
    have him:i≤9:=by omega
    go_wp2
    go_loopw [16] (fun v6 wz=>∃ i2:Nat,i2≤m2∧v6 = .int .i64 (i2:Int)∧Hid (Rk PM M wz w.heap.size g2 w.heap.size 4194304 (i+i2) gp)∧Hid (Below w.heap.size w wz)) (fun v6 _=>m2 - (intOf v6).toNat)
    case atStart=>exact ⟨0,Nat.zero_le _,rfl,HR6,HB6⟩
    case round =>
     obtain ⟨i2,hi2,rfl,hrk,hbe⟩:=hrel
     by_cases hlt2:i2<m2
     ·obtain ⟨ad,rfl,hab,hc⟩:=HL2.out (by omega)
      obtain ⟨aK,aN,aV,aM,h0,h1,h2,h3⟩:=hc i2 (by omega)
      have g0:=(hbe.out.cell (p:=ad.add (i2*4)) (by rw[zay];exact hab)).trans h0
      have g1:=(hbe.out.cell (p:=ad.add (i2*4+1)) (by rw[zay];exact hab)).trans h1
      have g2':=(hbe.out.cell (p:=ad.add (i2*4+2)) (by rw[zay];exact hab)).trans h2
      have g3:=(hbe.out.cell (p:=ad.add (i2*4+3)) (by rw[zay];exact hab)).trans h3
      have HAC:=hid (zfl g0 g1 g2' g3)
      have hlt':(i2:Int)<(m2:Int):=by omega
      clear hc h0 h1 h2 h3 g0 g1 g2' g3
      go_wp2_with (first
       |(refine zen _ rfl 36 _ rfl (ad.add (i2*4)) #[.int .i64 aK,.int .i64 aN,.int .i64 aV,.int .i64 aM] _ rfl (by exact HAC.out) Tryz.underlying36 rfl zth ?_)
       |(go_at_call 7;refine (do_rk HLW.out hrk.out (by omega) (by omega)).mono ?_;rintro e w7 ⟨rfl,hr7,hb7,_⟩;have HR7:=hid hr7;have HB7:=hid (hbe.out.trans hb7);clear hr7 hb7))
      go_roundw
      case rel=>exact ⟨i2+1,by omega,by go_num,HR7,HB7⟩
      case measure=>simp[intOf];omega
     ·obtain ⟨A5,n5,c5,hbk5⟩:=hrk.out.shelf
      go_wp2_with (first
       |(go_at_call 11;refine (HLW.out.know wr).mono ?_;rintro e w7 ⟨rfl,hb7⟩;have HR7:=hid (hrk.out.below HLW.out.mt.st hb7);have HB7:=hid (hbe.out.trans (hb7.mono hbe.out.size));have HK7:=hid (zac hbk5 hb7);have x0:w7.cell? ⟨gp,0,none⟩=some (.slice A5 n5 c5):=(zac hbk5 hb7).cell 0;clear hb7)
       |(go_at_call 10;refine (zo9 HLW.out HR7.out (by omega) HK7.out).mono ?_;rintro e w8 ⟨rfl,hb8⟩;have HB8:=hid (HB7.out.trans (hb8.mono HB7.out.size));clear hb8))
      go_ret
      exact ⟨rfl,HB8.out⟩
end
end Go.Proofs.YtildihjjocedmaaGreatDoor.Oc
