/- do, within what a book and a plain shelf keep. -/
import Derived.Test.YtmejdkniafjncaaGreatDoorNm
set_option maxHeartbeats 4000000
set_option maxRecDepth 100000
namespace Go.Proofs.YtmejdkniafjncaaGreatDoor.Oc
open Go Go.RowKit Dk
def NoFit (PM:PMod)(M:List Int→Prop)(kk:Int)(nn vv:Nat)(aM:Int)(C':Con)(S:St):Prop :=
 (kk=4∧nn<3∧refC C' 2 (nmOf nn) vv=0∧¬ Fits S ⟨2,nmOf nn,vv,[]⟩)∨(kk=5∧nn<3∧refC C' 3 (nmOf nn) vv=0∧¬ Fits S ⟨3,nmOf nn,vv,[]⟩) ∨
 (kk≠4∧kk≠5∧kk≠6∧nn<3∧∃ ms,MdlOk PM M aM ms∧¬ Fits S ⟨1,nmOf nn,nextC C' (nmOf nn),ms⟩)
def DoP (PM:PMod)(M:List Int→Prop)(w:World)(B g gd room k:Nat)(C':Con)(ks:List Kt)(ns:List Nt)(bm:Nat)(A:Option Addr)(c:Nat)(S:St)(f:Int)(L:List Ly)(far:Nat→Prop)(gp:Nat)(v:Value)(ps:List Pe)(kk:Int)(nn vv:Nat)(aM:Int)(e:Ending)(w':World):Prop :=
 ∃ (r:Bool) (far':Nat→Prop) (v':Value) (ps':List Pe),e = .returned (.bool r)∧SP PM w' B far' gp v' ps'∧(∀ q,far q→far' q)∧(∀ q,far' q→far q∨(w.heap.size≤q∧q<w'.heap.size)) ∧
  (∀ q,So gp v' ps' q→So gp v ps q∨w.heap.size≤q)∧Alt w w' (fun q=>So gp v ps q∨TB w q)∧Below B w w' ∧
  (r=true→∃ C'',BT w' B g gd room (k+1) C''∧(ps'.map Pe.s).Perm C''∧Iv M C'')∧(r=false→BX w' B g gd room k C' ks ns bm A c S f L∧NoFit PM M kk nn vv aM C' S)
theorem nm_lt {nn:Nat}(h:nn<3):nmOf nn=nmA∨nmOf nn=nmB∨nmOf nn=nmC:=by
 match nn,h with
 | 0,_=>exact .inl rfl
 | 1,_=>exact .inr (.inl rfl)
 | 2,_=>exact .inr (.inr rfl)
theorem zpg:nmOf 3=nm1:=rfl
theorem zga {kind:Int}{nn v:Nat}{ms:List Int}(hn:nn<3)(hk:kind=1∨kind=2∨kind=3)(hv:v≤100000)(his:IsOk (nmOf nn))(hm:kind=1→IsB ms∧0<ms.length∧ms.length≤12000∧ReadOk ms):NtOk ⟨kind,nmOf nn,v,ms⟩:=by
 have h:(nmOf nn).size≤20∧0<(nmOf nn).size∧strOf (nums (nmOf nn))=nmOf nn:=by
  rcases nm_lt hn with e|e|e <;> rw[e] <;> decide
 exact ⟨h.1,h.2.1,h.2.2,hv,hk,his,hm⟩
theorem zxd {M:List Int→Prop}{C:Con}(h:Iv M C):fndC C nm1=none:=by
 unfold fndC
 rw[List.find?_eq_none]
 intro s hs
 rcases h.nm s hs with e|e|e <;> rw[e] <;> decide
theorem ztn {M:List Int→Prop}{C:Con}(h:Iv M C)(kind:Int)(v:Nat):refC C kind nm1 v=11:=by unfold refC;rw[zxd h]
theorem zto {M:List Int→Prop}{C:Con}(h:Iv M C){name:ByteArray}{s s':Sh}(hs:s∈C)(hn:s'.name=s.name)(hv:∀ x∈s'.vs,M x.2):Iv M (updC C name s'):=by
 refine ⟨fun x hx=>?_,fun x hx=>?_⟩
 ·rcases zc3 hx with rfl|⟨hx,_⟩
  ·rw[hn];exact h.nm s hs
  ·exact h.nm x hx
 ·rcases zc3 hx with rfl|⟨hx,_⟩
  ·exact hv
  ·exact h.kn x hx
theorem ztp {M:List Int→Prop}{C:Con}(h:Iv M C)(n:Nt)(hk:n.kind=2∨n.kind=3):Iv M (stepK C n):=by
 unfold stepK
 split
 ·unfold pfC
  rw[if_neg (by rcases hk with e|e <;> rw[e] <;> decide)]
  cases hf:fndC C n.name with
  |none=>exact h
  |some s =>
   have hm:=(zby hf).1
   simp only
   split
   ·exact zto h hm rfl (h.kn s hm)
   ·exact zto h hm rfl (fun x hx=>h.kn s hm x (List.mem_filter.1 hx).1)
 ·exact h
theorem put_iv {M:List Int→Prop}{C:Con}(h:Iv M C){nn v:Nat}{ms:List Int}(hn:nn<3)(hm:M ms):Iv M (pfC C ⟨1,nmOf nn,v,ms⟩):=by
 unfold pfC
 rw[if_pos rfl]
 cases hf:fndC C (nmOf nn) with
 |none =>
  simp only
  refine ⟨fun x hx=>?_,fun x hx=>?_⟩
  ·rcases List.mem_append.1 hx with hx|hx
   ·exact h.nm x hx
   ·rw[List.mem_singleton.1 hx];exact nm_lt hn
  ·rcases List.mem_append.1 hx with hx|hx
   ·exact h.kn x hx
   ·rw[List.mem_singleton.1 hx]
    intro y hy
    rw[List.mem_singleton.1 hy]
    exact hm
 |some s =>
  have hs:=(zby hf).1
  simp only
  refine zto h hs rfl fun x hx=>?_
  rcases List.mem_append.1 hx with hx|hx
  ·exact h.kn s hs x hx
  ·rw[List.mem_singleton.1 hx];exact hm
theorem zmn {C C':Con}(h:C.Perm C')(hn:(C.map Sh.name).Nodup)(n:Nt):(stepK C n).Perm (stepK C' n):=by
 unfold stepK
 rw[zg4 h hn]
 split
 ·exact zkr h hn n
 ·exact h
theorem zdk {PM:PMod}{w:World}{B gp:Nat}{far:Nat→Prop}{v:Value}{ps:List Pe}{W W1 W2:World}{C2:Con}(_hsp:SP PM w B far gp v ps)(_hfar:∀ q,far q→q<w.heap.size)(hB:B≤w.heap.size)(hso:∀ q,So gp v ps q→B≤q)(h1:Below w.heap.size w W)(h2:BK B W W1)(h3:SPost PM W1 B far gp v ps C2 W2) :
  ∃ (far':Nat→Prop) (v':Value) (ps':List Pe),SP PM W2 B far' gp v' ps'∧ps'.map Pe.s=C2∧(∀ q,far q→far' q)∧(∀ q,far' q→far q∨(w.heap.size≤q∧q<W2.heap.size)) ∧
  (∀ q,So gp v' ps' q→So gp v ps q∨w.heap.size≤q)∧Alt w W2 (fun q=>So gp v ps q∨TB w q)∧Below B w W2∧Alt W1 W2 (So gp v ps):=by
 obtain ⟨far',v',ps',a1,a2,a3,a4,a5,a6⟩:=h3
 have hk:Kb w W1:=Kb.trans (.of h1) h2.kb
 have hs1:w.heap.size≤W1.heap.size:=hk.size
 refine ⟨far',v',ps',a1,a2,a5,fun q hq=>?_,fun q hq=>?_,?_,?_,a4⟩
 ·rcases a6 q hq with h|⟨h,h'⟩
  ·exact .inl h
  ·exact .inr ⟨Nat.le_trans hs1 h,h'⟩
 ·rcases a3 q hq with h|h
  ·exact .inl h
  ·exact .inr (Nat.le_trans hs1 h)
 ·exact (hk.mono fun q h => .inr h).trans a4 (fun q _ h => .inl h)
 ·exact ((h1.mono hB).trans h2.bel).trans (Alt.toBelow a4 (fun q _ h=>hso q h) (Nat.le_trans hB hs1))
theorem zii {PM:PMod}(hst:Stays PM){w:World}{B gp:Nat}{far:Nat→Prop}{v:Value}{ps:List Pe}(h:SP PM w B far gp v ps)(hs:Small ps)(hnd:((ps.map Pe.s).map Sh.name).Nodup)(name:ByteArray)(ver:Nat){r:Int}(hr:refC (ps.map Pe.s) 2 name ver=r) :
  Calls Tryz.prog 22 #[.pointer (some ⟨gp,0,none⟩),.string name,.int .i64 (ver:Int)] w fun e w'=>∃ r2,e = .returned (.int .i64 r2)∧r2=r∧SPost PM w B far gp v ps (stepK (ps.map Pe.s) ⟨2,name,ver,[]⟩) w':=by
 refine (zqm hst h hs hnd name ver hr).mono ?_
 rintro e w' ⟨rfl,ps',h1,h2,h3,h4⟩
 exact ⟨r,rfl,rfl,far,v,ps',h1,h2,fun k hk => .inl (h3 k hk),h4,fun _ h=>h,fun k h => .inl h⟩
theorem zmo {PM:PMod}(hst:Stays PM){w w':World}{B gp:Nat}{far:Nat→Prop}{v:Value}{ps:List Pe}(h:SP PM w B far gp v ps)(hb:Below w.heap.size w w'):SPost PM w B far gp v ps (ps.map Pe.s) w' :=
 ⟨far,v,ps,h.below hst hb,rfl,fun _ h => .inl h,alt_of_below hb,fun _ h=>h,fun _ h => .inl h⟩
theorem zjt {PM:PMod}(hst:Stays PM){w:World}{B gp:Nat}{far:Nat→Prop}{v:Value}{ps:List Pe}(h:SP PM w B far gp v ps)(hs:Small ps)(hnd:((ps.map Pe.s).map Sh.name).Nodup)(hri:∀ p∈ps,(p.ts.map (·.v)).Pairwise (· < ·))(hlh:∀ p∈ps,0<p.ts.length→hasV p.s p.o.live=true)(name:ByteArray)(ver:Nat){r:Int}(hr:refC (ps.map Pe.s) 3 name ver=r) :
  Calls Tryz.prog 23 #[.pointer (some ⟨gp,0,none⟩),.string name,.int .i64 (ver:Int)] w fun e w'=>∃ r2,e = .returned (.int .i64 r2)∧r2=r∧SPost PM w B far gp v ps (stepK (ps.map Pe.s) ⟨3,name,ver,[]⟩) w':=by
 have hsame:r≠0→stepK (ps.map Pe.s) ⟨3,name,ver,[]⟩=ps.map Pe.s:=fun h0=>by
  unfold stepK
  rw[if_neg (by rw[hr];exact h0)]
 by_cases h2:refC (ps.map Pe.s) 2 name ver=0
 ·obtain ⟨s,hs1,_⟩:=zo7 h2
  have h3:=ztf h2 hs1
  by_cases hl:ver=s.live∧1<s.vs.length
  ·rw[if_pos hl,hr] at h3
   refine (zqn hst h hs name ver h2 hs1 hl).mono ?_
   rintro e w' ⟨rfl,hb⟩
   refine ⟨17,rfl,h3.symm,?_⟩
   rw[hsame (by rw[h3];decide)]
   exact zmo hst h hb
  ·rw[if_neg hl,hr] at h3
   refine (zu8 hst h hs name ver h2 hs1 hl hnd hri hlh).mono ?_
   rintro e w' ⟨rfl,hp⟩
   exact ⟨0,rfl,h3.symm,hp⟩
 ·have h3:=zw7 h2
  rw[hr] at h3
  refine (zu5 h hs name ver h3.symm (by rw[h3];exact h2)).mono ?_
  rintro e w' ⟨rfl,hb⟩
  refine ⟨r,rfl,rfl,?_⟩
  rw[hsame (by rw[h3];exact h2)]
  exact zmo hst h hb
section
variable {PM:PMod}{PR:Nat→World→List Int→Array Value→Prop}{M:List Int→Prop}(lw:LawH PM PR M){w:World}{B g gd room k:Nat}{C':Con}{ks:List Kt}{ns:List Nt}{bm:Nat}{A:Option Addr}{c:Nat}{S:St}{f:Int}{L:List Ly}{far:Nat→Prop}{gp:Nat}{v:Value}{ps:List Pe}{aK aN aV aM:Int}{nn vv:Nat}
include lw
theorem zvh (hbx:BX w B g gd room k C' ks ns bm A c S f L)(hk:k≤50)(hsp:SP PM w B far gp v ps)(hiv:Iv M C')(hperm:(ps.map Pe.s).Perm C')(hfar:∀ q,far q→q<w.heap.size)(hso:∀ q,So gp v ps q→B≤q)(hK:aK % 7=4)(hN:aN % 4=(nn:Int))(hV:aV % 6=(vv:Int)) :
  Calls Tryz.prog 11 #[.pointer (some ⟨g,0,none⟩),.pointer (some ⟨gp,0,none⟩),actV aK aN aV aM] w (DoP PM M w B g gd room k C' ks ns bm A c S f L far gp v ps (aK % 7) nn vv aM):=by
 have hB:B≤w.heap.size:=hbx.1.bw.b0l
 have hv6:vv<6:=by have:=Int.emod_lt_of_pos aV (show (0:Int)<6 by omega);omega
 have hn4:nn<4:=by have:=Int.emod_lt_of_pos aN (show (0:Int)<4 by omega);omega
 obtain ⟨s1,s2,s3,s4⟩:=zfs hbx.bt.wk (by omega) hbx.2.2.2.2.2.2.2.2.1 hperm
 have href:refC (ps.map Pe.s) 2 (nmOf nn) vv=refC C' 2 (nmOf nn) vv:=zg4 hperm s2 _ _ _
 have hspw:∀ W,Below w.heap.size w W→SP PM W B far gp v ps:=fun W hW=>hsp.below lw.mt.st hW
 by_cases hfit:nn<3∧refC C' 2 (nmOf nn) vv=0∧¬ Fits S ⟨2,nmOf nn,vv,[]⟩
 ·have hnt:=zga (kind:=2) (ms:=[]) hfit.1 (.inr (.inl rfl)) (by omega:vv≤100000) (lw.is nn hfit.1) (fun h=>by cases h)
  refine (zpe hK hN hV (Q1:=fun W r W1=>r=14∧Below W.heap.size W W1) (Q2:=fun W1 r r2 W2=>r2=0∧SPost PM W1 B far gp v ps (stepK (ps.map Pe.s) ⟨2,nmOf nn,vv,[]⟩) W2) (fun W hW=>?_) (fun W W1 r hW hq=>?_)).mono ?_
  ·refine zkx ((zfr (hbx.below hW) hnt (.inl rfl) hfit.2.1 hfit.2.2).mono ?_)
   rintro e w' ⟨rfl,hb⟩
   exact ⟨14,rfl,rfl,hb⟩
  ·exact zii lw.mt.st (hspw W1 (hW.trans (hq.2.mono hW.size))) s1 s2 (nmOf nn) vv (href.trans hfit.2.1)
  ·rintro e w' ⟨W,W1,r,r2,hW,⟨rfl,hb1⟩,⟨rfl,hp⟩,rfl⟩
   obtain ⟨far',v',ps',a1,a2,a3,a4,a5,a6,a7,a8⟩:=zdk hsp hfar hB hso hW (.of hb1 (Nat.le_trans hB hW.size)) hp
   refine ⟨false,far',v',ps',rfl,a1,a3,a4,a5,a6,a7,(fun h=>by cases h),fun _=>⟨?_,.inl ⟨hK,hfit⟩⟩⟩
   exact ((hbx.below hW).below hb1).alt a8 (fun q _ h=>zn2 (hspw W1 (hW.trans (hb1.mono hW.size))) q h)
 ·refine (zpe hK hN hV (Q1:=fun W r W1=>r=refC C' 2 (nmOf nn) vv∧BT W1 B g gd room (k+1) (stepK C' ⟨2,nmOf nn,vv,[]⟩)∧BK B W W1) (Q2:=fun W1 r r2 W2=>r2=refC C' 2 (nmOf nn) vv∧SPost PM W1 B far gp v ps (stepK (ps.map Pe.s) ⟨2,nmOf nn,vv,[]⟩) W2) (fun W hW=>?_) (fun W W1 r hW hq=>?_)).mono ?_
  ·refine zkx ?_
   by_cases h3:nn<3
   ·have hnt:=zga (kind:=2) (ms:=[]) h3 (.inr (.inl rfl)) (by omega:vv≤100000) (lw.is nn h3) (fun h=>by cases h)
    refine (zih (hbx.below hW) (by omega) hnt (.inl rfl) (fun h=>Classical.byContradiction fun hn=>hfit ⟨h3,h,hn⟩)).mono ?_
    rintro e w' ⟨rfl,h1,h2⟩
    exact ⟨_,rfl,rfl,h1,h2⟩
   ·obtain rfl:nn=3:=by omega
    rw[zpg]
    have h11:=ztn hiv 2 vv
    refine (zf7 (r:=11) (hbx.below hW).1 2 nm1 vv (.inl rfl) (by omega) (by rw[hbx.2.2.2.1];exact h11) (by decide)).mono ?_
    rintro e w' ⟨rfl,hb⟩
    refine ⟨11,rfl,h11.symm,?_,.of hb (Nat.le_trans hB hW.size)⟩
    have e1:stepK C' ⟨2,nm1,vv,[]⟩=C':=by unfold stepK;rw[if_neg (by rw[h11];decide)]
    rw[e1]
    exact ((hbx.below hW).below hb).bt.more
  ·exact zii lw.mt.st ((hspw W hW).kb lw.mt.st hq.2.2.kb) s1 s2 (nmOf nn) vv href
  ·rintro e w' ⟨W,W1,r,r2,hW,⟨rfl,hb1,hk1⟩,⟨rfl,hp⟩,rfl⟩
   obtain ⟨far',v',ps',a1,a2,a3,a4,a5,a6,a7,a8⟩:=zdk hsp hfar hB hso hW hk1 hp
   refine ⟨true,far',v',ps',by simp,a1,a3,a4,a5,a6,a7,fun _=>⟨_,hb1.alt a8 (fun q _ h=>zn2 ((hspw W hW).kb lw.mt.st hk1.kb) q h),?_,ztp hiv _ (.inl rfl)⟩,fun h=>by cases h⟩
   rw[a2]
   exact zmn hperm s2 _
theorem zxe (hbx:BX w B g gd room k C' ks ns bm A c S f L)(hk:k≤50)(hsp:SP PM w B far gp v ps)(hiv:Iv M C')(hperm:(ps.map Pe.s).Perm C')(hfar:∀ q,far q→q<w.heap.size)(hso:∀ q,So gp v ps q→B≤q)(hK:aK % 7=5)(hN:aN % 4=(nn:Int))(hV:aV % 6=(vv:Int)) :
  Calls Tryz.prog 11 #[.pointer (some ⟨g,0,none⟩),.pointer (some ⟨gp,0,none⟩),actV aK aN aV aM] w (DoP PM M w B g gd room k C' ks ns bm A c S f L far gp v ps (aK % 7) nn vv aM):=by
 have hB:B≤w.heap.size:=hbx.1.bw.b0l
 have hv6:vv<6:=by have:=Int.emod_lt_of_pos aV (show (0:Int)<6 by omega);omega
 have hn4:nn<4:=by have:=Int.emod_lt_of_pos aN (show (0:Int)<4 by omega);omega
 obtain ⟨s1,s2,s3,s4⟩:=zfs hbx.bt.wk (by omega) hbx.2.2.2.2.2.2.2.2.1 hperm
 have href:refC (ps.map Pe.s) 3 (nmOf nn) vv=refC C' 3 (nmOf nn) vv:=zg4 hperm s2 _ _ _
 have hspw:∀ W,Below w.heap.size w W→SP PM W B far gp v ps:=fun W hW=>hsp.below lw.mt.st hW
 by_cases hfit:nn<3∧refC C' 3 (nmOf nn) vv=0∧¬ Fits S ⟨3,nmOf nn,vv,[]⟩
 ·have hnt:=zga (kind:=3) (ms:=[]) hfit.1 (.inr (.inr rfl)) (by omega:vv≤100000) (lw.is nn hfit.1) (fun h=>by cases h)
  refine (ztl hK hN hV (Q1:=fun W r W1=>r=14∧Below W.heap.size W W1) (Q2:=fun W1 r r2 W2=>r2=0∧SPost PM W1 B far gp v ps (stepK (ps.map Pe.s) ⟨3,nmOf nn,vv,[]⟩) W2) (fun W hW=>?_) (fun W W1 r hW hq=>?_)).mono ?_
  ·refine zkw ((zfr (hbx.below hW) hnt (.inr rfl) hfit.2.1 hfit.2.2).mono ?_)
   rintro e w' ⟨rfl,hb⟩
   exact ⟨14,rfl,rfl,hb⟩
  ·exact zjt lw.mt.st (hspw W1 (hW.trans (hq.2.mono hW.size))) s1 s2 s3 s4 (nmOf nn) vv (href.trans hfit.2.1)
  ·rintro e w' ⟨W,W1,r,r2,hW,⟨rfl,hb1⟩,⟨rfl,hp⟩,rfl⟩
   obtain ⟨far',v',ps',a1,a2,a3,a4,a5,a6,a7,a8⟩:=zdk hsp hfar hB hso hW (.of hb1 (Nat.le_trans hB hW.size)) hp
   refine ⟨false,far',v',ps',rfl,a1,a3,a4,a5,a6,a7,(fun h=>by cases h),fun _=>⟨?_,.inr (.inl ⟨hK,hfit⟩)⟩⟩
   exact ((hbx.below hW).below hb1).alt a8 (fun q _ h=>zn2 (hspw W1 (hW.trans (hb1.mono hW.size))) q h)
 ·refine (ztl hK hN hV (Q1:=fun W r W1=>r=refC C' 3 (nmOf nn) vv∧BT W1 B g gd room (k+1) (stepK C' ⟨3,nmOf nn,vv,[]⟩)∧BK B W W1) (Q2:=fun W1 r r2 W2=>r2=refC C' 3 (nmOf nn) vv∧SPost PM W1 B far gp v ps (stepK (ps.map Pe.s) ⟨3,nmOf nn,vv,[]⟩) W2) (fun W hW=>?_) (fun W W1 r hW hq=>?_)).mono ?_
  ·refine zkw ?_
   by_cases h3:nn<3
   ·have hnt:=zga (kind:=3) (ms:=[]) h3 (.inr (.inr rfl)) (by omega:vv≤100000) (lw.is nn h3) (fun h=>by cases h)
    refine (zih (hbx.below hW) (by omega) hnt (.inr rfl) (fun h=>Classical.byContradiction fun hn=>hfit ⟨h3,h,hn⟩)).mono ?_
    rintro e w' ⟨rfl,h1,h2⟩
    exact ⟨_,rfl,rfl,h1,h2⟩
   ·obtain rfl:nn=3:=by omega
    rw[zpg]
    have h11:=ztn hiv 3 vv
    refine (zf7 (r:=11) (hbx.below hW).1 3 nm1 vv (.inr rfl) (by omega) (by rw[hbx.2.2.2.1];exact h11) (by decide)).mono ?_
    rintro e w' ⟨rfl,hb⟩
    refine ⟨11,rfl,h11.symm,?_,.of hb (Nat.le_trans hB hW.size)⟩
    have e1:stepK C' ⟨3,nm1,vv,[]⟩=C':=by unfold stepK;rw[if_neg (by rw[h11];decide)]
    rw[e1]
    exact ((hbx.below hW).below hb).bt.more
  ·exact zjt lw.mt.st ((hspw W hW).kb lw.mt.st hq.2.2.kb) s1 s2 s3 s4 (nmOf nn) vv href
  ·rintro e w' ⟨W,W1,r,r2,hW,⟨rfl,hb1,hk1⟩,⟨rfl,hp⟩,rfl⟩
   obtain ⟨far',v',ps',a1,a2,a3,a4,a5,a6,a7,a8⟩:=zdk hsp hfar hB hso hW hk1 hp
   refine ⟨true,far',v',ps',by simp,a1,a3,a4,a5,a6,a7,fun _=>⟨_,hb1.alt a8 (fun q _ h=>zn2 ((hspw W hW).kb lw.mt.st hk1.kb) q h),?_,ztp hiv _ (.inr rfl)⟩,fun h=>by cases h⟩
   rw[a2]
   exact zmn hperm s2 _
theorem zxf (hbx:BX w B g gd room k C' ks ns bm A c S f L)(hk:k≤50)(hsp:SP PM w B far gp v ps)(hiv:Iv M C')(hperm:(ps.map Pe.s).Perm C')(_hfar:∀ q,far q→q<w.heap.size)(_hso:∀ q,So gp v ps q→B≤q)(hK:aK % 7=6)(hN:aN % 4=(nn:Int))(hV:aV % 6=(vv:Int)) :
  Calls Tryz.prog 11 #[.pointer (some ⟨g,0,none⟩),.pointer (some ⟨gp,0,none⟩),actV aK aN aV aM] w (DoP PM M w B g gd room k C' ks ns bm A c S f L far gp v ps (aK % 7) nn vv aM):=by
 have hB:B≤w.heap.size:=hbx.1.bw.b0l
 refine (zxc hK hN hV (Q1:=fun W W1=>BT W1 B g gd room k C'∧BK B W W1) (fun W hW=>zw4 (hbx.below hW).bt hk)).mono ?_
 rintro e w' ⟨W,hW,⟨h1,h2⟩,rfl⟩
 have hkb:Kb w w':=Kb.trans (.of hW) h2.kb
 exact ⟨true,far,v,ps,rfl,hsp.kb lw.mt.st hkb,fun _ h=>h,fun _ h => .inl h,fun _ h => .inl h,hkb.mono (fun _ h => .inr h),(hW.mono hB).trans h2.bel,fun _=>⟨C',h1.more,hperm,hiv⟩,fun h=>by cases h⟩
end
theorem ztq {PM:PMod}(hst:Stays PM){w:World}{B gp:Nat}{far:Nat→Prop}{v:Value}{ps:List Pe}(h:SP PM w B far gp v ps)(hs:Small ps)(hB:B≤w.heap.size)(name:ByteArray)(hfu:fullC (ps.map Pe.s) name=false)(hnd:((ps.map Pe.s).map Sh.name).Nodup){ms:List Int}{cs:Array Value}(hcs:cs.size=59∧AllOne cs∧PM w far ms cs)
  (hck:∀ W,Below w.heap.size w W→Calls Tryz.prog 51 #[.agg cs] W fun e w'=>e = .returned (.int .i64 0)∧Below W.heap.size W w') {x:Nat} (hx:nextC (ps.map Pe.s) name=x) :
  Calls Tryz.prog 24 #[.pointer (some ⟨gp,0,none⟩),.string name,.bool true,.agg cs] w fun e w'=>e = .returned (.tuple #[.int .i64 (x:Int),.int .i64 0])∧SPost PM w B far gp v ps (pfC (ps.map Pe.s) ⟨1,name,x,ms⟩) w':=by
 cases hf:fndC (ps.map Pe.s) name with
 |none =>
  have h1:x=1:=by rw[← hx];unfold nextC;rw[hf]
  subst h1
  exact zvb hst h hs hB name hfu hf hcs hck
 |some s =>
  have h1:x=s.next:=by rw[← hx];unfold nextC;rw[hf]
  subst h1
  exact zva hst h hs hB name hfu hf hnd hcs hck
theorem ztr {k:Nat}{C:Con}(hw:Wk k C)(hk:k≤19)(name:ByteArray):fullC C name=false:=by
 have h1:=List.length_filter_le (othC name) C
 have h2:=hw.len
 have h3:numC C name≤k:=by
  unfold numC
  cases hf:fndC C name with
  |none=>exact Nat.zero_le _
  |some s=>exact (hw.sh s (zby hf).1).1
 unfold fullC
 simp only[Bool.or_eq_false_iff,decide_eq_false_iff_not]
 omega
theorem zts {k:Nat}{C:Con}(hw:Wk k C)(name:ByteArray):nextC C name≤k+1:=by
 unfold nextC
 cases hf:fndC C name with
 |none=>exact Nat.succ_le_succ (Nat.zero_le _)
 |some s=>exact (hw.sh s (zby hf).1).2.2.1
section
variable {PM:PMod}{PR:Nat→World→List Int→Array Value→Prop}{M:List Int→Prop}(lw:LawH PM PR M){w:World}{B g gd room k:Nat}{C':Con}{ks:List Kt}{ns:List Nt}{bm:Nat}{A:Option Addr}{c:Nat}{S:St}{f:Int}{L:List Ly}{far:Nat→Prop}{gp:Nat}{v:Value}{ps:List Pe}{aK aN aV aM:Int}{nn vv:Nat}
include lw
theorem rl_put (hbx:BX w B g gd room k C' ks ns bm A c S f L)(hk:k≤19)(hsp:SP PM w B far gp v ps)(hiv:Iv M C')(hperm:(ps.map Pe.s).Perm C')(hfar:∀ q,far q→q<w.heap.size)(hso:∀ q,So gp v ps q→B≤q)(hK:aK % 7=0∨aK % 7=1∨aK % 7=2∨aK % 7=3)(hN:aN % 4=(nn:Int))(hV:aV % 6=(vv:Int)) :
  Calls Tryz.prog 11 #[.pointer (some ⟨g,0,none⟩),.pointer (some ⟨gp,0,none⟩),actV aK aN aV aM] w (DoP PM M w B g gd room k C' ks ns bm A c S f L far gp v ps (aK % 7) nn vv aM):=by
 have hB:B≤w.heap.size:=hbx.1.bw.b0l
 have hn4:nn<4:=by have:=Int.emod_lt_of_pos aN (show (0:Int)<4 by omega);omega
 obtain ⟨s1,s2,s3,s4⟩:=zfs hbx.bt.wk (by omega) hbx.2.2.2.2.2.2.2.2.1 hperm
 have hspw:∀ W,Below w.heap.size w W→SP PM W B far gp v ps:=fun W hW=>hsp.below lw.mt.st hW
 by_cases h3:nn<3
 ·have his:=lw.is nn h3
  have hdec:decide ((nn:Int)<3)=true:=by rw[decide_eq_true_eq];omega
  rcases lw.md aM with ⟨ms,hmd⟩|hbad
  ·have hfull:fullC C' (nmOf nn)=false:=ztr hbx.bt.wk hk _
   have hfullp:fullC (ps.map Pe.s) (nmOf nn)=false:=(zmh hperm s2 _).trans hfull
   obtain ⟨x,hx⟩:∃ x,nextC C' (nmOf nn)=x:=⟨_,rfl⟩
   have hxp:nextC (ps.map Pe.s) (nmOf nn)=x:=(zmg hperm s2 _).trans hx
   have hxk:x≤k+1:=by rw[← hx];exact zts hbx.bt.wk _
   have hnt:=zga (kind:=1) (v:=x) (ms:=ms) h3 (.inl rfl) (by omega) his (fun _=>hmd.b)
   have hplain:∀ W2 cs2 W3,Below w.heap.size W2 W2→w.heap.size≤W2.heap.size→SP PM W3 B far gp v ps→(cs2.size=59∧AllOne cs2∧PM W3 (fun k=>k<W2.heap.size) ms cs2)→(∀ W',Below W3.heap.size W3 W'→Calls Tryz.prog 51 #[.agg cs2] W' fun e w''=>e = .returned (.int .i64 0)∧Below W'.heap.size W' w'')→W2.heap.size≤W3.heap.size→Calls Tryz.prog 24 #[.pointer (some ⟨gp,0,none⟩),.string (nmOf nn),.bool (decide ((nn:Int)<3)),.agg cs2] W3 fun e w'=>∃ x2 r2,e = .returned (.tuple #[.int .i64 x2,.int .i64 r2])∧x2=(x:Int)∧r2=0∧SPost PM W3 B far gp v ps (pfC (ps.map Pe.s) ⟨1,nmOf nn,x,ms⟩) w':=fun W2 cs2 W3 _ hsz hsp3 hcs hck hsz3=>by
    rw[hdec]
    refine (ztq lw.mt.st hsp3 s1 (by omega) (nmOf nn) hfullp s2 ⟨hcs.1,hcs.2.1,lw.mt.st _ _ _ _ _ _ _ hcs.2.2 (Alt.refl _ (fun _=>False)) (fun _ _ h=>h.elim) (fun q _ hq=>by have:=hfar q hq;show q < _;omega)⟩ hck hxp).mono ?_
    rintro e w' ⟨rfl,hp⟩
    exact ⟨_,_,rfl,rfl,rfl,hp⟩
   by_cases hfit:Fits S ⟨1,nmOf nn,x,ms⟩
   ·refine (zpf hK hN hV (QM:=fun W cs W1=>MOk W1 cs ms∧(cs.size=59∧AllOne cs∧PM W1 (fun k=>k<W.heap.size) ms cs)∧(∀ W',Below W1.heap.size W1 W'→Calls Tryz.prog 51 #[.agg cs] W' fun e w''=>e = .returned (.int .i64 0)∧Below W'.heap.size W' w'')∧Below W.heap.size W W1)
     (Q1:=fun W cs W1 y r W2=>y=(x:Int)∧r=0∧BT W2 B g gd room (k+1) (pfC C' ⟨1,nmOf nn,x,ms⟩)∧BK B W1 W2) (Q2:=fun W2 cs2 W3 y r x2 r2 W4=>x2=(x:Int)∧r2=0∧SPost PM W3 B far gp v ps (pfC (ps.map Pe.s) ⟨1,nmOf nn,x,ms⟩) W4)
     (fun W=>(hmd.make W).mono (by rintro e w' ⟨cs,rfl,h⟩;exact ⟨cs,rfl,h⟩)) (fun W cs W1 hW hq=>?_) (fun W cs W1 h=>h.2.2.2) (fun W cs W1 y r W2 h=>h.2.2.2.kb) (fun W cs W1 y r W2 cs2 W3 hW hq h1 h2=>?_)).mono ?_
    ·refine (ztk ((hbx.below hW).below hq.2.2.2) (by omega) hnt hx.symm hfull hq.1 hfit).mono ?_
     rintro e w' ⟨rfl,a1,a2⟩
     exact ⟨_,_,rfl,rfl,rfl,a1,a2⟩
    ·have hk2:Kb w W2:=Kb.trans (Kb.trans (.of hW) (.of hq.2.2.2)) h1.2.2.2.kb
     exact hplain W2 cs2 W3 ((Below.refl _ _).mono hk2.size) hk2.size ((hsp.kb lw.mt.st hk2).below lw.mt.st h2.2.2.2) h2.2.1 h2.2.2.1 h2.2.2.2.size
    ·rintro e w' ⟨W,cs,W1,y,r,W2,cs2,W3,x2,r2,hW,hq,⟨rfl,rfl,h1,h1k⟩,h2,⟨rfl,rfl,hp⟩,rfl⟩
     have hBW:BK B W W3:=((BK.of hq.2.2.2 (Nat.le_trans hB hW.size)).trans h1k).trans (.of h2.2.2.2 (Nat.le_trans (Nat.le_trans hB hW.size) (Nat.le_trans hq.2.2.2.size h1k.kb.size)))
     obtain ⟨far',v',ps',a1,a2,a3,a4,a5,a6,a7,a8⟩:=zdk hsp hfar hB hso hW hBW hp
     have hk3:Kb w W3:=Kb.trans (.of hW) hBW.kb
     refine ⟨true,far',v',ps',by simp,a1,a3,a4,a5,a6,a7,fun _=>⟨_,(h1.below h2.2.2.2).alt a8 (fun q _ h=>zn2 (hsp.kb lw.mt.st hk3) q h),?_,put_iv hiv h3 hmd.m⟩,fun h=>by cases h⟩
     rw[a2]
     exact zkr hperm s2 _
   ·refine (zpf hK hN hV (QM:=fun W cs W1=>MOk W1 cs ms∧(cs.size=59∧AllOne cs∧PM W1 (fun k=>k<W.heap.size) ms cs)∧(∀ W',Below W1.heap.size W1 W'→Calls Tryz.prog 51 #[.agg cs] W' fun e w''=>e = .returned (.int .i64 0)∧Below W'.heap.size W' w'')∧Below W.heap.size W W1)
     (Q1:=fun W cs W1 y r W2=>y=0∧r=14∧Below W1.heap.size W1 W2) (Q2:=fun W2 cs2 W3 y r x2 r2 W4=>x2=(x:Int)∧r2=0∧SPost PM W3 B far gp v ps (pfC (ps.map Pe.s) ⟨1,nmOf nn,x,ms⟩) W4)
     (fun W=>(hmd.make W).mono (by rintro e w' ⟨cs,rfl,h⟩;exact ⟨cs,rfl,h⟩)) (fun W cs W1 hW hq=>?_) (fun W cs W1 h=>h.2.2.2) (fun W cs W1 y r W2 h => .of h.2.2) (fun W cs W1 y r W2 cs2 W3 hW hq h1 h2=>?_)).mono ?_
    ·refine (zv1 ((hbx.below hW).below hq.2.2.2) (by omega) hnt hx.symm hfull hq.1 hfit).mono ?_
     rintro e w' ⟨rfl,a1⟩
     exact ⟨_,_,rfl,rfl,rfl,a1⟩
    ·have hk2:Kb w W2:=Kb.trans (Kb.trans (.of hW) (.of hq.2.2.2)) (.of h1.2.2)
     exact hplain W2 cs2 W3 ((Below.refl _ _).mono hk2.size) hk2.size ((hsp.kb lw.mt.st hk2).below lw.mt.st h2.2.2.2) h2.2.1 h2.2.2.1 h2.2.2.2.size
    ·rintro e w' ⟨W,cs,W1,y,r,W2,cs2,W3,x2,r2,hW,hq,⟨rfl,rfl,h1⟩,h2,⟨rfl,rfl,hp⟩,rfl⟩
     have hbw:Below W.heap.size W W3:=hq.2.2.2.trans ((h1.trans (h2.2.2.2.mono h1.size)).mono hq.2.2.2.size)
     obtain ⟨far',v',ps',a1,a2,a3,a4,a5,a6,a7,a8⟩:=zdk hsp hfar hB hso hW (.of hbw (Nat.le_trans hB hW.size)) hp
     refine ⟨false,far',v',ps',by simp,a1,a3,a4,a5,a6,a7,(fun h=>by cases h),fun _=>⟨((hbx.below hW).below hbw).alt a8 (fun q _ h=>zn2 ((hspw W hW).below lw.mt.st hbw) q h),.inr (.inr ⟨by omega,by omega,by omega,h3,ms,hmd,by rw[hx];exact hfit⟩)⟩⟩
  ·refine (zpf hK hN hV (QM:=fun W cs W1=>cs.size=59∧(∃ r:Int,r≠0∧∀ W',Below W1.heap.size W1 W'→Calls Tryz.prog 28 #[.agg cs] W' fun e w''=>e = .returned (.int .i64 r)∧Below W'.heap.size W' w'')∧(∃ r:Int,r≠0∧∀ W',Below W1.heap.size W1 W'→Calls Tryz.prog 51 #[.agg cs] W' fun e w''=>e = .returned (.int .i64 r)∧Below W'.heap.size W' w'')∧Below W.heap.size W W1)
     (Q1:=fun W cs W1 y r W2=>y=0∧r=1∧Below W1.heap.size W1 W2) (Q2:=fun W2 cs2 W3 y r x2 r2 W4=>x2=0∧r2=1∧Below W3.heap.size W3 W4)
     (fun W=>(hbad W).mono (by rintro e w' ⟨cs,rfl,h⟩;exact ⟨cs,rfl,h⟩)) (fun W cs W1 hW hq=>?_) (fun W cs W1 h=>h.2.2.2) (fun W cs W1 y r W2 h => .of h.2.2) (fun W cs W1 y r W2 cs2 W3 hW hq h1 h2=>?_)).mono ?_
   ·obtain ⟨r,hr,hck⟩:=hq.2.1
    refine (zxb g (nmOf nn) cs hq.1 W1 his hr hck).mono ?_
    rintro e w' ⟨rfl,a1⟩
    exact ⟨_,_,rfl,rfl,rfl,a1⟩
   ·obtain ⟨r,hr,hck⟩:=h2.2.2.1
    rw[hdec]
    refine (zu9 gp (nmOf nn) cs2 h2.1 W3 hr hck).mono ?_
    rintro e w' ⟨rfl,a1⟩
    exact ⟨_,_,rfl,rfl,rfl,a1⟩
   ·rintro e w' ⟨W,cs,W1,y,r,W2,cs2,W3,x2,r2,hW,hq,⟨rfl,rfl,h1⟩,h2,⟨rfl,rfl,h4⟩,rfl⟩
    have hbw:Below w.heap.size w w':=hW.trans ((hq.2.2.2.trans ((h1.trans ((h2.2.2.2.trans (h4.mono h2.2.2.2.size)).mono h1.size)).mono hq.2.2.2.size)).mono hW.size)
    exact ⟨true,far,v,ps,by simp,hspw _ hbw,fun _ h=>h,fun _ h => .inl h,fun _ h => .inl h,alt_of_below hbw,hbw.mono hB,fun _=>⟨C',(hbx.below hbw).bt.more,hperm,hiv⟩,fun h=>by cases h⟩
 ·obtain rfl:nn=3:=by omega
  have hmk:∀ W,Calls Tryz.prog 17 #[.int .i64 aM] W fun e w'=>∃ cs,e = .returned (.agg cs)∧Below W.heap.size W w':=fun W=>by
   rcases lw.md aM with ⟨ms,hmd⟩|hbad
   ·refine (hmd.make W).mono ?_
    rintro e w' ⟨cs,rfl,_,_,_,hb⟩
    exact ⟨cs,rfl,hb⟩
   ·refine (hbad W).mono ?_
    rintro e w' ⟨cs,rfl,_,_,_,hb⟩
    exact ⟨cs,rfl,hb⟩
  refine (zpf hK hN hV (QM:=fun W cs W1=>Below W.heap.size W W1) (Q1:=fun W cs W1 y r W2=>y=0∧r=11∧Below W1.heap.size W1 W2) (Q2:=fun W2 cs2 W3 y r x2 r2 W4=>x2=0∧r2=11∧Below W3.heap.size W3 W4)
     hmk (fun W cs W1 hW hq=>?_) (fun W cs W1 h=>h) (fun W cs W1 y r W2 h => .of h.2.2) (fun W cs W1 y r W2 cs2 W3 hW hq h1 h2=>?_)).mono ?_
  ·refine (put_no g nm1 cs W1 lw.no).mono ?_
   rintro e w' ⟨rfl,a1⟩
   exact ⟨_,_,rfl,rfl,rfl,a1⟩
  ·have hdec:decide (((3:Nat):Int)<3)=false:=by decide
   rw[hdec]
   refine (zw8 gp (nmOf 3) cs2 W3).mono ?_
   rintro e w' ⟨rfl,a1⟩
   exact ⟨_,_,rfl,rfl,rfl,a1⟩
  ·rintro e w' ⟨W,cs,W1,y,r,W2,cs2,W3,x2,r2,hW,hq,⟨rfl,rfl,h1⟩,h2,⟨rfl,rfl,h4⟩,rfl⟩
   have hbw:Below w.heap.size w w':=hW.trans ((Below.trans hq ((h1.trans ((Below.trans h2 (h4.mono h2.size)).mono h1.size)).mono hq.size)).mono hW.size)
   exact ⟨true,far,v,ps,by simp,hspw _ hbw,fun _ h=>h,fun _ h => .inl h,fun _ h => .inl h,alt_of_below hbw,hbw.mono hB,fun _=>⟨C',(hbx.below hbw).bt.more,hperm,hiv⟩,fun h=>by cases h⟩
theorem rl_do (hbx:BX w B g gd room k C' ks ns bm A c S f L)(hk:k≤19)(hsp:SP PM w B far gp v ps)(hiv:Iv M C')(hperm:(ps.map Pe.s).Perm C')(hfar:∀ q,far q→q<w.heap.size)(hso:∀ q,So gp v ps q→B≤q)(hN:aN % 4=(nn:Int))(hV:aV % 6=(vv:Int)) :
  Calls Tryz.prog 11 #[.pointer (some ⟨g,0,none⟩),.pointer (some ⟨gp,0,none⟩),actV aK aN aV aM] w (DoP PM M w B g gd room k C' ks ns bm A c S f L far gp v ps (aK % 7) nn vv aM):=by
 have h0:=Int.emod_nonneg aK (show (7:Int)≠0 by omega)
 have h1:=Int.emod_lt_of_pos aK (show (0:Int)<7 by omega)
 rcases (show aK % 7=4∨aK % 7=5∨aK % 7=6∨(aK % 7=0∨aK % 7=1∨aK % 7=2∨aK % 7=3) by omega) with h|h|h|h
 ·exact zvh lw hbx (by omega) hsp hiv hperm hfar hso h hN hV
 ·exact zxe lw hbx (by omega) hsp hiv hperm hfar hso h hN hV
 ·exact zxf lw hbx (by omega) hsp hiv hperm hfar hso h hN hV
 ·exact rl_put lw hbx hk hsp hiv hperm hfar hso h hN hV
end
def Rk (PM:PMod)(M:List Int→Prop)(w:World)(B g gd room k gp:Nat):Prop :=
 ∃ (C':Con) (far:Nat→Prop) (v:Value) (ps:List Pe),BT w B g gd room k C'∧SP PM w B far gp v ps∧Iv M C'∧(ps.map Pe.s).Perm C'∧(∀ q,far q→q<w.heap.size)∧(∀ q,So gp v ps q→B≤q)
theorem Rk.below {PM:PMod}{M:List Int→Prop}(hst:Stays PM){w w':World}{B g gd room k gp:Nat}(h:Rk PM M w B g gd room k gp)(hb:Below w.heap.size w w'):Rk PM M w' B g gd room k gp:=by
 obtain ⟨C',far,v,ps,h1,h2,h3,h4,h5,h6⟩:=h
 exact ⟨C',far,v,ps,h1.below hb,h2.below hst hb,h3,h4,fun q hq=>Nat.lt_of_lt_of_le (h5 q hq) hb.size,h6⟩
theorem Rk.shelf {PM:PMod}{M:List Int→Prop}{w:World}{B g gd room k gp:Nat}(h:Rk PM M w B g gd room k gp):∃ A n c,Blk w gp 34 #[.slice A n c]:=by
 obtain ⟨C',far,v,ps,h1,h2,h3,h4,h5,h6⟩:=h
 obtain ⟨A,c,rfl⟩:=zbn h2.ps
 exact ⟨A,ps.length,c,h2.pt⟩
theorem zph {k:Nat}{S:St}{n:Nt}{room:Nat}(hn:NtOk n)(hl:S.xs.length≤k*20000)(hr:S.room=room)(hroom:(k+1)*20000≤room):Fits S n:=by
 have:=(zkp hn).1
 unfold Fits
 omega
section
variable {PM:PMod}{PR:Nat→World→List Int→Array Value→Prop}{M:List Int→Prop}(lw:LawH PM PR M){w:World}{B g gd room k gp:Nat}{aK aN aV aM:Int}
include lw
theorem zpi (h:Rk PM M w B g gd room k gp)(hk:k≤100){A:Option Addr}{n c:Nat}(hb:Blk w gp 34 #[.slice A n c]) :
  Calls Tryz.prog 18 #[.pointer (some ⟨g,0,none⟩),.agg #[.slice A n c]] w fun e w'=>e = .returned (.bool true)∧Below w.heap.size w w':=by
 obtain ⟨C',far,v,ps,h1,h2,h3,h4,h5,h6⟩:=h
 have hv:v = .slice A n c:=by
  have h7:=h2.pt
  unfold Blk at h7 hb
  rw[h7] at hb
  injection hb with hb
  injection hb with hb
  injection hb with hb
  injection hb with hb
 subst hv
 have hks:∀ s∈C',KsOk s:=by
  obtain ⟨ks,ns,bm,A,c,S,f,L,hbx⟩:=h1
  exact hbx.2.2.2.2.2.2.2.2.1
 obtain ⟨s1,s2,s3,s4⟩:=zfs h1.wk (by omega) hks h4
 have h3':=h3.perm h4.symm
 exact zti lw.mt h1 hk h2.ps s1 rfl h4 h3'.kn h3'.nm
end
theorem new_rk {PM:PMod}{M:List Int→Prop}{w:World}{B g gd room:Nat}(h:BT w B g gd room 0 [])(hB:B≤w.heap.size):Rk PM M (w.alloc (.cells #[.slice none 0 0] 34)) B g gd room 0 w.heap.size:=by
 refine ⟨[],fun k=>k=w.heap.size,.slice none 0 0,[],h.below (Below.new1 w _),⟨Blk.new w _ _,⟨World.ownsRow_nil _ _ _ _,(fun p hp=>by cases hp),List.Pairwise.nil,(fun k hk=>by cases hk),fun p hp=>by cases hp⟩,hB,rfl⟩,⟨(fun s hs=>by cases hs),fun s hs=>by cases hs⟩,.refl _,fun q hq=>?_,?_⟩
 ·rw[hq,World.size_alloc];omega
 ·rintro q (h|h|⟨p,hp,_⟩)
  ·rw[h];exact hB
  ·cases h
  ·cases hp
theorem ztt (m1:List Int):nextC [⟨nmA,2,1,[(1,m1)]⟩] nmA=2:=by
 unfold nextC fndC
 rw[List.find?_cons,show decide ((⟨nmA,2,1,[(1,m1)]⟩:Sh).name=nmA)=true from decide_eq_true rfl]
theorem ztu (m1:List Int):fullC [⟨nmA,2,1,[(1,m1)]⟩] nmA=false:=by
 unfold fullC numC fndC
 rw[List.find?_cons,show decide ((⟨nmA,2,1,[(1,m1)]⟩:Sh).name=nmA)=true from decide_eq_true rfl,List.filter_cons,show othC nmA ⟨nmA,2,1,[(1,m1)]⟩=false from by unfold othC;simp]
 rfl
theorem zxg (m1 m3:List Int):pfC [⟨nmA,2,1,[(1,m1)]⟩] ⟨1,nmA,2,m3⟩=[⟨nmA,3,1,[(1,m1),(2,m3)]⟩]:=by
 unfold pfC fndC
 rw[if_pos rfl,List.find?_cons,show decide ((⟨nmA,2,1,[(1,m1)]⟩:Sh).name=nmA)=true from decide_eq_true rfl]
 show List.map (fun s:Sh=>if s.name=nmA then putS ⟨nmA,2,1,[(1,m1)]⟩ 2 m3 else s) [⟨nmA,2,1,[(1,m1)]⟩]=_
 rw[List.map_cons,if_pos rfl]
 rfl
theorem zpj (m1 m3:List Int):refC [⟨nmA,3,1,[(1,m1),(2,m3)]⟩] 3 nmA 1=17:=by
 unfold refC fndC
 rw[List.find?_cons,show decide ((⟨nmA,3,1,[(1,m1),(2,m3)]⟩:Sh).name=nmA)=true from decide_eq_true rfl]
 rfl
theorem know_of {PM:PMod}{M:List Int→Prop}(his:IsOk nmA){m1 m3:List Int}(h1:MdlOk PM M 1 m1)(h3:MdlOk PM M 3 m3)(w:World) :
  Calls Tryz.prog 8 #[] w fun e w'=>e = .returned (.bool true)∧Below w.heap.size w w':=by
 have HIS:=hid his
 have H1:=hid h1
 have H3:=hid h3
 clear his h1 h3
 go_enter Tryz.func8,Tryz.ntmps8
 go_upto_region 4 with (first
  |(go_at_call 5;refine (zvz w 100000 (by decide)).mono ?_;rintro e w1 ⟨rfl,hd1,hb1⟩;have HD1:=hid hd1;have HB1:=hid hb1;clear hd1 hb1)
  |(go_at_call 7;refine (zs8 HD1.out).mono ?_;rintro e w2 ⟨g,C0,rfl,hp2,hs2,hb2⟩;have HS2:=hid (List.nil_perm.1 hp2 ▸ hs2);have HB2:=hid (HB1.out.trans (hb2.mono HB1.out.size));clear hp2 hs2 hb2))
 obtain ⟨ks,ns,bm,A,c,S,f,L,hbx⟩:=HS2.out
 have HBX:Hid (BX w2 w.heap.size g w.heap.size 100000 0 [] ks ns bm A c S f L):=hid hbx
 have HF:Hid (Fits S ⟨1,nmA,1,m1⟩):=hid (zph (k:=0) (zga (kind:=1) (nn:=0) (by decide) (.inl rfl) (by decide) HIS.out (fun _=>H1.out.b)) hbx.2.2.2.2.2.2.2.2.2 hbx.2.2.1 (by decide))
 clear hbx
 go_upto_region 5 with (first
  |(go_at_call 17;refine (H1.out.make _).mono ?_;rintro e w3 ⟨cs,rfl,hm,_,_,hb3⟩;have HM:=hid hm;have HBX3:Hid (BX w3 w.heap.size g w.heap.size 100000 0 [] ks ns bm A c S f L):=hid (BX.below HBX.out hb3);have HB3:=hid (HB2.out.trans (hb3.mono HB2.out.size));clear hm hb3)
  |(go_at_call 16;refine (ztk (name:=nmA) (v:=1) HBX3.out (by decide) (zga (kind:=1) (nn:=0) (by decide) (.inl rfl) (by decide) HIS.out (fun _=>H1.out.b)) rfl rfl HM.out HF.out).mono ?_;rintro e w4 ⟨rfl,hs4,hb4⟩;have HS4:=hid hs4;have HB4:=hid (HB3.out.trans hb4.bel);clear hs4 hb4))
 obtain ⟨ks4,ns4,bm4,A4,c4,S4,f4,L4,hbx⟩:=HS4.out
 have HBX4:Hid (BX w4 w.heap.size g w.heap.size 100000 1 [⟨nmA,2,1,[(1,m1)]⟩] ks4 ns4 bm4 A4 c4 S4 f4 L4):=hid hbx
 have HF4:Hid (Fits S4 ⟨1,nmA,2,m3⟩):=hid (zph (k:=1) (zga (kind:=1) (nn:=0) (by decide) (.inl rfl) (by decide) HIS.out (fun _=>H3.out.b)) hbx.2.2.2.2.2.2.2.2.2 hbx.2.2.1 (by decide))
 clear hbx
 go_upto_region 6 with (first
  |(go_at_call 17;refine (H3.out.make _).mono ?_;rintro e w5 ⟨cs5,rfl,hm,_,_,hb5⟩;have HM5:=hid hm;have HBX5:Hid (BX w5 w.heap.size g w.heap.size 100000 1 [⟨nmA,2,1,[(1,m1)]⟩] ks4 ns4 bm4 A4 c4 S4 f4 L4):=hid (BX.below HBX4.out hb5);have HB5:=hid (HB4.out.trans (hb5.mono HB4.out.size));clear hm hb5)
  |(go_at_call 16;refine (ztk (name:=nmA) (v:=2) HBX5.out (by decide) (zga (kind:=1) (nn:=0) (by decide) (.inl rfl) (by decide) HIS.out (fun _=>H3.out.b)) (ztt m1).symm (ztu m1) HM5.out HF4.out).mono ?_;rintro e w6 ⟨rfl,hs6,hb6⟩;have HS6:=hid hs6;have HB6:=hid (HB5.out.trans hb6.bel);clear hs6 hb6))
 obtain ⟨ks6,ns6,bm6,A6,c6,S6,f6,L6,hbx⟩:=HS6.out
 have HDR:Hid (Calls Tryz.prog 14 #[.pointer (some ⟨g,0,none⟩),.string nmA,.int .i64 ((1:Nat):Int)] w6 fun e w'=>∃ r,e = .returned (.int .i64 r)∧r=17∧Below w.heap.size w6 w'):=hid (zkw (P:=fun r w'=>r=17∧Below w.heap.size w6 w') ((zih (n:=⟨3,nmA,1,[]⟩) (show BX w6 w.heap.size g w.heap.size 100000 2 [⟨nmA,3,1,[(1,m1),(2,m3)]⟩] ks6 ns6 bm6 A6 c6 S6 f6 L6 from zxg m1 m3 ▸ hbx) (by decide) (zga (kind:=3) (nn:=0) (by decide) (.inr (.inr rfl)) (by decide) HIS.out (fun h=>by cases h)) (.inr rfl) (fun h=>by rw[zpj] at h;cases h)).mono (by
  rintro e w' ⟨rfl,_,hb⟩
  exact ⟨17,by rw[zpj],rfl,hb.bel⟩)))
 clear hbx
 go_wp2_with (first
  |(go_at_call 14;refine HDR.out.mono ?_;rintro e w7 ⟨r,rfl,rfl,hb7⟩;have HB7:=hid (HB6.out.trans hb7);clear hb7))
 go_ret
 exact ⟨rfl,HB7.out⟩
theorem zxh (ad:Addr)(a b:Nat):(ad.add a).add b=ad.add (a+b):=by
 unfold Addr.add
 by_cases ha:a=0 <;> by_cases hb:b=0 <;> simp[ha,hb] <;> omega
theorem zir {P:Program}(w:World)(a:Addr)(ty:TypeId)(cs:Array Value)(d:TypeDesc)(hc:∀ j u,cs.toList[j]? = some u→w.cell? (a.add j)=some u)
  (hu:P.underlying ty=some d) (hd:(match d with | .struct _ | .array _ _=>true|_=>false)=true) (hi:(P.info? ty).map (·.size)=some cs.size) :
  (loadVar ty a).run P w = .ok (.agg cs) w:=by
 have hl:(loadCells a cs.toList.length).run P w = .ok cs.toList.toArray w:=run_loadCells_list (P:=P) w a cs.toList hc
 cases hq:P.info? ty with
 |none=>simp[hq] at hi
 |some i =>
  have hs:i.size=cs.size:=by simpa [hq] using hi
  have hagg:(isAgg ty).run P w = .ok true w:=by
   unfold isAgg
   rw[Sem.run_bind,run_underlying hu w]
   cases d <;> simp_all
  simp only[Array.length_toList,Array.toArray_toList] at hl
  simp[loadVar,Sem.run_bind,hagg,sizeOf,typeInfo,hq,hs,hl]
theorem zer {ops:Array Oper}{o:Oper}{a:Act}{Q:Exit→Act→World→Prop}{rest:List Oper}(w:World)(hgd:Region.wanted o (yielded ops a.tmps)=true)(t:TypeId)(p:Operand)(ho:o.op = .load t p)(ad:Addr)(cs:Array Value)(d:TypeDesc)(hp:a.eval p = .pointer (some ad))
  (hc:∀ j u,cs.toList[j]? = some u→w.cell? (ad.add j)=some u) (hu:Tryz.prog.underlying t=some d) (hd:(match d with | .struct _ | .array _ _=>true|_=>false)=true) (hi:(Tryz.prog.info? t).map (·.size)=some cs.size)
  (hK:wpList Tryz.prog ops Q rest (a.put o.dst (.agg cs)) w):wpList Tryz.prog ops Q (o :: rest) a w:=by
 have hrun:=zir (P:=Tryz.prog) w ad t cs d hc hu (by cases d <;> first|rfl|cases hd) hi
 refine wpList_step fun K' hK'=>?_
 rw[if_pos hgd]
 unfold Oper.wp
 simp[execOp,ho,hp,Instr.loadAt,Instr.sureAddr,hrun,Result.andThen]
 exact hK' _ _ hK
theorem zxi:(Tryz.prog.info? 41).map (·.size)=some 4:=by kernel_rfl
theorem zh8 {w:World}{ad:Addr}{i:Nat}{a b c d:Int}(h0:w.cell? (ad.add (i*4))=some (.int .i64 a))(h1:w.cell? (ad.add (i*4+1))=some (.int .i64 b))(h2:w.cell? (ad.add (i*4+2))=some (.int .i64 c))(h3:w.cell? (ad.add (i*4+3))=some (.int .i64 d)) :
  ∀ j u,(#[Value.int .i64 a,.int .i64 b,.int .i64 c,.int .i64 d]:Array Value).toList[j]? = some u→w.cell? ((ad.add (i*4)).add j)=some u:=by
 intro j u hu
 rw[zxh]
 match j,hu with
 | 0,hu=>injection hu with hu;rw[← hu];exact h0
 | 1,hu=>injection hu with hu;rw[← hu];exact h1
 | 2,hu=>injection hu with hu;rw[← hu];exact h2
 | 3,hu=>injection hu with hu;rw[← hu];exact h3
section
variable {PM:PMod}{PR:Nat→World→List Int→Array Value→Prop}{M:List Int→Prop}
end
theorem zxj {o:Oper}{a:Act}{K:Act→World→Prop}{Q:Exit→Act→World→Prop}(w:World)(s x:Operand)(t:TypeId)
  (ho:o.op = .call { callee := .builtin .append,args:=#[s,x],argTypes:=#[t,t] })
  (e:TypeId) (i:TypeInfo) (z:Value) (size bytes:Nat) (ht:Tryz.prog.underlying t=some (.slice e)) (hi:Tryz.prog.info? e=some i) (hz:i.zero=some z)
  (hsize:i.size=size) (hby:i.bytes=bytes) (hzs:z.cells.size=size) (hsz:0<size)
  (b:Nat) (hs:a.eval s = .slice (some ⟨b,0,none⟩) 0 0) (hown:w.ownsRow b e size (.slice (some ⟨b,0,none⟩) 0 0) 0 [])
  {B0 n:Nat} {v:Value} {xs:List Value} (hx:a.eval x=v) (hrow:w.ownsRow B0 e size v n xs) (h1:∀ u∈xs,u.oneCell'=true)
  (h63:n≤maxLen) (hbytes:n*bytes≤140737488355328)
  (h:∀ A' c' w',w'.ownsRow b e size (.slice A' n c') n xs→Alt w w' (fun k=>k=b)→K (a.put o.dst (.slice A' n c')) w'):o.wp Tryz.prog a w K Q:=by
 have hb:b≤w.heap.size:=Nat.le_of_lt (zdh hown b rfl)
 rcases hrow.2 with ⟨rfl,rfl⟩|⟨g,cap,cur,rfl,_⟩
 ·have hxs:xs=[]:=List.length_eq_zero_iff.1 (by rw[hrow.1];exact Nat.zero_mul _)
  subst hxs
  have hr:=run_append_room_src (P:=Tryz.prog) w t t o.type e i ht hi b 0 0 0 (.slice none 0 0) 0 [] (Src.ofNil w (tx:=t) ht 0) (Nat.le_refl _) (fun j hj=>by cases hj) (fun j hj=>by cases hj)
  unfold Oper.wp execOp
  simp only[ho,resolve,invoke,builtin,Sem.run_bind,Sem.run_pure,Result.andThen_ok,List.map_toArray,List.map_cons,List.map_nil,hs,hx,hr]
  exact h _ _ _ hown (Alt.refl _ _)
 ·refine wp_append_own w s x t ho b e i z size bytes ht hi hz hsize hby hzs hsz _ 0 [] hs hown ⟨g,0,none⟩ n cap xs hx hrow.1 (fun j u hu=>hrow.cells rfl j u hu) h1 (by omega) (by rw[Nat.zero_add];exact hbytes) hb (fun v' w' h2 h3 _=>?_)
  rw[Nat.zero_add,List.nil_append] at h2
  obtain ⟨A',c',rfl⟩:=zdv h2
  exact h _ _ _ h2 ((Alt.grow h3).mono fun k e=>by simpa [Value.ownBlock] using e.symm)
theorem zij {ops:Array Oper}{rest:List Oper}{o:Oper}{a:Act}{Q:Exit→Act→World→Prop}(w:World)(hgd:o.guard=none)(s x:Operand)(t:TypeId)
  (ho:o.op = .call { callee := .builtin .append,args:=#[s,x],argTypes:=#[t,t] })
  (e:TypeId) (i:TypeInfo) (z:Value) (size bytes:Nat) (ht:Tryz.prog.underlying t=some (.slice e)) (hi:Tryz.prog.info? e=some i) (hz:i.zero=some z)
  (hsize:i.size=size) (hby:i.bytes=bytes) (hzs:z.cells.size=size) (hsz:0<size)
  (b:Nat) (hs:a.eval s = .slice (some ⟨b,0,none⟩) 0 0) (hown:w.ownsRow b e size (.slice (some ⟨b,0,none⟩) 0 0) 0 [])
  {B0 n:Nat} {v:Value} {xs:List Value} (hx:a.eval x=v) (hrow:w.ownsRow B0 e size v n xs) (h1:∀ u∈xs,u.oneCell'=true)
  (h63:n≤maxLen) (hbytes:n*bytes≤140737488355328)
  (h:∀ A' c' w',w'.ownsRow b e size (.slice A' n c') n xs→Alt w w' (fun k=>k=b)→wpList Tryz.prog ops Q rest (a.put o.dst (.slice A' n c')) w'):wpList Tryz.prog ops Q (o :: rest) a w :=
 wpList_plain hgd fun _ hK=>zxj w s x t ho e i z size bytes ht hi hz hsize hby hzs hsz b hs hown hx hrow h1 h63 hbytes fun A' c' w' h2 h3=>hK _ _ (h A' c' w' h2 h3)
theorem zpk (w:World)(e:TypeId)(size:Nat):(w.alloc (.cells #[] e)).ownsRow w.heap.size e size (.slice (some ⟨w.heap.size,0,none⟩) 0 0) 0 [] :=
 ⟨by simp,.inr ⟨w.heap.size,0,#[],rfl,Nat.le_refl _,heap_alloc_new w _,Nat.le_refl _,Nat.zero_le _,by simp,by simp⟩⟩
theorem zn3 {P:Program}{fn:Func}{t:Tmp}{ty t':TypeId}(h:fn.results=#[.cell t ty])(tmps:Array Value)(w:World)(g:Nat)(cs:Array Value)(fr:Nat×Nat)(d:TypeDesc)(hp:tmps.getD t undef = .pointer (some ⟨g,0,none⟩))
  (hg:w.heap[g]? = some (.cells cs t' fr)) (hu:P.underlying ty=some d) (hd:(match d with | .struct _ | .array _ _=>true|_=>false)=true) (hi:(P.info? ty).map (·.size)=some cs.size):(results fn tmps).run P w = .ok (.agg cs) w:=by
 have:=run_loadVar_row w g t' ty cs fr d hg hu hd hi
 have ha:(asAddr (.pointer (some ⟨g,0,none⟩))).run P w = .ok ⟨g,0,none⟩ w:=rfl
 have hp':tmps[t]?.getD undef = .pointer (some ⟨g,0,none⟩):=by simpa using hp
 simp[results,h,hp',ha,this,Sem.run_bind]
theorem ztv (ts:List Tr):∀ u∈(versT ts).map (Value.int .i64),u.oneCell'=true:=fun u hu=>by
 obtain ⟨z,_,rfl⟩:=List.mem_map.1 hu
 rfl
theorem zpl:(Tryz.prog.info? 102).map (·.size)=some 5:=by kernel_rfl
theorem zqq:(Tryz.prog.info? 34).map (·.size)=some 1:=by kernel_rfl
structure Cp (PM:PMod)(w wz:World)(far:Nat→Prop)(v v':Value)(ps qs:List Pe)(i:Nat):Prop where
 b1:Blk wz w.heap.size 34 #[v]
 b2:Blk wz (w.heap.size+1) 34 #[.slice none 0 0]
 sp:SP PM wz w.heap.size (farN w wz far) (w.heap.size+1+1) v' qs
 eq:qs.map Pe.s=(ps.take i).map Pe.s
 bl:Below w.heap.size w wz
theorem Cp.start {PM:PMod}(w:World)(far:Nat→Prop)(v:Value)(ps:List Pe):Cp PM w (((w.alloc (.cells #[v] 34)).alloc (.cells #[.slice none 0 0] 34)).alloc (.cells #[.slice none 0 0] 34)) far v (.slice none 0 0) ps [] 0:=by
 have e1:(w.alloc (.cells #[v] 34)).heap.size=w.heap.size+1:=World.size_alloc _ _
 have e2:((w.alloc (.cells #[v] 34)).alloc (.cells #[.slice none 0 0] 34)).heap.size=w.heap.size+1+1:=by rw[World.size_alloc,e1]
 refine ⟨((Blk.new w _ _).alloc _).alloc _,?_,⟨?_,⟨World.ownsRow_nil _ _ _ _,(fun p hp=>by cases hp),List.Pairwise.nil,(fun k hk=>by cases hk),fun p hp=>by cases hp⟩,by omega,?_⟩,by rw[List.take_zero],?_⟩
 ·have h:=Blk.new (w.alloc (.cells #[v] 34)) 34 #[.slice none 0 0]
  rw[e1] at h
  exact h.alloc _
 ·have h:=Blk.new ((w.alloc (.cells #[v] 34)).alloc (.cells #[.slice none 0 0] 34)) 34 #[.slice none 0 0]
  rw[e2] at h
  exact h
 ·exact .inr ⟨by omega,by rw[World.size_alloc,e2];omega⟩
 ·exact ((Below.new1 w _).alloc (by omega) _).alloc (by omega) _
theorem Ps.ge {PM:PMod}{w:World}{B:Nat}{far:Nat→Prop}{v:Value}{ps:List Pe}(h:Ps PM w B far v ps):(∀ k,v.ownBlock=some k→B≤k∧k<w.heap.size)∧∀ p∈ps,∀ k,p.own k→B≤k∧k<w.heap.size :=
 ⟨fun k hk=>World.ownsRow.lt h.row k hk,fun p hp k hk=>hk.elim (fun e=>World.ownsRow.lt (h.each p hp).vr k e) (fun e=>World.ownsRow.lt (h.each p hp).mr k e)⟩
theorem zxk {PM:PMod}(hst:Stays PM){w wr W9 W10:World}{far:Nat→Prop}{V v':Value}{ps qs:List Pe}{i g cap:Nat}{p p':Pe}{o:Obj}(hcp:Cp PM w wr far V v' ps qs i)(hp:ps[i]? = some p)(he:p'.s=p.s)
  (h9:Below wr.heap.size wr W9) (hn:p'.o.vn=p'.ts.length) (hv9:IntRow W9 wr.heap.size p'.o.vv (versT p'.ts)) (hm9:W9.ownsRow wr.heap.size 88 59 p'.o.mv p'.ts.length (flatT p'.ts)) (hmd:∀ t∈p'.ts,t.cs.size=59∧AllOne t.cs∧PM w far t.ms t.cs)
  (hgrow:(W9.alloc o).grownBy W10 v'.ownBlock) (hown:W10.ownsRow w.heap.size 102 5 (.slice (some ⟨g,0,none⟩) (qs.length+1) cap) (qs.length+1) (((qs.map Pe.o).map cellsO).flatten++cellsO p'.o)) (hlie:v'.ownBlock=some g∨g=W9.heap.size+1) :
  Cp PM w (W10.setCell ⟨w.heap.size+1+1,0,none⟩ (.slice (some ⟨g,0,none⟩) (qs.length+1) cap)) far V (.slice (some ⟨g,0,none⟩) (qs.length+1) cap) ps (qs++[p']) (i+1):=by
 have hs9:=h9.size
 have hws:=hcp.bl.size
 have ha10:Alt W9 W10 (fun k=>v'.ownBlock=some k):=(Alt.alloc (Alt.refl W9 _) _).trans (Alt.grow hgrow) (fun _ _ h=>h)
 have hrow:=hcp.sp.ps.row
 have hpt9:=zac hcp.sp.pt h9
 have hpt10:Blk W10 (w.heap.size+1+1) 34 #[v']:=hpt9.kept ha10 (fun e=>zbx hrow hcp.sp.pt (by decide) e)
 have has:Alt W10 (W10.setCell ⟨w.heap.size+1+1,0,none⟩ (.slice (some ⟨g,0,none⟩) (qs.length+1) cap)) (fun k=>k=w.heap.size+1+1):=Alt.set_ (p:=fun k=>k=w.heap.size+1+1) (a:=⟨w.heap.size+1+1,0,none⟩) (Alt.refl _ _) rfl _
 have hpt11:Blk (W10.setCell ⟨w.heap.size+1+1,0,none⟩ (.slice (some ⟨g,0,none⟩) (qs.length+1) cap)) (w.heap.size+1+1) 34 #[.slice (some ⟨g,0,none⟩) (qs.length+1) cap]:=hpt10.set_ 0 _
 have ha:Alt W9 (W10.setCell ⟨w.heap.size+1+1,0,none⟩ (.slice (some ⟨g,0,none⟩) (qs.length+1) cap)) (fun k=>k=w.heap.size+1+1∨v'.ownBlock=some k):=(ha10.mono fun k e => .inr e).trans has (fun _ _ e => .inl e)
 have hrow11:=zan hown has (fun k hk e=>zao hown hpt10 (by decide) (by rw[← e];exact hk))
 generalize W10.setCell ⟨w.heap.size+1+1,0,none⟩ (.slice (some ⟨g,0,none⟩) (qs.length+1) cap)=W11 at *
 have har:Alt wr W11 (fun k=>k=w.heap.size+1+1∨v'.ownBlock=some k):=(alt_of_below (p:=fun k=>k=w.heap.size+1+1∨v'.ownBlock=some k) h9).trans ha (fun _ _ h=>h)
 have hs11:=ha.size
 have hbl:Below w.heap.size w W11:=hcp.bl.trans (Alt.toBelow har (fun k _ e=>e.elim (fun e=>by omega) (fun e=>(hcp.sp.ps.ge.1 k e).1)) hws)
 have hp3:=hcp.sp.pt.lt
 have hnew:∀ k,p'.own k→wr.heap.size≤k∧k<W9.heap.size:=fun k hk=>hk.elim (fun e=>World.ownsRow.lt hv9 k e) (fun e=>World.ownsRow.lt hm9 k e)
 have hnn:∀ k,p'.own k→¬ (k=w.heap.size+1+1∨v'.ownBlock=some k):=fun k hk e=>by
  have h1:=(hnew k hk).1
  rcases e with e|e
  ·omega
  ·have:=(hcp.sp.ps.ge.1 k e).2;omega
 refine ⟨hcp.b1.kept har (fun e=>e.elim (fun e=>by omega) (fun e=>zbx hrow hcp.b1 (by decide) e)),hcp.b2.kept har (fun e=>e.elim (fun e=>by omega) (fun e=>zbx hrow hcp.b2 (by decide) e)),⟨hpt11,⟨?_,fun x hx=>?_,?_,fun k hk=>?_,fun x hx k hk=>?_⟩,by omega,.inr ⟨by omega,hpt11.lt⟩⟩,?_,hbl⟩
 ·unfold OnRow
  rw[List.length_map,List.length_append,List.map_append,List.map_append,List.flatten_append]
  simpa using hrow11
 ·rcases List.mem_append.1 hx with hx|hx
  ·refine (hcp.sp.ps.each x hx).alt hst har (fun k _ e => .inl (e.elim (fun e=>by rw[e];exact hcp.sp.fg) (fun e=>hcp.sp.ps.fo k e))) (fun k hk e=>?_) (fun k hk hf=>hf.imp id (fun e=>⟨e.1,hk⟩))
   rcases e with e|e
   ·rcases hk with hk|hk
    ·exact zao (hcp.sp.ps.each x hx).vr hcp.sp.pt (by decide) (by rw[← e];exact hk)
    ·exact zao (hcp.sp.ps.each x hx).mr hcp.sp.pt (by decide) (by rw[← e];exact hk)
   ·rcases hk with hk|hk
    ·exact zag hrow (hcp.sp.ps.each x hx).vr (by decide) k e hk
    ·exact zag hrow (hcp.sp.ps.each x hx).mr (by decide) k e hk
  ·rw[List.mem_singleton.1 hx]
   refine ⟨hn,zbs (zan hv9 ha fun k hk=>hnn k (.inl hk)) hws,zbs (zan hm9 ha fun k hk=>hnn k (.inr hk)) hws,fun t ht=>?_⟩
   obtain ⟨h1,h2,h3⟩:=hmd t ht
   exact ⟨h1,h2,hst _ _ _ _ _ _ _ h3 (alt_of_below (p:=fun _=>False) hbl) (fun _ _ h=>h.elim) (fun k hk hf=>hf.elim id (fun e=>by omega))⟩
 ·rw[List.pairwise_append]
  refine ⟨hcp.sp.ps.ap,List.pairwise_singleton _ _,fun a ha' b hb k hk hk2=>?_⟩
  rw[List.mem_singleton.1 hb] at hk2
  have h1:=(hnew k hk2).1
  have h2:=(hcp.sp.ps.each a ha').lt k hk
  omega
 ·have hk':g=k:=by simpa [Value.ownBlock] using hk
  have hgl:=zdh hrow11 k hk
  rcases hlie with h1|h1
  ·exact (hcp.sp.ps.fo k (by rw[← hk'];exact h1)).imp id (fun e=>⟨e.1,hgl⟩)
  ·exact .inr ⟨by omega,hgl⟩
 ·rcases List.mem_append.1 hx with hx|hx
  ·exact (hcp.sp.ps.fp x hx k hk).imp id (fun e=>⟨e.1,by have:=(hcp.sp.ps.each x hx).lt k hk;have:=har.size;omega⟩)
  ·rw[List.mem_singleton.1 hx] at hk
   have:=hnew k hk
   exact .inr ⟨by omega,by omega⟩
 ·rw[List.map_append,hcp.eq,List.take_add_one,hp,List.map_append,List.map_singleton,he]
  rfl
section
variable {PM:PMod}(hst:Stays PM){w:World}{B:Nat}{far:Nat→Prop}{v:Value}{ps:List Pe}
include hst
theorem zqr (h:Ps PM w B far v ps)(hs:Small ps) :
  Calls Tryz.prog 9 #[.agg #[v]] w fun e w'=>∃ v' qs,e = .returned (.agg #[v'])∧Ps PM w' w.heap.size (farN w w' far) v' qs∧qs.map Pe.s=ps.map Pe.s∧Below w.heap.size w w':=by
 obtain ⟨A,c,rfl⟩:=zbn h
 have HP:=hid h
 have HS:=hid hs
 have hlen:ps.length≤1000:=hs.1
 obtain ⟨n,hn⟩:∃ n,n=ps.length:=⟨_,rfl⟩
 rw[← hn] at HP hlen ⊢
 have HN:=hid hn
 obtain ⟨i2,hi0,hz0,hz1,hz2⟩:=info_parts ztg
 have HIo:=hid hi0
 obtain ⟨zo,hzo⟩:∃ z,z=Value.agg #[.string ⟨#[]⟩,.int .i64 0,.int .i64 0,.slice none 0 0,.slice none 0 0]:=⟨_,rfl⟩
 rw[← hzo] at hz0
 have HZ0o:=hid hz0
 have HZ1o:=hid hz1
 have HZ2o:=hid hz2
 have HZ3o:Hid (zo.cells.size=5):=hid (by rw[hzo];rfl)
 clear hi0 hz0 hz1 hz2 hzo
 obtain ⟨i0,hi0,hz0,hz1,hz2⟩:=info_parts zib
 have HIv:=hid hi0
 obtain ⟨zv,hzv⟩:∃ z,z=Value.int .i64 0:=⟨_,rfl⟩
 rw[← hzv] at hz0
 have HZ0v:=hid hz0
 have HZ1v:=hid hz1
 have HZ2v:=hid hz2
 have HZ3v:Hid (zv.cells.size=1):=hid (by rw[hzv];rfl)
 clear hi0 hz0 hz1 hz2 hzv
 obtain ⟨i1,hi0,hz0,hz1,hz2⟩:=info_parts zpa
 have HIm:=hid hi0
 obtain ⟨zm,hzm⟩:∃ z,z=Value.agg zM:=⟨_,rfl⟩
 rw[← hzm] at hz0
 have HZ0m:=hid hz0
 have HZ1m:=hid hz1
 have HZ2m:=hid hz2
 have HZ3m:Hid (zm.cells.size=59):=hid (by rw[hzm];rfl)
 clear hi0 hz0 hz1 hz2 hzm
 clear h hs hn
 go_enter Tryz.func9,Tryz.ntmps9
 have HC0:=hid (Cp.start (PM:=PM) w far (.slice A n c) ps)
 go_wp2
 generalize ((w.alloc (.cells #[.slice A n c] 34)).alloc (.cells #[.slice none 0 0] 34)).alloc (.cells #[.slice none 0 0] 34)=W0 at HC0 ⊢
 go_loopw [4] (fun v4 wz=>∃ (i:Nat) (v':Value) (qs:List Pe),i≤n∧v4 = .int .i64 (i:Int)∧Hid (Cp PM w wz far (.slice A n c) v' ps qs i)) (fun v4 _=>n - (intOf v4).toNat)
 case atStart=>exact ⟨0,_,[],Nat.zero_le _,rfl,HC0⟩
 case round =>
  obtain ⟨i,v',qs,hi,rfl,hcp⟩:=hrel
  have x1:wr.cell? ⟨w.heap.size,0,none⟩=some (.slice A n c):=hcp.out.b1.cell 0
  by_cases hlt:i<n
  ·obtain ⟨p,hp⟩:∃ p,ps[i]? = some p:=⟨_,List.getElem?_eq_getElem (by rw[← HN.out];exact hlt)⟩
   have hPz:=HP.out.below hst hcp.out.bl
   obtain ⟨g,rfl,hgc,hgf,hgb⟩:=hPz.live hp
   have HPz:=hid hPz
   have HJ:=hid hp
   have HLD:Hid (∀ j u,(#[Value.string p.o.name,.int .i64 (p.o.next:Int),.int .i64 (p.o.live:Int),.slice p.o.vA p.o.vn p.o.vc,.slice p.o.mA p.o.vn p.o.mc]:Array Value).toList[j]? = some u→wr.cell? ((⟨g,i*5,none⟩:Addr).add j)=some u):=hid (by
    intro j u hu
    rw[addk]
    have hj:j<5:=(List.getElem?_eq_some_iff.1 hu).1
    exact hgc j u hj hu)
   have hlt':(i:Int)<(n:Int):=by omega
   clear hgc hgf hgb hPz hp
   obtain ⟨L,hLL⟩:∃ L,L=p.o.vn:=⟨_,rfl⟩
   obtain ⟨vA,hvA⟩:∃ x,x=p.o.vA:=⟨_,rfl⟩
   obtain ⟨vc,hvc⟩:∃ x,x=p.o.vc:=⟨_,rfl⟩
   obtain ⟨mA,hmA⟩:∃ x,x=p.o.mA:=⟨_,rfl⟩
   obtain ⟨mc,hmc⟩:∃ x,x=p.o.mc:=⟨_,rfl⟩
   obtain ⟨NX,hNX⟩:∃ x,x=p.o.next:=⟨_,rfl⟩
   obtain ⟨LV,hLV⟩:∃ x,x=p.o.live:=⟨_,rfl⟩
   obtain ⟨nm,hnm⟩:∃ x,x=p.o.name:=⟨_,rfl⟩
   rw[← hLL, ← hvA, ← hvc, ← hmA, ← hmc, ← hNX, ← hLV, ← hnm] at HLD
   have HEQ:=hid (And.intro hLL (And.intro hvA (And.intro hvc (And.intro hmA (And.intro hmc (And.intro hNX (And.intro hLV hnm)))))))
   clear hLL hvA hvc hmA hmc hNX hLV hnm
   go_upto_region 6 with (first
    |(refine zer _ rfl 102 _ rfl ⟨g,i*5,none⟩ #[.string nm,.int .i64 (NX:Int),.int .i64 (LV:Int),.slice vA L vc,.slice mA L mc] _ rfl (by exact HLD.out) Tryz.underlying102 rfl zpl ?_))
   have HN5:Hid (Blk (wr.alloc (.cells #[.string nm,.int .i64 (NX:Int),.int .i64 (LV:Int),.slice vA L vc,.slice mA L mc] 102)) wr.heap.size 102 #[.string nm,.int .i64 (NX:Int),.int .i64 (LV:Int),.slice vA L vc,.slice mA L mc]):=hid (Blk.new wr _ _)
   have HB5:Hid (Below wr.heap.size wr (wr.alloc (.cells #[.string nm,.int .i64 (NX:Int),.int .i64 (LV:Int),.slice vA L vc,.slice mA L mc] 102))):=hid (Below.new1 wr _)
   generalize wr.alloc (.cells #[.string nm,.int .i64 (NX:Int),.int .i64 (LV:Int),.slice vA L vc,.slice mA L mc] 102)=W5 at HN5 HB5 ⊢
   have hPE:=HPz.out.each p (za7 HJ.out)
   have hLn:L=p.ts.length:=HEQ.out.1.trans hPE.n
   have hL1:L≤1000:=by have:=(HS.out.2 p (za7 HJ.out)).2.2;omega
   have HVR:Hid (wr.ownsRow B 3 1 (.slice vA L vc) L ((versT p.ts).map (Value.int .i64))):=hid (by
    have:=hPE.vr
    unfold IntRow at this
    rw[show (versT p.ts).length=L by unfold versT;rw[List.length_map,hLn],show p.o.vv = .slice vA L vc by rw[HEQ.out.1,HEQ.out.2.1,HEQ.out.2.2.1]] at this
    exact this)
   have HMR:Hid (wr.ownsRow B 88 59 (.slice mA L mc) L (flatT p.ts)):=hid (by
    have:=hPE.mr
    rw[← hLn,show p.o.mv = .slice mA L mc by rw[HEQ.out.1,HEQ.out.2.2.2.1,HEQ.out.2.2.2.2.1]] at this
    exact this)
   have HOV:=hid (ztv p.ts)
   have HOM:=hid (zml hPE.md)
   have HLN:=hid hLn
   obtain ⟨xsv,hxsv⟩:∃ xs,xs=(versT p.ts).map (Value.int .i64):=⟨_,rfl⟩
   obtain ⟨xsm,hxsm⟩:∃ xs,xs=flatT p.ts:=⟨_,rfl⟩
   rw[← hxsv] at HVR HOV
   rw[← hxsm] at HMR HOM
   have HXV:=hid hxsv
   have HXM:=hid hxsm
   have HS5:Hid (wr.heap.size<W5.heap.size):=hid HN5.out.lt
   have q3:W5.cell? ⟨wr.heap.size,3,none⟩=some (.slice vA L vc):=HN5.out.cell 3
   have q3a:(W5.alloc (.cells #[] 3)).cell? ⟨wr.heap.size,3,none⟩=some (.slice vA L vc):=(HN5.out.alloc _).cell 3
   clear hPE hLn hxsv hxsm
   go_upto_region 7 with (at_builtin;go_loud (refine zij _ rfl _ _ 80 rfl 3 i0 zv 1 8 Tryz.underlying80 HIv.out HZ0v.out HZ1v.out HZ2v.out HZ3v.out (by decide) W5.heap.size rfl (by exact zpk W5 _ _) (B0:=B) (n:=L) (v := .slice vA L vc) (xs:=xsv) rfl (by exact zax HVR.out (HB5.out.alloc HB5.out.size _)) HOV.out (by unfold maxLen;omega) (by omega) ?_;intro A3 c3 W6 ho6 ha6;have HO6:=hid ho6;have HA6:=hid ha6;have hn6:=(HN5.out.alloc (.cells #[] 3)).kept ha6 (fun e=>Nat.ne_of_lt HS5.out e);have HN6:=hid hn6;have c6:W6.cell? ⟨wr.heap.size,3,none⟩=some (.slice vA L vc):=hn6.cell 3;have f6:W6.frozen? ⟨wr.heap.size,3,none⟩=false:=hn6.frozen 3;clear ho6 ha6 hn6))
   have hB7:Below wr.heap.size wr (W6.setCell ⟨wr.heap.size,3,none⟩ (.slice A3 L c3)):=(HB5.out.alloc HB5.out.size (.cells #[] 3)).trans (((HA6.out.below (B:=wr.heap.size) (fun k e=>by have:=HS5.out;omega) (by simp;have:=HS5.out;omega))).setCell (p:=⟨wr.heap.size,3,none⟩) (Nat.le_refl _) _)
   have hN7:Blk (W6.setCell ⟨wr.heap.size,3,none⟩ (.slice A3 L c3)) wr.heap.size 102 #[.string nm,.int .i64 (NX:Int),.int .i64 (LV:Int),.slice A3 L c3,.slice mA L mc]:=HN6.out.set_ 3 _
   have hO7:(W6.setCell ⟨wr.heap.size,3,none⟩ (.slice A3 L c3)).ownsRow wr.heap.size 3 1 (.slice A3 L c3) L xsv:=zbs (zan HO6.out (Alt.set_ (p:=fun k=>k=wr.heap.size) (a:=⟨wr.heap.size,3,none⟩) (Alt.refl _ _) rfl _) (fun k hk e=>by have:=(World.ownsRow.lt HO6.out k hk).1;have:=HS5.out;omega)) (Nat.le_of_lt HS5.out)
   have HB7:=hid hB7
   have HN7:=hid hN7
   have HO7:=hid hO7
   clear hB7 hN7 hO7 c6 f6 q3 q3a
   generalize W6.setCell ⟨wr.heap.size,3,none⟩ (.slice A3 L c3)=W7 at HB7 HN7 HO7 ⊢
   have HS7:Hid (wr.heap.size<W7.heap.size):=hid HN7.out.lt
   have q4:W7.cell? ⟨wr.heap.size,4,none⟩=some (.slice mA L mc):=HN7.out.cell 4
   have q4a:(W7.alloc (.cells #[] 88)).cell? ⟨wr.heap.size,4,none⟩=some (.slice mA L mc):=(HN7.out.alloc _).cell 4
   go_upto_region 8 with (at_builtin;go_loud (refine zij _ rfl _ _ 100 rfl 88 i1 zm 59 856 Tryz.underlying100 HIm.out HZ0m.out HZ1m.out HZ2m.out HZ3m.out (by decide) W7.heap.size rfl (by exact zpk W7 _ _) (B0:=B) (n:=L) (v := .slice mA L mc) (xs:=xsm) rfl (by exact zax HMR.out (HB7.out.alloc HB7.out.size _)) HOM.out (by unfold maxLen;omega) (by omega) ?_;intro A4 c4 W8 ho8 ha8;have HO8:=hid ho8;have HA8:=hid ha8;have hn8:=(HN7.out.alloc (.cells #[] 88)).kept ha8 (fun e=>Nat.ne_of_lt HS7.out e);have HN8:=hid hn8;have c8:W8.cell? ⟨wr.heap.size,4,none⟩=some (.slice mA L mc):=hn8.cell 4;have f8:W8.frozen? ⟨wr.heap.size,4,none⟩=false:=hn8.frozen 4;clear ho8 ha8 hn8))
   have hB9:Below wr.heap.size wr (W8.setCell ⟨wr.heap.size,4,none⟩ (.slice A4 L c4)):=(HB7.out.alloc HB7.out.size (.cells #[] 88)).trans (((HA8.out.below (B:=wr.heap.size) (fun k e=>by have:=HS7.out;omega) (by simp;have:=HS7.out;omega))).setCell (p:=⟨wr.heap.size,4,none⟩) (Nat.le_refl _) _)
   have hN9:Blk (W8.setCell ⟨wr.heap.size,4,none⟩ (.slice A4 L c4)) wr.heap.size 102 #[.string nm,.int .i64 (NX:Int),.int .i64 (LV:Int),.slice A3 L c3,.slice A4 L c4]:=HN8.out.set_ 4 _
   have hP9:(W8.setCell ⟨wr.heap.size,4,none⟩ (.slice A4 L c4)).ownsRow wr.heap.size 88 59 (.slice A4 L c4) L xsm:=zbs (zan HO8.out (Alt.set_ (p:=fun k=>k=wr.heap.size) (a:=⟨wr.heap.size,4,none⟩) (Alt.refl _ _) rfl _) (fun k hk e=>by have:=(World.ownsRow.lt HO8.out k hk).1;have:=HS7.out;omega)) (Nat.le_of_lt HS7.out)
   have ha9:Alt W7 (W8.setCell ⟨wr.heap.size,4,none⟩ (.slice A4 L c4)) (fun k=>k=wr.heap.size∨k=W7.heap.size):=((Alt.alloc (Alt.refl W7 _) _).trans (HA8.out.mono fun k e => .inr e) (fun _ _ h=>h)).trans (Alt.set_ (p:=fun k=>k=wr.heap.size) (a:=⟨wr.heap.size,4,none⟩) (Alt.refl _ _) rfl _) (fun _ _ e => .inl e)
   have hO9:=zan HO7.out ha9 (fun k hk e=>e.elim (fun e=>zao HO7.out HN7.out (by decide) (by rw[← e];exact hk)) (fun e=>by have:=zdh HO7.out k hk;omega))
   have HB9:=hid hB9
   have HN9:=hid hN9
   have HO9:=hid hO9
   have HP9:=hid hP9
   clear hB9 hN9 hO9 hP9 ha9 c8 f8 q4 q4a
   generalize W8.setCell ⟨wr.heap.size,4,none⟩ (.slice A4 L c4)=W9 at HB9 HN9 HO9 HP9 ⊢
   obtain ⟨Ao,co,rfl⟩:=zbn hcp.out.sp.ps
   obtain ⟨no,hno⟩:∃ no,no=qs.length:=⟨_,rfl⟩
   have HNO:=hid hno
   have hno1:no≤1000:=by
    have h1:=congrArg List.length hcp.out.eq
    rw[List.length_map,List.length_map,List.length_take] at h1
    omega
   have hpt9:=zac hcp.out.sp.pt HB9.out
   rw[← hno] at hpt9
   have HPT9:=hid hpt9
   have c9:W9.cell? ⟨w.heap.size+1+1,0,none⟩=some (.slice Ao no co):=hpt9.cell 0
   have HL9:Hid (w.heap.size+1+1<W9.heap.size):=hid hpt9.lt
   obtain ⟨xso,hxso⟩:∃ xs,xs=((qs.map Pe.o).map cellsO).flatten:=⟨_,rfl⟩
   have HOR:Hid (W9.ownsRow w.heap.size 102 5 (.slice Ao no co) no xso):=hid (by
    have:=hcp.out.sp.ps.row
    unfold OnRow at this
    rw[List.length_map, ← hno, ← hxso] at this
    exact zax this HB9.out)
   have HXO:=hid hxso
   have hwb:w.heap.size≤W9.heap.size:=by have:=HL9.out;omega
   clear hno hpt9 hxso
   go_upto_region 4 with (first
    |(refine za2 _ rfl 102 _ rfl wr.heap.size #[.string nm,.int .i64 (NX:Int),.int .i64 (LV:Int),.slice A3 L c3,.slice A4 L c4] 102 (0,0) _ rfl (by exact HN9.out) Tryz.underlying102 rfl zpl ?_)
    |(at_builtin;go_loud (refine wpList_append_lies _ rfl _ _ 32 rfl w.heap.size 102 i2 zo 5 80 Tryz.underlying32 HIo.out HZ0o.out HZ1o.out HZ2o.out HZ3o.out (by decide) (.slice Ao no co) no xso rfl (by exact (zax HOR.out (Below.new1 W9 _))) ⟨W9.heap.size,0,none⟩ 1 1 [.string nm,.int .i64 (NX:Int),.int .i64 (LV:Int),.slice A3 L c3,.slice A4 L c4] rfl rfl (fun r u hu=>zc5 W9 _ _ r u hu) (zd8 rfl) (by decide) (by unfold maxLen;omega) (by omega) (by simp;omega) (W9.heap.size+1) (by simp) ?_;intro g10 cap10 W10 hown10 hgrow10 hlie10 hlt10;have HO10:=hid hown10;have HLI10:=hid hlie10;have HGR:=hid hgrow10;have ha10:Alt W9 W10 (fun k=>(Value.slice Ao no co).ownBlock=some k):=(Alt.alloc (Alt.refl W9 _) _).trans (Alt.grow hgrow10) (fun _ _ h=>h);have hb10:=HPT9.out.kept ha10 (fun e=>zao HOR.out HPT9.out (by decide) e);have c10:W10.cell? ⟨w.heap.size+1+1,0,none⟩=some (.slice Ao no co):=hb10.cell 0;have f10:W10.frozen? ⟨w.heap.size+1+1,0,none⟩=false:=hb10.frozen 0;clear hown10 hgrow10 hlie10 hlt10 ha10 hb10)))
   have HCN:Hid (Cp PM w (W10.setCell ⟨w.heap.size+1+1,0,none⟩ (.slice (some ⟨g10,0,none⟩) (no+1) cap10)) far (.slice (some ⟨g,0,none⟩) n c) (.slice (some ⟨g10,0,none⟩) (no+1) cap10) ps (qs++[⟨⟨nm,NX,LV,A3,L,c3,A4,c4⟩,p.ts⟩]) (i+1)):=hid (by
    have h1:=HNO.out
    subst h1
    have hq:=HEQ.out
    refine zxk hst hcp.out HJ.out ?_ HB9.out HLN.out ?_ ?_ (HP.out.each p (za7 HJ.out)).md HGR.out ?_ HLI10.out
    ·show Sh.mk nm NX LV _=Sh.mk p.o.name p.o.next p.o.live _
     rw[hq.2.2.2.2.2.1,hq.2.2.2.2.2.2.1,hq.2.2.2.2.2.2.2]
    ·show W9.ownsRow wr.heap.size 3 1 (.slice A3 L c3) (versT p.ts).length ((versT p.ts).map (Value.int .i64))
     rw[← HXV.out,show (versT p.ts).length=L by unfold versT;rw[List.length_map,HLN.out]]
     exact HO9.out
    ·show W9.ownsRow wr.heap.size 88 59 (.slice A4 L c4) p.ts.length (flatT p.ts)
     rw[← HXM.out, ← HLN.out]
     exact HP9.out
    ·rw[← HXO.out]
     exact HO10.out)
   clear c10 f10 c9 x1
   generalize W10.setCell ⟨w.heap.size+1+1,0,none⟩ (.slice (some ⟨g10,0,none⟩) (no+1) cap10)=W11 at HCN ⊢
   go_wp2
   go_roundw
   case rel=>exact ⟨i+1,_,_,by omega,by go_num,HCN⟩
   case measure=>simp[intOf];omega
  ·obtain rfl:i=n:=by omega
   obtain ⟨Ao,co,rfl⟩:=zbn hcp.out.sp.ps
   have x2:wr.cell? ⟨w.heap.size+1,0,none⟩=some (.slice none 0 0):=hcp.out.b2.cell 0
   have f2:wr.frozen? ⟨w.heap.size+1,0,none⟩=false:=hcp.out.b2.frozen 0
   have x3:wr.cell? ⟨w.heap.size+1+1,0,none⟩=some (.slice Ao qs.length co):=hcp.out.sp.pt.cell 0
   have HE:Hid (qs.map Pe.s=ps.map Pe.s):=hid (by rw[hcp.out.eq,HN.out,List.take_length])
   go_wp2
   have ha:Alt wr (wr.setCell ⟨w.heap.size+1,0,none⟩ (.slice Ao qs.length co)) (fun k=>k=w.heap.size+1):=Alt.set_ (p:=fun k=>k=w.heap.size+1) (a:=⟨w.heap.size+1,0,none⟩) (Alt.refl _ _) rfl _
   refine bodyPost_ret (zn3 rfl _ _ (w.heap.size+1) #[.slice Ao qs.length co] _ _ rfl (hcp.out.b2.set_ 0 _) Tryz.underlying34 rfl zqq) rfl ⟨_,qs,rfl,?_,HE.out,hcp.out.bl.trans (Alt.toBelow ha (fun k _ e=>by omega) hcp.out.bl.size)⟩
   have hp:=hcp.out.sp.ps
   have h2:=hcp.out.b2
   have hno:∀ q∈qs,∀ k,q.own k→¬ k=w.heap.size+1:=fun q hq k hk e=>by
    rcases hk with hk|hk
    ·exact zao (hp.each q hq).vr h2 (by decide) (by rw[← e];exact hk)
    ·exact zao (hp.each q hq).mr h2 (by decide) (by rw[← e];exact hk)
   have hsz:(wr.setCell ⟨w.heap.size+1,0,none⟩ (.slice Ao qs.length co)).heap.size=wr.heap.size:=by simp
   refine ⟨zan hp.row ha (fun k hk e=>zbx hp.row h2 (by decide) (by rw[← e];exact hk)),fun q hq=>(hp.each q hq).alt hst ha (fun k _ e => .inl ?_) (hno q hq) (fun k hk hf=>hf.imp id (fun e=>⟨e.1,hk⟩)),hp.ap,fun k hk=>(hp.fo k hk).imp id (fun e=>⟨e.1,by rw[hsz];exact e.2⟩),fun q hq k hk=>(hp.fp q hq k hk).imp id (fun e=>⟨e.1,by rw[hsz];exact e.2⟩)⟩
   rw[e]
   exact .inr ⟨by omega,h2.lt⟩
end
section
variable {w:World}{B g gd room k:Nat}{C:Con}{ks:List Kt}{ns:List Nt}{bm:Nat}{A:Option Addr}{c:Nat}{S:St}{f:Int}{L:List Ly}
theorem zpm (h:BX w B g gd room k C ks ns bm A c S f L)(hk:k≤100) :
  Calls Tryz.prog 10 #[.pointer (some ⟨gd,0,none⟩)] w fun e w'=>∃ A' c',e = .returned (.slice A' S.xs.length c')∧(∀ W,Below w'.heap.size w' W→(convert 36 9 (.slice A' S.xs.length c')).run Tryz.prog W = .ok (.string (strOf S.xs)) W)∧Below w.heap.size w w':=by
 have hl:S.xs.length≤k*20000:=h.2.2.2.2.2.2.2.2.2
 refine (zr4 gd A c B S f w h.1.bw.dk h.1.bw.own (by omega)).mono ?_
 rintro e w' ⟨A',c',rfl,h1,h2⟩
 refine ⟨A',c',rfl,fun W hW=>?_,h2.below (fun _ h=>h.elim) (Nat.le_refl _)⟩
 exact zfh (Rb.keep (Rb.of_own h1) (alt_of_below (p:=fun _=>False) hW) (fun _ _ h=>h)) (fun e=>by subst e;exact h1.none_.1)
section
variable {PM:PMod}{PR:Nat→World→List Int→Array Value→Prop}{M:List Int→Prop}(lw:LawH PM PR M){nn vv:Nat}
include lw
theorem zvi (h:BX w B g gd room k C ks ns bm A c S f L)(hn:nn<3)(hv:vv≤100000)(hr:refC C 2 (nmOf nn) vv=0)(hfit:¬ Fits S ⟨2,nmOf nn,vv,[]⟩) :
  Calls Tryz.prog 12 #[.pointer (some ⟨g,0,none⟩),.string (nmOf nn),.int .i64 (vv:Int)] w fun e w'=>e = .returned (.int .i64 14)∧Below w.heap.size w w':=by
 refine (zkx (P:=fun r w'=>r=14∧Below w.heap.size w w') ((zfr h (n:=⟨2,nmOf nn,vv,[]⟩) (zga hn (.inr (.inl rfl)) hv (lw.is nn hn) (fun h=>by cases h)) (.inl rfl) hr hfit).mono ?_)).mono ?_
 ·rintro e w' ⟨rfl,hb⟩;exact ⟨14,rfl,rfl,hb⟩
 ·rintro e w' ⟨r,rfl,rfl,hb⟩;exact ⟨rfl,hb⟩
theorem zxl (h:BX w B g gd room k C ks ns bm A c S f L)(hn:nn<3)(hv:vv≤100000)(hr:refC C 3 (nmOf nn) vv=0)(hfit:¬ Fits S ⟨3,nmOf nn,vv,[]⟩) :
  Calls Tryz.prog 14 #[.pointer (some ⟨g,0,none⟩),.string (nmOf nn),.int .i64 (vv:Int)] w fun e w'=>e = .returned (.int .i64 14)∧Below w.heap.size w w':=by
 refine (zkw (P:=fun r w'=>r=14∧Below w.heap.size w w') ((zfr h (n:=⟨3,nmOf nn,vv,[]⟩) (zga hn (.inr (.inr rfl)) hv (lw.is nn hn) (fun h=>by cases h)) (.inr rfl) hr hfit).mono ?_)).mono ?_
 ·rintro e w' ⟨rfl,hb⟩;exact ⟨14,rfl,rfl,hb⟩
 ·rintro e w' ⟨r,rfl,rfl,hb⟩;exact ⟨rfl,hb⟩
theorem put_14 (h:BX w B g gd room k C ks ns bm A c S f L)(hk:k≤19)(hn:nn<3){aM:Int}{ms:List Int}(hmd:MdlOk PM M aM ms)(hfit:¬ Fits S ⟨1,nmOf nn,nextC C (nmOf nn),ms⟩){cs:Array Value}(hm:MOk w cs ms) :
  Calls Tryz.prog 16 #[.pointer (some ⟨g,0,none⟩),.string (nmOf nn),.agg cs] w fun e w'=>e = .returned (.tuple #[.int .i64 0,.int .i64 14])∧Below w.heap.size w w':=by
 have hx:=zts h.bt.wk (nmOf nn)
 exact zv1 h (by omega) (zga (kind:=1) hn (.inl rfl) (by omega) (lw.is nn hn) (fun _=>hmd.b)) rfl (ztr h.bt.wk hk _) hm hfit
end
end
theorem Ps.low {PM:PMod}{w:World}{B B':Nat}{far:Nat→Prop}{v:Value}{ps:List Pe}(h:Ps PM w B far v ps)(hb:B'≤B):Ps PM w B' far v ps:=by
 refine ⟨zbs h.row hb,fun p hp=>?_,h.ap,h.fo,h.fp⟩
 have h1:=h.each p hp
 exact ⟨h1.n,zbs h1.vr hb,zbs h1.mr hb,h1.md⟩
theorem zxm {PM:PMod}(hst:Stays PM){w w1 w2:World}{B:Nat}{far:Nat→Prop}{v':Value}{qs:List Pe}(hB:B≤w.heap.size)(h:Ps PM w1 w.heap.size (farN w w1 far) v' qs)(hb:Below w.heap.size w w1)(h2:Below w1.heap.size w1 w2)(hg:Blk w2 w1.heap.size 34 #[v']) :
  SP PM w2 B (farN w w2 far) w1.heap.size v' qs∧(∀ q,So w1.heap.size v' qs q→w.heap.size≤q)∧Below w.heap.size w w2:=by
 have h0:=hb.size
 refine ⟨⟨hg,?_,Nat.le_trans hB h0,.inr ⟨h0,hg.lt⟩⟩,?_,hb.trans (h2.mono h0)⟩
 ·have h3:=(h.below hst h2).low hB
  refine ⟨h3.row,fun p hp=>?_,h3.ap,fun k hk=>(h3.fo k hk).imp id (fun e=>⟨e.1,Nat.lt_of_lt_of_le e.2 h2.size⟩),fun p hp k hk=>(h3.fp p hp k hk).imp id (fun e=>⟨e.1,Nat.lt_of_lt_of_le e.2 h2.size⟩)⟩
  have h4:=(h.each p hp).alt hst (far':=farN w w2 far) (alt_of_below (p:=fun _=>False) h2) (fun _ _ h=>h.elim) (fun _ _ h=>h) (fun k hk hf=>hf.imp id (fun e=>⟨e.1,hk⟩))
  exact ⟨h4.n,zbs h4.vr hB,zbs h4.mr hB,h4.md⟩
 ·rintro q (e|e|⟨p,hp,e⟩)
  ·rw[e];exact h0
  ·exact (h.ge.1 q e).1
  ·exact (h.ge.2 p hp q e).1
theorem Ps.kept {PM:PMod}(hst:Stays PM){w w':World}{B:Nat}{far q:Nat→Prop}{v:Value}{ps:List Pe}(h:Ps PM w B far v ps)(ha:Alt w w' q)(hq:∀ k,k<w.heap.size→q k→far k∨TB w k)(hno:∀ k,v.ownBlock=some k→¬ q k)(hnp:∀ p∈ps,∀ k,p.own k→¬ q k):Ps PM w' B far v ps :=
 ⟨zan h.row ha hno,fun p hp=>(h.each p hp).alt hst ha hq (hnp p hp) (fun _ _ h=>h),h.ap,h.fo,h.fp⟩
theorem zxn {PM:PMod}{M:List Int→Prop}(hst:Stays PM){w:World}{B g gd room k gp gn:Nat}{far:Nat→Prop}{v v':Value}{ps:List Pe}{C:Con}(hn:SP PM w B far gn v' ps)(hf:far gp)(hpt:Blk w gp 34 #[v])(hbt:BT w B g gd room k C)(hp:(ps.map Pe.s).Perm C)(hiv:Iv M C)(hfl:∀ q,far q→q<w.heap.size)(hB:B≤gp)(hso:∀ q,So gn v' ps q→B≤q) :
  Rk PM M (w.setCell ⟨gp,0,none⟩ v') B g gd room k gp:=by
 have ha:Alt w (w.setCell ⟨gp,0,none⟩ v') (fun q=>q=gp):=Alt.set_ (p:=fun k=>k=gp) (a:=⟨gp,0,none⟩) (Alt.refl _ _) rfl _
 refine ⟨C,far,v',ps,hbt.alt ha (fun q _ e=>by rw[e];exact zdj hpt (by decide) (by decide) (by decide) (by decide)),⟨hpt.set_ 0 _,hn.ps.kept hst ha (fun k _ e => .inl (by rw[e];exact hf)) (fun k hk e=>zbx hn.ps.row hpt (by decide) (by rw[← e];exact hk)) (fun p hp k hk e=>?_),hB,hf⟩,hiv,hp,fun q hq=>?_,?_⟩
 ·rcases hk with hk|hk
  ·exact zao (hn.ps.each p hp).vr hpt (by decide) (by rw[← e];exact hk)
  ·exact zao (hn.ps.each p hp).mr hpt (by decide) (by rw[← e];exact hk)
 ·exact Nat.lt_of_lt_of_le (hfl q hq) ha.size
 ·rintro q (e|e|⟨p,hp,e⟩)
  ·rw[e];exact hB
  ·exact hso q (.inr (.inl e))
  ·exact hso q (.inr (.inr ⟨p,hp,e⟩))
theorem zv2 {w w2 w':World}{gn:Nat}{v:Value}{qs:List Pe}(h1:Below w.heap.size w w2)(ha:Alt w2 w' (fun q=>So gn v qs q∨TB w2 q))(hso:∀ q,So gn v qs q→w.heap.size≤q):Kb w w' :=
 Alt.trans (alt_of_below (p:=TB w) h1) ha fun k hk hq=>by
  rcases hq with hq|hq
  ·have:=hso k hq;omega
  ·exact (TB.same (h1.block k hk)).1 hq
theorem Rk.more {PM:PMod}{M:List Int→Prop}{w:World}{B g gd room k gp:Nat}(h:Rk PM M w B g gd room k gp):Rk PM M w B g gd room (k+1) gp:=by
 obtain ⟨C,far,v,ps,h1,h2⟩:=h
 exact ⟨C,far,v,ps,h1.more,h2⟩
theorem zky (w:World)(i:Nat)(hi:i<4):Calls Tryz.prog 13 #[] w fun e w'=>∃ G,e = .returned (.slice (some ⟨G,0,none⟩) 4 4)∧w'.cell? ⟨G,i,none⟩=some (.string (nmOf i))∧Below w.heap.size w w':=by
 refine (zdi w).mono ?_
 rintro e w' ⟨rfl,rfl⟩
 exact ⟨_,rfl,zeb w i hi,Below.new1 w _⟩
theorem zn4 {w:World}{G i:Nat}{v:Value}(h:w.cell? ⟨G,i,none⟩=some v):(⟨G,i,none⟩:Addr).block<w.heap.size:=by
 show G<w.heap.size
 unfold World.cell? at h
 rcases Nat.lt_or_ge G w.heap.size with h1|h1
 ·exact h1
 ·simp[h1] at h
theorem zn5 {w w':World}(h:Below w.drew.heap.size w.drew w'):Below w.heap.size w w':=(Below.refl _ _).drew.trans h
section
variable {PM:PMod}{PR:Nat→World→List Int→Array Value→Prop}{M:List Int→Prop}
theorem space_walk (lw:LawH PM PR M)(L:Option Addr)(n cl:Nat)(room:Int)(w:World)(hL:Acts w L n)(hn:n≤cl)(hn2:n≤9223372036854775807)(hLn:L=none→n=0) :
  Calls Tryz.prog 3 #[.slice L n cl,.int .i64 room] w fun e w'=>e = .returned (.bool true)∧Below w.heap.size w w':=by
 have HL:=hid hL
 have HLN:=hid hLn
 have HLW:=hid lw
 clear hL hLn lw
 obtain ⟨m,hm⟩:∃ m,m=min n 10:=⟨_,rfl⟩
 have HM:=hid hm
 have hm10:m≤10:=by omega
 have hmn:m≤n:=by omega
 obtain ⟨rm,hrm⟩:∃ rm:Nat,room % 3000=(rm:Int):=⟨(room % 3000).toNat,by have:=Int.emod_nonneg room (show (3000:Int)≠0 by omega);omega⟩
 have hrm3:rm<3000:=by have:=Int.emod_lt_of_pos room (show (0:Int)<3000 by omega);omega
 have HRM:=hid hrm
 clear hm hrm
 go_enter Tryz.func3,Tryz.ntmps3
 go_wp2_with (first
  |(go_at_call 4;refine (zwz L n cl 10 w hn hn2 HLN.out (by omega)).mono ?_;rintro e w' ⟨rfl,hw⟩;rw[hw, ← HM.out];clear hw)
  |(go_at_call 6;refine (pick_any _ _ _ (by omega) (by omega)).mono ?_;rintro e w' ⟨rfl,hw⟩;rw[← hw,HRM.out];clear hw)
  |(go_at_call 5;refine (zvz w rm (by omega)).mono ?_;rintro e w1 ⟨rfl,hd1,hb1⟩;have HD1:=hid hd1;have HB1:=hid hb1;clear hd1 hb1)
  |(go_at_call 7;refine (zs8 HD1.out).mono ?_;rintro e w2 ⟨g,C0,rfl,hp2,hs2,hb2⟩;have HP2:=hid hp2;have HS2:=hid hs2;have HB2:=hid (HB1.out.trans (hb2.mono HB1.out.size));clear hp2 hs2 hb2))
 have HG:Hid (Rk PM M (w2.alloc (.cells #[.slice none 0 0] 34)) w.heap.size g w.heap.size rm 0 w2.heap.size):=hid (by
  have h1:=HP2.out
  have h2:=HS2.out
  rw[List.nil_perm.1 h1] at h2
  exact new_rk h2 HB2.out.size)
 have HB3:Hid (Below w.heap.size w (w2.alloc (.cells #[.slice none 0 0] 34))):=hid (HB2.out.alloc HB2.out.size _)
 generalize w2.alloc (.cells #[.slice none 0 0] 34)=W3 at HG HB3 ⊢
 generalize w2.heap.size=gp at HG ⊢
 go_loopw [9] (fun v9 wz=>∃ i:Nat,i≤m∧v9 = .int .i64 (i:Int)∧Hid (Rk PM M wz w.heap.size g w.heap.size rm i gp)∧Hid (Below w.heap.size w wz)) (fun v9 _=>m - (intOf v9).toNat)
 case atStart=>exact ⟨0,Nat.zero_le _,rfl,HG,HB3⟩
 case round =>
  obtain ⟨i,hi,rfl,hrk,hbe⟩:=hrel
  by_cases hlt:i<m
  ·obtain ⟨ad,rfl,hab,hc⟩:=HL.out (by omega)
   obtain ⟨aK,aN,aV,aM,h0,h1,h2,h3⟩:=hc i (by omega)
   have HCL:Hid (∀ W,Below w.heap.size w W→W.cell? (ad.add (i*4))=some (.int .i64 aK)∧W.cell? (ad.add (i*4+1))=some (.int .i64 aN)∧W.cell? (ad.add (i*4+2))=some (.int .i64 aV)∧W.cell? (ad.add (i*4+3))=some (.int .i64 aM)):=hid fun W hW =>
    ⟨(hW.cell (p:=ad.add (i*4)) (by rw[zbb];exact hab)).trans h0,(hW.cell (p:=ad.add (i*4+1)) (by rw[zbb];exact hab)).trans h1,(hW.cell (p:=ad.add (i*4+2)) (by rw[zbb];exact hab)).trans h2,(hW.cell (p:=ad.add (i*4+3)) (by rw[zbb];exact hab)).trans h3⟩
   have hlt':(i:Int)<(m:Int):=by omega
   clear hc h0 h1 h2 h3
   obtain ⟨C',far,v,ps,a1,a2,a3,a4,a5,a6⟩:=hrk.out
   have hwk:=a1.wk
   obtain ⟨ks,ns,bm,A,c,S,f,Ls,hbx⟩:=a1
   obtain ⟨s1,s2,s3,s4⟩:=zfs hwk (by omega) hbx.2.2.2.2.2.2.2.2.1 a4
   obtain ⟨A5,c5,rfl⟩:=zbn a2.ps
   have HBX:Hid (BX wr w.heap.size g w.heap.size rm i C' ks ns bm A c S f Ls):=hid hbx
   have HSP:=hid a2
   have HIV:=hid a3
   have HPE:=hid a4
   have HFL:=hid a5
   have HSO:=hid a6
   have HSM:=hid s1
   have HBW:Hid (w.heap.size≤wr.heap.size):=hid hbe.out.size
   have x0:wr.cell? ⟨gp,0,none⟩=some (.slice A5 ps.length c5):=a2.pt.cell 0
   clear hbx a2 a3 a4 a5 a6 s1 s2 s3 s4 hwk
   go_upto_region 11 with (go_at_call 9;refine (zqr HLW.out.mt.st HSP.out.ps HSM.out).mono ?_;rintro e w1 ⟨v2,qs,rfl,q1,q2,q3⟩;obtain ⟨A6,c6,rfl⟩:=zbn q1;have HQ1:=hid q1;have HQ2:=hid q2;have HQ3:=hid q3;clear q1 q2 q3)
   obtain ⟨h1,h2,h3⟩:=zxm HLW.out.mt.st HBW.out HQ1.out HQ3.out (Below.new1 w1 _) (Blk.new w1 34 #[.slice A6 qs.length c6])
   have HSP2:=hid h1
   have HSO2:=hid h2
   have HB2r:=hid h3
   clear h1 h2 h3 x0
   generalize w1.alloc (.cells #[.slice A6 qs.length c6] 34)=W2 at HSP2 HB2r ⊢
   generalize w1.heap.size=gn at HSP2 HSO2 ⊢
   have HBX2:Hid (BX W2 w.heap.size g w.heap.size rm i C' ks ns bm A c S f Ls):=hid (BX.below HBX.out HB2r.out)
   have HPQ:Hid ((qs.map Pe.s).Perm C'):=hid (by rw[HQ2.out];exact HPE.out)
   obtain ⟨sx,hsx⟩:∃ sx,sx=strOf S.xs:=⟨_,rfl⟩
   have HSX:=hid hsx
   obtain ⟨ln,hln⟩:∃ ln,ln=S.xs.length:=⟨_,rfl⟩
   have HLE:=hid hln
   clear hsx hln
   obtain ⟨nn,hN⟩:∃ nn:Nat,aN % 4=(nn:Int):=⟨(aN % 4).toNat,by have:=Int.emod_nonneg aN (show (4:Int)≠0 by omega);omega⟩
   obtain ⟨vv,hV⟩:∃ vv:Nat,aV % 6=(vv:Int):=⟨(aV % 6).toNat,by have:=Int.emod_nonneg aV (show (6:Int)≠0 by omega);omega⟩
   have hn4:nn<4:=by have:=Int.emod_lt_of_pos aN (show (0:Int)<4 by omega);omega
   have hv6:vv<6:=by have:=Int.emod_lt_of_pos aV (show (0:Int)<6 by omega);omega
   have HN:=hid hN
   have HV:=hid hV
   have hn4':(nn:Int)<4:=by omega
   have hn0:(0:Int)≤(nn:Int):=by omega
   clear hN hV
   go_upto_region 12 with (go_at_call 10;refine (zpm HBX2.out (by omega)).mono ?_;rintro e w3 ⟨A7,c7,rfl,hcv,hb3⟩;rw[← HSX.out, ← HLE.out] at hcv;rw[← HLE.out];have v0:=hcv w3 (Below.refl _ _);have HB3r:=hid (HB2r.out.trans (hb3.mono HB2r.out.size));have HBX3:Hid (BX w3 w.heap.size g w.heap.size rm i C' ks ns bm A c S f Ls):=hid (BX.below HBX2.out hb3);have HSP3:=hid (HSP2.out.below HLW.out.mt.st hb3);have HF3:Hid (∀ q,farN wr W2 far q→q<w3.heap.size):=hid (fun q hq=>hq.elim (fun h=>Nat.lt_of_lt_of_le (HFL.out q h) HB3r.out.size) (fun h=>Nat.lt_of_lt_of_le h.2 hb3.size));clear hcv hb3)
   have HB3w:=hid (hbe.out.trans (HB3r.out.mono HBW.out))
   have HAC:=hid (zh8 (HCL.out _ HB3w.out).1 (HCL.out _ HB3w.out).2.1 (HCL.out _ HB3w.out).2.2.1 (HCL.out _ HB3w.out).2.2.2)
   clear v0
   go_upto_if 52 with (first
    |(refine zer _ rfl 41 _ rfl (ad.add (i*4)) #[.int .i64 aK,.int .i64 aN,.int .i64 aV,.int .i64 aM] _ rfl (by exact HAC.out) Tryz.underlying41 rfl zxi ?_)
    |(go_at_call 11;go_loud (refine (rl_do HLW.out HBX3.out (by omega) HSP3.out HIV.out HPQ.out HF3.out (fun q hq=>Nat.le_trans HBW.out (HSO2.out q hq)) HN.out HV.out).mono ?_;rintro e w4 ⟨r,far4,v4,ps4,rfl,hd⟩;have HD:=hid hd;clear hd)))
   cases r with
   |true =>
    obtain ⟨d1,d2,d3,d4,d5,d6,d7,d8⟩:=HD.out
    obtain ⟨C4,b1,b2,b3⟩:=d7 rfl
    obtain ⟨A8,c8,rfl⟩:=zbn d1.ps
    have x1:w4.cell? ⟨gn,0,none⟩=some (.slice A8 ps4.length c8):=d1.pt.cell 0
    have hkb:Kb wr w4:=zv2 HB3r.out d5 HSO2.out
    have hpt:Blk w4 gp 34 #[.slice A5 ps.length c5]:=HSP.out.pt.kept hkb (zdj HSP.out.pt (by decide) (by decide) (by decide) (by decide))
    have x2:w4.cell? ⟨gp,0,none⟩=some (.slice A5 ps.length c5):=hpt.cell 0
    have f2:w4.frozen? ⟨gp,0,none⟩=false:=hpt.frozen 0
    have HR5:Hid (Rk PM M (w4.setCell ⟨gp,0,none⟩ (.slice A8 ps4.length c8)) w.heap.size g w.heap.size rm (i+1) gp):=hid (zxn HLW.out.mt.st d1 (d2 _ (.inl HSP.out.fg)) hpt b1 b2 b3 (fun q hq=>(d3 q hq).elim (fun h=>Nat.lt_of_lt_of_le (HF3.out q h) d5.size) (fun h=>h.2)) HSP.out.bg (fun q hq=>(d4 q hq).elim (fun h=>Nat.le_trans HBW.out (HSO2.out q h)) (fun h=>Nat.le_trans HB3w.out.size h)))
    have HB5:Hid (Below w.heap.size w (w4.setCell ⟨gp,0,none⟩ (.slice A8 ps4.length c8))):=hid ((HB3w.out.trans d6).setCell (p:=⟨gp,0,none⟩) HSP.out.bg _)
    clear d1 d2 d3 d4 d5 d6 d7 d8 b1 b2 b3 hkb hpt HD
    go_wp2
    go_roundw
    case rel=>exact ⟨i+1,by omega,by go_num,HR5,HB5⟩
    case measure=>simp[intOf];omega
   |false =>
    obtain ⟨d1,d2,d3,d4,d5,d6,d7,d8⟩:=HD.out
    obtain ⟨hbx4,hno⟩:=d8 rfl
    have hkb:Kb wr w4:=zv2 HB3r.out d5 HSO2.out
    have HRK4:Hid (Rk PM M w4 w.heap.size g w.heap.size rm i gp):=hid ⟨C',far,_,ps,BX.bt hbx4,HSP.out.kb HLW.out.mt.st hkb,HIV.out,HPE.out,fun q hq=>Nat.lt_of_lt_of_le (HFL.out q hq) hkb.size,HSO.out⟩
    have HB4w:Hid (Below w.heap.size w w4):=hid (HB3w.out.trans d6)
    have HBX4:Hid (BX w4 w.heap.size g w.heap.size rm i C' ks ns bm A c S f Ls):=hid hbx4
    have HCF:Hid (∀ W,Below w.heap.size w W→W.cell? (ad.add (i*4))=some (.int .i64 aK)∧W.cell? ⟨(ad.add (i*4)).block,(ad.add (i*4)).off+1,none⟩=some (.int .i64 aN)∧W.cell? ⟨(ad.add (i*4)).block,(ad.add (i*4)).off+2,none⟩=some (.int .i64 aV)∧W.cell? ⟨(ad.add (i*4)).block,(ad.add (i*4)).off+3,none⟩=some (.int .i64 aM)):=hid fun W hW=>by
     rw[zh7 ad _ 1 (by decide),zh7 ad _ 2 (by decide),zh7 ad _ 3 (by decide)]
     exact HCL.out W hW
    obtain ⟨g0,g1,g2,g3⟩:=HCF.out w4 HB4w.out
    clear d1 d2 d3 d4 d5 d6 d7 d8 hkb hbx4 HD HAC
    have HNO:=hid hno
    obtain ⟨kk,hkk⟩:∃ kk,aK % 7=kk:=⟨_,rfl⟩
    have HKK:=hid hkk
    clear hno hkk
    go_upto_block 2 with (go_at_call 6;refine (pick_any _ _ _ (by omega) (by omega)).mono ?_;rintro e w' ⟨rfl,hw⟩;rw[← hw];(first|rw[HN.out]|rw[HKK.out]);clear hw)
    go_cut [13] from 67 to 113 (fun v13 wx=>Hid (v13 = .int .i64 14∧Below w4.heap.size w4 wx))
    case first =>
     have hno:=HNO.out
     rw[HKK.out] at hno
     have hK0:=Int.emod_nonneg aK (show (7:Int)≠0 by omega)
     have hK7:=Int.emod_lt_of_pos aK (show (0:Int)<7 by omega)
     rw[HKK.out] at hK0 hK7
     rcases hno with ⟨rfl,hn3,hr,hf⟩|⟨rfl,hn3,hr,hf⟩|⟨hK4,hK5,hK6,hn3,ms,hmd,hf⟩
     ·have HRF:=hid hr
      have HNF:=hid hf
      clear hr hf hK0 hK7
      go_upto_region 20 with fail
      go_region_with (first
       |(go_at_call 13;refine (zky _ nn hn4).mono ?_;rintro e w5 ⟨G5,rfl,hnm,hb5⟩;have HB45:=hid (zn5 hb5);obtain ⟨k0,k1,k2,k3⟩:=HCF.out w5 (HB4w.out.trans (HB45.out.mono HB4w.out.size));clear hb5)
       |(go_at_call 6;refine (pick_any _ _ _ (by omega) (by omega)).mono ?_;rintro e w' ⟨rfl,hw⟩;rw[← hw,HV.out];clear hw)
       |(go_at_call 12;refine (zvi HLW.out (BX.below HBX4.out HB45.out) hn3 (by omega) HRF.out HNF.out).mono ?_;rintro e w6 ⟨rfl,hb6⟩;have HB46:=hid (HB45.out.trans (hb6.mono HB45.out.size));clear hb6))
      all_goals (go_wp2;go_meet;exact hid ⟨rfl,HB46.out⟩)
     ·have HRF:=hid hr
      have HNF:=hid hf
      clear hr hf hK0 hK7
      go_upto_region 22 with fail
      go_region_with (first
       |(go_at_call 13;refine (zky _ nn hn4).mono ?_;rintro e w5 ⟨G5,rfl,hnm,hb5⟩;have HB45:=hid (zn5 hb5);obtain ⟨k0,k1,k2,k3⟩:=HCF.out w5 (HB4w.out.trans (HB45.out.mono HB4w.out.size));clear hb5)
       |(go_at_call 6;refine (pick_any _ _ _ (by omega) (by omega)).mono ?_;rintro e w' ⟨rfl,hw⟩;rw[← hw,HV.out];clear hw)
       |(go_at_call 14;refine (zxl HLW.out (BX.below HBX4.out HB45.out) hn3 (by omega) HRF.out HNF.out).mono ?_;rintro e w6 ⟨rfl,hb6⟩;have HB46:=hid (HB45.out.trans (hb6.mono HB45.out.size));clear hb6))
      all_goals (go_wp2;go_meet;exact hid ⟨rfl,HB46.out⟩)
     ·have HMD:=hid hmd
      have HNF:=hid hf
      have hk4:(kk == 4)=false:=by rw[beq_eq_false_iff_ne];omega
      have hk5:(kk == 5)=false:=by rw[beq_eq_false_iff_ne];omega
      have hk6:(kk == 6)=false:=by rw[beq_eq_false_iff_ne];omega
      clear hmd hf hK0 hK7 hK4 hK5 hK6
      go_upto_region 18 with fail
      go_region_with (first
       |(go_at_call 13;refine (zky _ nn hn4).mono ?_;rintro e w5 ⟨G5,rfl,hnm,hb5⟩;have HB45:=hid (zn5 hb5);obtain ⟨k0,k1,k2,k3⟩:=HCF.out w5 (HB4w.out.trans (HB45.out.mono HB4w.out.size));clear hb5)
       |(go_at_call 17;refine (HMD.out.make _).mono ?_;rintro e w7 ⟨cs7,rfl,hm7,_,_,hb7⟩;have HM7:=hid hm7;have HB47:=hid (HB45.out.trans (hb7.mono HB45.out.size));have hnm7:=(hb7.cell (zn4 hnm)).trans hnm;clear hm7 hb7)
       |(go_at_call 16;refine (put_14 HLW.out (BX.below HBX4.out HB47.out) (by omega) hn3 HMD.out HNF.out HM7.out).mono ?_;rintro e w6 ⟨rfl,hb6⟩;have HB46:=hid (HB47.out.trans (hb6.mono HB47.out.size));clear hb6))
      all_goals (go_wp2;go_meet;exact hid ⟨rfl,HB46.out⟩)
    case rest =>
     have hv13:=hcut.out.1
     have HC4:=hid hcut.out.2
     clear hcut
     subst hv13
     have HBXc:Hid (BX wc w.heap.size g w.heap.size rm i C' ks ns bm A c S f Ls):=hid (BX.below HBX4.out HC4.out)
     have HRKc:=hid (HRK4.out.below HLW.out.mt.st HC4.out)
     have HBc:=hid (HB4w.out.trans (HC4.out.mono HB4w.out.size))
     obtain ⟨A10,n10,c10,hbk10⟩:=HRKc.out.shelf
     clear g0 g1 g2 g3
     go_wp2_with (first
      |(go_at_call 10;refine (zpm HBXc.out (by omega)).mono ?_;rintro e w8 ⟨A9,c9,rfl,hcv,hb8⟩;rw[← HSX.out, ← HLE.out] at hcv;rw[← HLE.out];have v1:=hcv w8 (Below.refl _ _);have HR8:=hid (HRKc.out.below HLW.out.mt.st hb8);have HB8:=hid (HBc.out.trans (hb8.mono HBc.out.size));have HK8:=hid (zac hbk10 hb8);have x8:w8.cell? ⟨gp,0,none⟩=some (.slice A10 n10 c10):=(zac hbk10 hb8).cell 0;clear hcv hb8)
      |(go_at_call 18;refine (zpi HLW.out HR8.out (by omega) HK8.out).mono ?_;rintro e w9 ⟨rfl,hb9⟩;have HR9:=hid (HR8.out.below HLW.out.mt.st hb9).more;have HB9:=hid (HB8.out.trans (hb9.mono HB8.out.size));clear hb9))
     go_roundw
     case rel=>exact ⟨i+1,by omega,by go_num,HR9,HB9⟩
     case measure=>simp[intOf];omega
  ·obtain ⟨A5,n5,c5,hbk5⟩:=hrk.out.shelf
   go_wp2_with (first
    |(go_at_call 8;go_loud (refine (HLW.out.know wr).mono ?_;rintro e w4 ⟨rfl,hb4⟩;have HR4:=hid (hrk.out.below HLW.out.mt.st hb4);have HB4:=hid (hbe.out.trans (hb4.mono hbe.out.size));have HK5:=hid (zac hbk5 hb4);have x0:w4.cell? ⟨gp,0,none⟩=some (.slice A5 n5 c5):=(zac hbk5 hb4).cell 0;clear hb4))
    |(go_at_call 18;go_loud (refine (zpi HLW.out HR4.out (by omega) HK5.out).mono ?_;rintro e w5 ⟨rfl,hb5⟩;have HB5:=hid (HB4.out.trans (hb5.mono HB4.out.size));clear hb5)))
   go_ret
   exact ⟨rfl,HB5.out⟩
end
end Go.Proofs.YtmejdkniafjncaaGreatDoor.Oc
