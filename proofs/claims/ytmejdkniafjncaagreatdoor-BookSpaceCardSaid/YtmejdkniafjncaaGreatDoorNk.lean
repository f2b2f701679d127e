/- The plain shelf: Put of a name that is new. -/
import Derived.Test.YtmejdkniafjncaaGreatDoorNj
set_option maxHeartbeats 4000000
set_option maxRecDepth 100000
namespace Go.Proofs.YtmejdkniafjncaaGreatDoor.Oc
open Go Go.RowKit Dk
theorem ztg:(Tryz.prog.info? 102).map (fun i=>(i.zero,i.size,i.bytes))=some (some (.agg #[.string ⟨#[]⟩,.int .i64 0,.int .i64 0,.slice none 0 0,.slice none 0 0]),5,80):=by kernel_rfl
section
variable {PM:PMod}(hst:Stays PM){w:World}{B gp:Nat}{far:Nat→Prop}{v:Value}{ps:List Pe}
include hst
theorem zvb (h:SP PM w B far gp v ps)(hs:Small ps)(hB:B≤w.heap.size)(name:ByteArray)(hfu:fullC (ps.map Pe.s) name=false)(hf:fndC (ps.map Pe.s) name=none){ms:List Int}{cs:Array Value}(hcs:cs.size=59∧AllOne cs∧PM w far ms cs)
  (hck:∀ W,Below w.heap.size w W→Calls Tryz.prog 51 #[.agg cs] W fun e w'=>e = .returned (.int .i64 0)∧Below W.heap.size W w') :
  Calls Tryz.prog 24 #[.pointer (some ⟨gp,0,none⟩),.string name,.bool true,.agg cs] w fun e w'=>e = .returned (.tuple #[.int .i64 1,.int .i64 0])∧SPost PM w B far gp v ps (pfC (ps.map Pe.s) ⟨1,name,1,ms⟩) w':=by
 obtain ⟨A,c,rfl⟩:=zbn h.ps
 have HP:=hid h
 have HS:=hid hs
 have HFC:=hid hf
 have HFU:=hid hfu
 have HCS:=hid hcs
 have HCK:=hid hck
 have HI:Hid ((Tryz.prog.info? 88).map (·.size)=some cs.size):=hid (by rw[hcs.1];exact zau)
 have HLN:Hid ((ps.map Pe.o).length≤100000):=hid (by rw[List.length_map];have:=hs.1;omega)
 have hfo:fndO (ps.map Pe.o) name=none:=by
  rcases zmi name ps with ⟨_,h1⟩|⟨j,p,_,h1,_⟩
  ·exact h1
  ·rw[hf] at h1;cases h1
 have HAT:Hid (atL (ps.map Pe.o) name 0 = -1):=hid (zg5 hfo)
 have hoth:othL (ps.map Pe.o) name<20:=by
  rw[zn0 fun p hp=>(h.ps.each p hp).n]
  unfold fullC at hfu
  simp only[Bool.or_eq_false_iff,decide_eq_false_iff_not] at hfu
  omega
 obtain ⟨q,HQ⟩:∃ q,Hid (othL (ps.map Pe.o) name=q):=⟨_,hid rfl⟩
 rw[HQ.out] at hoth
 have hq20:q<20:=hoth
 have hlen:ps.length≤1000:=hs.1
 obtain ⟨i2,hi0,hz0,hz1,hz2⟩:=info_parts ztg
 have HIo:=hid hi0
 obtain ⟨zo,hzo⟩:∃ z,z=Value.agg #[.string ⟨#[]⟩,.int .i64 0,.int .i64 0,.slice none 0 0,.slice none 0 0]:=⟨_,rfl⟩
 rw[← hzo] at hz0
 have HZ0o:=hid hz0
 have HZ1o:=hid hz1
 have HZ2o:=hid hz2
 have HZ3o:Hid (zo.cells.size=5):=hid (by rw[hzo];rfl)
 clear hi0 hz0 hz1 hz2 hzo
 clear h hs hf hfu hcs hck hfo hoth
 go_enter Tryz.func24,Tryz.ntmps24
 have HMC:Hid (Blk (w.alloc (.cells cs 88)) w.heap.size 88 cs):=hid (Blk.new w _ _)
 have HB:Hid (Below w.heap.size w (w.alloc (.cells cs 88))):=hid (Below.new1 w _)
 go_upto_region 1 with fail
 generalize w.alloc (.cells cs 88)=W1 at HMC HB ⊢
 go_upto_region 5 with (first
  |(refine za2 _ rfl 88 _ rfl w.heap.size cs 88 (0,0) _ rfl (by exact HMC.out) Tryz.underlying88 rfl HI.out ?_)
  |(go_at_call 51;refine (HCK.out W1 HB.out).mono ?_;rintro e w2 ⟨rfl,hb2⟩;have HB2:=hid (HB.out.trans (hb2.mono HB.out.size));have HMC2:=hid (zac HMC.out hb2);clear hb2))
 have HSP2:=hid (HP.out.below hst HB2.out)
 have c2:w2.cell? ⟨gp,0,none⟩=some (.slice A ps.length c):=HSP2.out.pt.cell 0
 go_upto_region 6 with (go_at_call 37;refine (zjn HSP2.out.ps.row HLN.out name).mono ?_;rintro e w3 ⟨rfl,hb3⟩;rw[HAT.out];have HSP3:=hid (HSP2.out.below hst hb3);have HB3:=hid (HB2.out.trans (hb3.mono HB2.out.size));have HMC3:=hid (zac HMC2.out hb3);clear hb3)
 have c3:w3.cell? ⟨gp,0,none⟩=some (.slice A ps.length c):=HSP3.out.pt.cell 0
 have hg1:decide ((20:Int)≤(q:Int))=false:=by simp;omega
 have hg2:decide ((0:Int)≤(-1:Int))=false:=by decide
 go_upto_region 9 with (go_at_call 52;refine (zjo HSP3.out.ps.row HLN.out name).mono ?_;rintro e w4 ⟨rfl,hb4⟩;rw[HQ.out];have HSP4:=hid (HSP3.out.below hst hb4);have HB4:=hid (HB3.out.trans (hb4.mono HB3.out.size));have HMC4:=hid (zac HMC3.out hb4);have c4:w4.cell? ⟨gp,0,none⟩=some (.slice A ps.length c):=HSP4.out.pt.cell 0;clear hb4)
 have HOR:Hid (w4.ownsRow B 102 5 (.slice A ps.length c) ps.length ((ps.map Pe.o).map cellsO).flatten):=hid (by
  have:=HSP4.out.ps.row
  unfold OnRow at this
  rw[List.length_map] at this
  exact this)
 obtain ⟨xso,hxso⟩:∃ xs,xs=((ps.map Pe.o).map cellsO).flatten:=⟨_,rfl⟩
 rw[← hxso] at HOR
 have HXO:=hid hxso
 have hsz4:w.heap.size≤w4.heap.size:=HB4.out.size
 clear hxso c2 c3 hg1 hg2
 go_upto_region 10 with (at_builtin;go_loud (refine wpList_append_lies _ rfl _ _ 32 rfl B 102 i2 zo 5 80 Tryz.underlying32 HIo.out HZ0o.out HZ1o.out HZ2o.out HZ3o.out (by decide) (.slice A ps.length c) ps.length xso rfl (by exact (zax HOR.out (Below.new1 w4 _))) ⟨w4.heap.size,0,none⟩ 1 1 [.string name,.int .i64 1,.int .i64 0,.slice none 0 0,.slice none 0 0] rfl rfl (fun r u hu=>zc5 w4 _ _ r u hu) (zd8 rfl) (by decide) (by unfold maxLen;omega) (by omega) (by simp;omega) (w4.heap.size+1) (by simp) ?_;intro g capo w5 hown5 hgrow5 hlie5 hlt5;have HO5:=hid hown5;have HLI5:=hid hlie5;have ha5:Alt w4 w5 (fun k=>(Value.slice A ps.length c).ownBlock=some k):=(Alt.alloc (Alt.refl w4 _) _).trans (Alt.grow hgrow5) (fun _ _ h=>h);have HA5:=hid ha5;have hgp5:¬ (Value.slice A ps.length c).ownBlock=some gp:=(fun e=>zao HOR.out HSP4.out.pt (by decide) e);have HGP5:=hid hgp5;have c5:w5.cell? ⟨gp,0,none⟩=some (.slice A ps.length c):=(World.cell?_of_block (ha5.block gp HSP4.out.pt.lt hgp5)).trans c4;have fz5:w5.frozen? ⟨gp,0,none⟩=false:=(World.frozen?_of_block (ha5.block gp HSP4.out.pt.lt hgp5)).trans (HSP4.out.pt.frozen 0);clear hown5 hgrow5 hlie5 hlt5 ha5 hgp5))
 obtain ⟨n1,hn1⟩:∃ n1,n1=ps.length+1:=⟨_,rfl⟩
 obtain ⟨j,hjj⟩:∃ j,j=ps.length:=⟨_,rfl⟩
 obtain ⟨p,hpp⟩:∃ p:Pe,p=⟨⟨name,1,0,none,0,0,none,0⟩,[]⟩:=⟨_,rfl⟩
 have has:Alt w5 (w5.setCell ⟨gp,0,none⟩ (.slice (some ⟨g,0,none⟩) (ps.length+1) capo)) (fun k=>k=gp):=Alt.set_ (p:=fun k=>k=gp) (a:=⟨gp,0,none⟩) (Alt.refl _ _) rfl _
 have hpt5:Blk w5 gp 34 #[.slice A ps.length c]:=HSP4.out.pt.kept HA5.out HGP5.out
 have hpt6:Blk (w5.setCell ⟨gp,0,none⟩ (.slice (some ⟨g,0,none⟩) (ps.length+1) capo)) gp 34 #[.slice (some ⟨g,0,none⟩) (ps.length+1) capo]:=hpt5.set_ 0 _
 have ha6:Alt w4 (w5.setCell ⟨gp,0,none⟩ (.slice (some ⟨g,0,none⟩) (ps.length+1) capo)) (fun k=>k=gp∨(Value.slice A ps.length c).ownBlock=some k):=(HA5.out.mono fun k e => .inr e).trans has (fun _ _ e => .inl e)
 have hr6:(w5.setCell ⟨gp,0,none⟩ (.slice (some ⟨g,0,none⟩) (ps.length+1) capo)).ownsRow B 102 5 (.slice (some ⟨g,0,none⟩) (ps.length+1) capo) (ps.length+1) (xso++[.string name,.int .i64 1,.int .i64 0,.slice none 0 0,.slice none 0 0]):=zan HO5.out has (fun k hk e=>zao HO5.out hpt5 (by decide) (by rw[← e];exact hk))
 have hb6:Blk (w5.setCell ⟨gp,0,none⟩ (.slice (some ⟨g,0,none⟩) (ps.length+1) capo)) w.heap.size 88 cs:=HMC4.out.kept ha6 (fun e=>e.elim (fun e=>Blk.ne_ HMC4.out HSP4.out.pt (by decide) e) (fun e=>zao HOR.out HMC4.out (by decide) e))
 have HLI:=HLI5
 have hgnew:(Value.slice A ps.length c).ownBlock=some g∨(w4.heap.size≤g∧g<(w5.setCell ⟨gp,0,none⟩ (.slice (some ⟨g,0,none⟩) (ps.length+1) capo)).heap.size):=by
  rcases HLI5.out with h1|h1
  ·exact .inl h1
  ·exact .inr ⟨by omega,zdh hr6 g rfl⟩
 have HW6:Hid (w4.heap.size≤(w5.setCell ⟨gp,0,none⟩ (.slice (some ⟨g,0,none⟩) (ps.length+1) capo)).heap.size):=hid ha6.size
 have c6:(w5.setCell ⟨gp,0,none⟩ (.slice (some ⟨g,0,none⟩) (ps.length+1) capo)).cell? ⟨gp,0,none⟩=some (.slice (some ⟨g,0,none⟩) n1 capo):=by rw[hn1];exact hpt6.cell 0
 rw[← hn1] at hpt6 ha6 hr6 hb6 hgnew HW6 ⊢
 have HR6:=hid hr6
 have HPT6:=hid hpt6
 have HA6:=hid ha6
 have HBX:=hid hb6
 have HGN:=hid hgnew
 rw[← hn1] at c6
 clear has hpt5 c5 fz5 hpt6 ha6 hr6 hb6 hgnew c4
 generalize w5.setCell ⟨gp,0,none⟩ (.slice (some ⟨g,0,none⟩) n1 capo)=W6 at HR6 HPT6 HA6 HBX HGN HW6 c6 ⊢
 have HN1:=hid hn1
 have HJN:=hid hjj
 have HPP:=hid hpp
 have hwj:IntKind.i64.wrap ((n1:Int) - 1)=(j:Int):=(IntWalk.i64_in _ (by omega)).trans (by omega)
 have hjn':(j:Int)<(n1:Int):=by omega
 clear hn1 hjj hpp
 go_upto_region 12 with fail
 have HPN:Hid (p.o.vn=0):=hid (by rw[HPP.out])
 have hown0:∀ k,¬ p.own k:=by
  rintro k (h|h)
  ·rw[HPP.out] at h;cases h
  ·rw[HPP.out] at h;cases h
 have HOW0:=hid hown0
 obtain ⟨psx,hpsx⟩:∃ l,l=ps++[p]:=⟨_,rfl⟩
 have HPS:=hid hpsx
 have hxl:n1=psx.length:=by rw[hpsx,HN1.out,List.length_append];rfl
 have HNX:=hid hxl
 have HJX:Hid (psx[j]? = some p):=hid (by rw[hpsx,HJN.out,List.getElem?_append_right (Nat.le_refl _),Nat.sub_self];rfl)
 have hq:∀ k,k<w4.heap.size→(k=gp∨(Value.slice A ps.length c).ownBlock=some k)→far k∨TB w4 k:=fun k _ e => .inl (e.elim (fun e=>by rw[e];exact HSP4.out.fg) (fun e=>HSP4.out.ps.fo k e))
 have hfar:∀ k,k<w4.heap.size→farN w4 W6 far k→far k:=fun k hk hf=>hf.elim id (fun h=>by omega)
 have HSPX:Hid (SP PM W6 B (farN w4 W6 far) gp (.slice (some ⟨g,0,none⟩) n1 capo) psx):=hid (by
  refine ⟨HPT6.out,⟨?_,fun x hx=>?_,?_,fun k hk=>?_,fun x hx k hk=>?_⟩,HSP4.out.bg,.inl HSP4.out.fg⟩
  ·unfold OnRow
   rw[List.length_map, ← hxl,hpsx,List.map_append,List.map_append,List.flatten_append]
   have h1:=HR6.out
   rw[HXO.out] at h1
   rw[HPP.out]
   exact h1
  ·rw[hpsx] at hx
   rcases List.mem_append.1 hx with hx|hx
   ·refine (HSP4.out.ps.each x hx).alt hst HA6.out hq (fun k hk e=>?_) hfar
    rcases e with e|e
    ·rcases hk with hk|hk
     ·exact zao (HSP4.out.ps.each x hx).vr HSP4.out.pt (by decide) (by rw[← e];exact hk)
     ·exact zao (HSP4.out.ps.each x hx).mr HSP4.out.pt (by decide) (by rw[← e];exact hk)
    ·rcases hk with hk|hk
     ·exact zag HOR.out (HSP4.out.ps.each x hx).vr (by decide) k e hk
     ·exact zag HOR.out (HSP4.out.ps.each x hx).mr (by decide) k e hk
   ·rw[List.mem_singleton.1 hx,HPP.out]
    exact ⟨rfl,World.ownsRow_nil _ _ _ _,World.ownsRow_nil _ _ _ _,fun t ht=>by cases ht⟩
  ·rw[hpsx,List.pairwise_append]
   refine ⟨HSP4.out.ps.ap,List.pairwise_singleton _ _,fun a _ b hb k _ hk=>?_⟩
   rw[List.mem_singleton.1 hb] at hk
   exact HOW0.out k hk
  ·have hk':g=k:=by simpa [Value.ownBlock] using hk
   rw[← hk']
   rcases HGN.out with h1|h1
   ·exact .inl (HSP4.out.ps.fo g h1)
   ·exact .inr h1
  ·rw[hpsx] at hx
   rcases List.mem_append.1 hx with hx|hx
   ·exact .inl (HSP4.out.ps.fp x hx k hk)
   ·rw[List.mem_singleton.1 hx] at hk
    exact absurd hk (HOW0.out k))
 have HREL:Hid ((∀ k,So gp (.slice (some ⟨g,0,none⟩) n1 capo) psx k→So gp (.slice A ps.length c) ps k∨w.heap.size≤k)∧Alt w W6 (So gp (.slice A ps.length c) ps)∧(∀ k,far k→farN w4 W6 far k)∧(∀ k,farN w4 W6 far k→far k∨(w.heap.size≤k∧k<W6.heap.size))):=hid (by
  refine ⟨?_,(alt_of_below HB4.out).trans HA6.out (fun k _ e=>e.elim .inl (fun e => .inr (.inl e))),fun k h => .inl h,fun k h=>h.imp id (fun h=>⟨Nat.le_trans hsz4 h.1,h.2⟩)⟩
  rintro k (e|e|⟨x,hx,e⟩)
  ·exact .inl (.inl e)
  ·have hk':g=k:=by simpa [Value.ownBlock] using e
   rw[← hk']
   rcases HGN.out with h1|h1
   ·exact .inl (.inr (.inl h1))
   ·exact .inr (Nat.le_trans hsz4 h1.1)
  ·rw[hpsx] at hx
   rcases List.mem_append.1 hx with hx|hx
   ·exact .inl (.inr (.inr ⟨x,hx,e⟩))
   ·rw[List.mem_singleton.1 hx] at e
    exact absurd e (HOW0.out k))
 have HCSX:Hid (cs.size=59∧AllOne cs∧PM W6 (farN w4 W6 far) ms cs):=hid ⟨HCS.out.1,HCS.out.2.1,hst _ _ _ _ _ _ _ (hst _ _ far far _ _ _ HCS.out.2.2 (alt_of_below (p:=fun _=>False) HB4.out) (fun _ _ h=>h.elim) (fun _ _ h=>h)) HA6.out hq hfar⟩
 have HFIN:Hid (∀ p':Pe,p'.s=putS p.s p.o.next ms→(psx.set j p').map Pe.s=pfC (ps.map Pe.s) ⟨1,name,p.o.next,ms⟩):=hid fun p' hp'=>by
  unfold pfC
  rw[if_pos rfl,HFC.out,hpsx,HJN.out,List.map_set,hp',List.map_append,List.set_append_right _ _ (by rw[List.length_map];exact Nat.le_refl _),List.length_map,Nat.sub_self,HPP.out]
  rfl
 have HNXB:Hid (p.o.next≤100000):=hid (by rw[HPP.out];show 1≤_;omega)
 have HVNB:Hid (p.o.vn<40):=hid (by rw[HPP.out];show 0<40;omega)
 have hBB:=hB
 have HNBM:Hid (¬ p.own w.heap.size):=hid (hown0 _)
 clear hown0 hq hfar hxl hpsx c6 hwj hjn' hsz4
 obtain ⟨g_,hg_,hgcX,hgfX,_⟩:=HSPX.out.ps.live HJX.out
 obtain rfl:g=g_:=by injection hg_ with e;injection e
 have q1:=hgcX 1 (.int .i64 (p.o.next:Int)) (by decide) rfl
 have q2:=hgcX 2 (.int .i64 (p.o.live:Int)) (by decide) rfl
 have q3:=hgcX 3 (.slice p.o.vA p.o.vn p.o.vc) (by decide) rfl
 have q4:=hgcX 4 (.slice p.o.mA p.o.vn p.o.mc) (by decide) rfl
 have HPX:=hid (HSPX.out.ps.each p (za7 HJX.out))
 obtain ⟨L,hLL⟩:∃ L,L=p.o.vn:=⟨_,rfl⟩
 obtain ⟨vA,hvA⟩:∃ x,x=p.o.vA:=⟨_,rfl⟩
 obtain ⟨vc,hvc⟩:∃ x,x=p.o.vc:=⟨_,rfl⟩
 obtain ⟨mA,hmA⟩:∃ x,x=p.o.mA:=⟨_,rfl⟩
 obtain ⟨mc,hmc⟩:∃ x,x=p.o.mc:=⟨_,rfl⟩
 obtain ⟨NX,hNX⟩:∃ x,x=p.o.next:=⟨_,rfl⟩
 obtain ⟨LV,hLV⟩:∃ x,x=p.o.live:=⟨_,rfl⟩
 rw[← hLL, ← hvA, ← hvc] at q3
 rw[← hLL, ← hmA, ← hmc] at q4
 rw[← hNX] at q1
 rw[← hLV] at q2
 have hvr:W6.ownsRow B 3 1 (.slice vA L vc) L ((versT p.ts).map (Value.int .i64)):=by
  have:=HPX.out.vr
  unfold IntRow at this
  rw[show (versT p.ts).length=L by unfold versT;rw[List.length_map,hLL,HPX.out.n],show p.o.vv = .slice vA L vc by rw[hLL,hvA,hvc]] at this
  exact this
 have hmr:W6.ownsRow B 88 59 (.slice mA L mc) L (flatT p.ts):=by
  have:=HPX.out.mr
  rw[show p.ts.length=L by rw[hLL,HPX.out.n],show p.o.mv = .slice mA L mc by rw[hLL,hmA,hmc]] at this
  exact this
 have HEQ:=hid (And.intro hLL (And.intro hvA (And.intro hvc (And.intro hmA (And.intro hmc (And.intro hNX hLV))))))
 have hNX0:NX≤100000:=by rw[hNX];exact HNXB.out
 have hL40:L<40:=by rw[hLL];exact HVNB.out
 obtain ⟨i0,hi0,hz0,hz1,hz2⟩:=info_parts zib
 have HIv:=hid hi0
 obtain ⟨zv,hzv⟩:∃ z,z=Value.int .i64 0:=⟨_,rfl⟩
 rw[← hzv] at hz0
 have HZ0v:=hid hz0
 have HZ1v:=hid hz1
 have HZ2v:=hid hz2
 have HZ3v:Hid (zv.cells.size=1):=hid (by rw[hzv];rfl)
 clear hi0 hz0 hz1 hz2 hzv
 obtain ⟨i1,hi0,hz0,hz1,hz2⟩:=info_parts zpa
 have HIm:=hid hi0
 obtain ⟨zm,hzm⟩:∃ z,z=Value.agg zM:=⟨_,rfl⟩
 rw[← hzm] at hz0
 have HZ0m:=hid hz0
 have HZ1m:=hid hz1
 have HZ2m:=hid hz2
 have HZ3m:Hid (zm.cells.size=59):=hid (by rw[hzm];rfl)
 clear hi0 hz0 hz1 hz2 hzm
 obtain ⟨xsv,hxsv⟩:∃ xs,xs=(versT p.ts).map (Value.int .i64):=⟨_,rfl⟩
 obtain ⟨xsm,hxsm⟩:∃ xs,xs=flatT p.ts:=⟨_,rfl⟩
 rw[← hxsv] at hvr
 rw[← hxsm] at hmr
 have HXV:=hid hxsv
 have HXM:=hid hxsm
 have HVX:=hid hvr
 have HMX:=hid hmr
 have hor:W6.ownsRow B 102 5 (.slice (some ⟨g,0,none⟩) n1 capo) n1 ((psx.map Pe.o).map cellsO).flatten:=by
  have:=HSPX.out.ps.row
  unfold OnRow at this
  rw[List.length_map, ← HNX.out] at this
  exact this
 have HRX:=hid hor
 have HGFX:=hid hgfX
 have hwn:IntKind.i64.wrap ((NX:Int)+1)=(NX:Int)+1:=IntWalk.i64_in _ (by omega)
 have HOVX:Hid (∀ k,(Value.slice vA L vc).ownBlock=some k→p.own k):=hid fun k hk => .inl (by have h1:=HEQ.out;rw[show p.o.vv = .slice vA L vc by rw[h1.1,h1.2.1,h1.2.2.1]];exact hk)
 have HOMX:Hid (∀ k,(Value.slice mA L mc).ownBlock=some k→p.own k):=hid fun k hk => .inr (by have h1:=HEQ.out;rw[show p.o.mv = .slice mA L mc by rw[h1.1,h1.2.2.2.1,h1.2.2.2.2.1]];exact hk)
 clear hLL hvA hvc hmA hmc hNX hLV hvr hmr hor hxsv hxsm hgcX hgfX hg_
 go_upto_region 13 with fail
 have HNBX:Hid (¬ (Value.slice mA L mc).ownBlock=some w.heap.size):=hid (fun e=>HNBM.out (HOMX.out _ e))
 have hL:L=0:=by have h1:=HEQ.out.1;have h2:=HPN.out;omega
 have hL0:(L:Int)=0:=by omega
 have HL0:=hid hL
 have fz2:W6.frozen? ⟨g,j*5+2,none⟩=false:=HGFX.out _
 clear hL
 go_upto_region 15 with fail
 clear hL0 fz2
 have has:Alt W6 (W6.setCell ⟨g,j*5+2,none⟩ (.int .i64 (NX:Int))) (fun k=>k=g):=Alt.set_ (p:=fun k=>k=g) (a:=⟨g,j*5+2,none⟩) (Alt.refl _ _) rfl _
 have HAY:Hid (Alt W6 (W6.setCell ⟨g,j*5+2,none⟩ (.int .i64 (NX:Int))) (fun k=>k=g∨p.own k)):=hid (has.mono fun k e => .inl e)
 have HRY:Hid ((W6.setCell ⟨g,j*5+2,none⟩ (.int .i64 (NX:Int))).ownsRow B 102 5 (.slice (some ⟨g,0,none⟩) n1 capo) n1 (((psx.map Pe.o).map cellsO).flatten.set (j*5+2) (.int .i64 (NX:Int)))):=hid (zb2 HRX.out)
 have HVY:Hid ((W6.setCell ⟨g,j*5+2,none⟩ (.int .i64 (NX:Int))).ownsRow B 3 1 (.slice vA L vc) L xsv):=hid (zan HVX.out has (fun k hk e=>zag HVX.out HRX.out (by decide) k hk (by rw[e];rfl)))
 have HMY:Hid ((W6.setCell ⟨g,j*5+2,none⟩ (.int .i64 (NX:Int))).ownsRow B 88 59 (.slice mA L mc) L xsm):=hid (zan HMX.out has (fun k hk e=>zag HMX.out HRX.out (by decide) k hk (by rw[e];rfl)))
 have HBY:Hid (Blk (W6.setCell ⟨g,j*5+2,none⟩ (.int .i64 (NX:Int))) w.heap.size 88 cs):=hid (HBX.out.kept has (fun e=>zao HRX.out HBX.out (by decide) (by rw[e];rfl)))
 have y1:(W6.setCell ⟨g,j*5+2,none⟩ (.int .i64 (NX:Int))).cell? ⟨g,j*5+1,none⟩=some (.int .i64 (NX:Int)):=(zaq W6 _ _ _ (by omega)).trans q1
 have y3:(W6.setCell ⟨g,j*5+2,none⟩ (.int .i64 (NX:Int))).cell? ⟨g,j*5+3,none⟩=some (.slice vA L vc):=(zaq W6 _ _ _ (by omega)).trans q3
 have y4:(W6.setCell ⟨g,j*5+2,none⟩ (.int .i64 (NX:Int))).cell? ⟨g,j*5+4,none⟩=some (.slice mA L mc):=(zaq W6 _ _ _ (by omega)).trans q4
 have HFY:Hid (∀ i,(W6.setCell ⟨g,j*5+2,none⟩ (.int .i64 (NX:Int))).frozen? ⟨g,i,none⟩=false):=hid fun i=>by rw[World.frozen?_setCell];exact HGFX.out i
 have hsy:w.heap.size<(W6.setCell ⟨g,j*5+2,none⟩ (.int .i64 (NX:Int))).heap.size:=HBY.out.lt
 clear q1 q2 q3 q4 has
 generalize W6.setCell ⟨g,j*5+2,none⟩ (.int .i64 (NX:Int))=WY at HAY HRY HVY HMY HBY y1 y3 y4 HFY hsy ⊢
 have HY1:=hid y1
 have HY4:=hid y4
 have HXS:Hid (W6.heap.size≤WY.heap.size):=hid HAY.out.size
 have HBB:Hid (B≤w.heap.size):=hid hBB
 have HLG:Hid (g<WY.heap.size):=hid (zdh HRY.out g rfl)
 clear y1 y4
 go_upto_region 16 with (at_builtin;go_loud (refine wpList_append_lies _ rfl _ _ 80 rfl B 3 i0 zv 1 8 Tryz.underlying80 HIv.out HZ0v.out HZ1v.out HZ2v.out HZ3v.out (by decide) (.slice vA L vc) L xsv rfl (by exact (zax HVY.out (Below.new1 WY _))) ⟨WY.heap.size,0,none⟩ 1 1 [.int .i64 (NX:Int)] rfl rfl (fun r u hu=>zc5 WY _ _ r u hu) (zd8 rfl) (by decide) (by unfold maxLen;omega) (by omega) (by simp;omega) (WY.heap.size+1) (by simp) ?_;intro g5 cap5 w5 hown5 hgrow5 hlie5 hlt5;have HO5:=hid hown5;have HLI5:=hid hlie5;have ha5:Alt WY w5 (fun k=>(Value.slice vA L vc).ownBlock=some k):=(Alt.alloc (Alt.refl WY _) _).trans (Alt.grow hgrow5) (fun _ _ h=>h);have HA5:=hid ha5;have hg5:¬ (Value.slice vA L vc).ownBlock=some g:=(fun e=>zag HVY.out HRY.out (by decide) g e rfl);have HG5:=hid hg5;have p3:w5.cell? ⟨g,j*5+3,none⟩=some (.slice vA L vc):=(World.cell?_of_block (ha5.block g HLG.out hg5)).trans y3;have fz3:w5.frozen? ⟨g,j*5+3,none⟩=false:=(World.frozen?_of_block (ha5.block g HLG.out hg5)).trans (HFY.out _);clear hown5 hgrow5 hlie5 hlt5 ha5 hg5))
 have has:Alt w5 (w5.setCell ⟨g,j*5+3,none⟩ (.slice (some ⟨g5,0,none⟩) (L+1) cap5)) (fun k=>k=g):=Alt.set_ (p:=fun k=>k=g) (a:=⟨g,j*5+3,none⟩) (Alt.refl _ _) rfl _
 have hr5:=zan HRY.out HA5.out (fun k hk=>by have:k=g:=(by simpa [Value.ownBlock] using hk.symm);rw[this];exact HG5.out)
 have hm5:=zan HMY.out HA5.out (fun k hk e=>zag HMY.out HVY.out (by decide) k hk e)
 have hb5:=HBY.out.kept HA5.out (fun e=>zao HVY.out HBY.out (by decide) e)
 have HA15:Hid (Alt W6 (w5.setCell ⟨g,j*5+3,none⟩ (.slice (some ⟨g5,0,none⟩) (L+1) cap5)) (fun k=>k=g∨p.own k)):=hid ((HAY.out.trans HA5.out (fun k _ e => .inr (HOVX.out k e))).trans has (fun k _ e => .inl e))
 have HR15:Hid ((w5.setCell ⟨g,j*5+3,none⟩ (.slice (some ⟨g5,0,none⟩) (L+1) cap5)).ownsRow B 102 5 (.slice (some ⟨g,0,none⟩) n1 capo) n1 ((((psx.map Pe.o).map cellsO).flatten.set (j*5+2) (.int .i64 (NX:Int))).set (j*5+3) (.slice (some ⟨g5,0,none⟩) (L+1) cap5))):=hid (zb2 hr5)
 have HV15:Hid ((w5.setCell ⟨g,j*5+3,none⟩ (.slice (some ⟨g5,0,none⟩) (L+1) cap5)).ownsRow B 3 1 (.slice (some ⟨g5,0,none⟩) (L+1) cap5) (L+1) (xsv++[.int .i64 (NX:Int)])):=hid (zan HO5.out has (fun k hk e=>zag HO5.out hr5 (by decide) k hk (by rw[e];rfl)))
 have HM15:Hid ((w5.setCell ⟨g,j*5+3,none⟩ (.slice (some ⟨g5,0,none⟩) (L+1) cap5)).ownsRow B 88 59 (.slice mA L mc) L xsm):=hid (zan hm5 has (fun k hk e=>zag hm5 hr5 (by decide) k hk (by rw[e];rfl)))
 have HB15:Hid (Blk (w5.setCell ⟨g,j*5+3,none⟩ (.slice (some ⟨g5,0,none⟩) (L+1) cap5)) w.heap.size 88 cs):=hid (hb5.kept has (fun e=>zao hr5 hb5 (by decide) (by rw[e];rfl)))
 have HZ1:Hid ((w5.setCell ⟨g,j*5+3,none⟩ (.slice (some ⟨g5,0,none⟩) (L+1) cap5)).cell? ⟨g,j*5+1,none⟩=some (.int .i64 (NX:Int))):=hid ((zaq w5 _ _ _ (by omega)).trans ((World.cell?_of_block (HA5.out.block g HLG.out HG5.out)).trans HY1.out))
 have z4:(w5.setCell ⟨g,j*5+3,none⟩ (.slice (some ⟨g5,0,none⟩) (L+1) cap5)).cell? ⟨g,j*5+4,none⟩=some (.slice mA L mc):=(zaq w5 _ _ _ (by omega)).trans ((World.cell?_of_block (HA5.out.block g HLG.out HG5.out)).trans HY4.out)
 have HF15:Hid (∀ i,(w5.setCell ⟨g,j*5+3,none⟩ (.slice (some ⟨g5,0,none⟩) (L+1) cap5)).frozen? ⟨g,i,none⟩=false):=hid fun i=>by rw[World.frozen?_setCell];exact (World.frozen?_of_block (HA5.out.block g HLG.out HG5.out)).trans (HFY.out i)
 have HOV5:Hid (∀ k,(Value.slice (some ⟨g5,0,none⟩) (L+1) cap5).ownBlock=some k→(Value.slice vA L vc).ownBlock=some k∨W6.heap.size≤k):=hid fun k hk=>by
  have hk':g5=k:=by simpa [Value.ownBlock] using hk
  rw[← hk']
  rcases HLI5.out with h1|h1
  ·exact .inl h1
  ·exact .inr (by have:=HXS.out;omega)
 have HW15:Hid (w.heap.size<(w5.setCell ⟨g,j*5+3,none⟩ (.slice (some ⟨g5,0,none⟩) (L+1) cap5)).heap.size∧g<(w5.setCell ⟨g,j*5+3,none⟩ (.slice (some ⟨g5,0,none⟩) (L+1) cap5)).heap.size):=hid ⟨HB15.out.lt,zdh HR15.out g rfl⟩
 clear has hr5 hm5 hb5 p3 fz3 y3 hsy
 generalize w5.setCell ⟨g,j*5+3,none⟩ (.slice (some ⟨g5,0,none⟩) (L+1) cap5)=W15 at HA15 HR15 HV15 HM15 HB15 HZ1 z4 HF15 HW15 ⊢
 have HNB15:Hid (¬ (Value.slice mA L mc).ownBlock=some w.heap.size):=hid HNBX.out
 refine Hl.wp_region_L 10 (S:=fun W=>W.cell? ⟨g,j*5+4,none⟩=some (.slice mA L mc)∧Blk W w.heap.size 88 cs) (by kernel_rfl) (by exact ⟨z4,HB15.out⟩) (fun hHeld=>?_)
 refine Hl.wpAnyL_take (i:=0) (oi:=_) (v:=?v0_1) rfl (by kernel_rfl) (by kernel_rfl) (by kernel_rfl) (by kernel_rfl) (fun _ _ _ h=>h) (Or.inl ⟨by rfl,?y0_1⟩) (by assumption) ?r0_1
 case y0_1=>(intro w hSw;(try dsimp only at hSw);have hSw1:=hSw.1;clear hSw;(try simp only[kA,kB]);go_simp;try (with_reducible rfl))
 try simp only[Act.put,kF,kD,kE,kA,kB]
 refine Hl.wpAnyL_take (i:=1) (oi:=_) (v:=?v1_2) rfl (by kernel_rfl) (by kernel_rfl) (by kernel_rfl) (by kernel_rfl) (fun _ _ _ h=>h) (Or.inl ⟨by rfl,?y1_2⟩) (by assumption) ?r1_2
 case y1_2=>(intro w hSw;(try dsimp only at hSw);have hSw1:=hSw.1;clear hSw;(try simp only[kA,kB,kC]);go_simp;try (with_reducible rfl))
 try simp only[Act.put,kF,kD,kE,kA,kB,kC]
 refine Hl.wpAnyL_take (i:=2) (oi:=_) (v:=?v2_3) rfl (by kernel_rfl) (by kernel_rfl) (by kernel_rfl) (by kernel_rfl) (fun _ _ _ h=>h) (Or.inl ⟨by rfl,?y2_3⟩) (by assumption) ?r2_3
 case y2_3=>(intro w hSw;(try dsimp only at hSw);have hSw1:=hSw.1;clear hSw;(try simp only[kA,kB,kC]);go_simp;try (with_reducible rfl))
 try simp only[Act.put,kF,kD,kE,kA,kB,kC]
 refine Hl.wpAnyL_take (i:=3) (oi:=_) (v:=?v3_4) rfl (by kernel_rfl) (by kernel_rfl) (by kernel_rfl) (by kernel_rfl) (fun _ _ _ h=>h) (Or.inl ⟨by rfl,?y3_4⟩) (by assumption) ?r3_4
 case y3_4=>(intro w hSw;(try dsimp only at hSw);have hSw1:=hSw.1;clear hSw;(try simp only[kA,kB,kC]);go_simp;try (with_reducible rfl))
 try simp only[Act.put,kF,kD,kE,kA,kB,kC]
 refine Hl.wpAnyL_take (i:=4) (oi:=_) (v:=?v4_5) rfl (by kernel_rfl) (by kernel_rfl) (by kernel_rfl) (by kernel_rfl) (fun _ _ _ h=>h) (Or.inl ⟨by rfl,?y4_5⟩) (by assumption) ?r4_5
 case y4_5=>(intro w hSw;(try dsimp only at hSw);have hSw1:=hSw.1;clear hSw;(try simp only[kA,kB,kC]);go_simp;try (with_reducible rfl))
 try simp only[Act.put,kF,kD,kE,kA,kB,kC]
 refine Hl.wpAnyL_take (i:=5) (oi:=_) (v := .agg cs) rfl (by kernel_rfl) (by kernel_rfl) (by kernel_rfl) (by kernel_rfl) (fun _ _ _ h=>h) (zbz (by rfl) 88 (.tmp 7) rfl w.heap.size rfl cs 88 _ (fun W hW=>hW.2) Tryz.underlying88 rfl HI.out) (by assumption) ?r5_6
 try simp only[Act.put,kF,kD,kE,kA,kB,kC]
 refine Hl.wpAnyL_one (i:=6) (by kernel_rfl) rfl (fun K hK=>?_)
 refine zc9 W15.drew ?_ 100 (.tmp 99) ?_ 88 i1 zm cs Tryz.underlying100 HIm.out HZ0m.out (by rw[HZ1m.out];exact HCSX.out.1.symm) (by rw[HCSX.out.1];decide) (by rw[HCSX.out.1];decide) ?_ ?_
 ·rfl
 ·rfl
 ·rfl
 refine hK.out _ _ (fun _=>by exact ⟨(World.cell?_alloc_lt _ _ _ HW15.out.2).trans z4,HB15.out.alloc _⟩) (fun hHeld=>?_)
 replace hHeld:=hHeld (by decide)
 clear hK K
 try simp only[Act.put,kF,kD,kE,kA,kB,kC]
 refine Hl.wpAnyL_one (i:=7) (by kernel_rfl) rfl (fun K hK=>?_)
 refine step_append_lies ((W15.alloc (.cells cs 88)).drew) ?_ (.tmp 98) (.tmp 100) 100 ?_ B 88 i1 zm 59 856 Tryz.underlying100 HIm.out HZ0m.out HZ1m.out HZ2m.out HZ3m.out (by decide) (.slice mA L mc) L xsm ?_ (zax HM15.out (Below.new1 W15 (.cells cs 88)).drew) ⟨W15.heap.size,0,none⟩ 1 1 cs.toList ?_ (by rw[Array.length_toList,HCSX.out.1]) (zig W15 88 cs) (fun u hu=>by have h1:cs.all (·.oneCell')=true:=HCSX.out.2.1;rw[← Array.all_toList] at h1;exact List.all_eq_true.1 h1 u hu) (by decide) (by unfold maxLen;omega) (by omega) (by have h1:=HW15.out.1;have h2:=HBB.out;simp[World.size_drew];omega) (W15.heap.size+1) (by simp[World.size_drew]) ?_
 ·rfl
 ·rfl
 ·rfl
 ·rfl
 intro g7 cap7 w7 hown7 hgrow7 hlie7 hlt7
 have HO7:=hid hown7
 have HLI7:=hid hlie7
 have HA7:Hid (Alt W15 w7 (fun k=>(Value.slice mA L mc).ownBlock=some k)):=hid (Alt.trans (Alt.drewN (Alt.alloc (Alt.refl W15 _) _) 1) (Alt.grow hgrow7) (fun _ _ h=>h))
 have HG7:Hid (¬ (Value.slice mA L mc).ownBlock=some g):=hid (fun e=>zag HM15.out HR15.out (by decide) g e rfl)
 have p7:w7.cell? ⟨g,j*5+4,none⟩=some (.slice mA L mc):=(World.cell?_of_block (HA7.out.block g HW15.out.2 HG7.out)).trans z4
 have hb7:Blk w7 w.heap.size 88 cs:=HB15.out.kept HA7.out (fun e=>HNB15.out e)
 have fz7:w7.frozen? ⟨g,j*5+4,none⟩=false:=(World.frozen?_of_block (HA7.out.block g HW15.out.2 HG7.out)).trans (HF15.out _)
 have HOM7:Hid (∀ k,(Value.slice (some ⟨g7,0,none⟩) (L+1) cap7).ownBlock=some k→(Value.slice mA L mc).ownBlock=some k∨W6.heap.size≤k):=hid fun k hk=>by
  have hk':g7=k:=by simpa [Value.ownBlock] using hk
  rw[← hk']
  rcases HLI7.out with h1|h1
  ·exact .inl h1
  ·exact .inr (by have:=HA15.out.size;omega)
 clear hown7 hgrow7 hlie7 hlt7
 try simp only[Act.put,kF]
 refine hK.out _ _ (fun _=>by exact ⟨p7,hb7⟩) (fun hHeld=>?_)
 replace hHeld:=hHeld (by decide)
 clear hK K
 try simp only[kD,kE,kA,kB,kC]
 refine Hl.wpAnyL_one (i:=8) (by kernel_rfl) rfl (fun K hK=>?_)
 try simp only[kA,kB,kC]
 go_simp
 refine hK.out _ _ (fun _=>by exact ⟨p7,hb7⟩) (fun hHeld=>?_)
 replace hHeld:=hHeld (by decide)
 clear hK K
 try simp only[Act.put,kF,kD,kE,kA,kB,kC]
 refine Hl.wpAnyL_one (i:=9) (by kernel_rfl) rfl (fun K hK=>?_)
 try simp only[kA,kB,kC]
 go_simp
 refine hK.out _ _ (fun _=>by exact ⟨p7,hb7⟩) (fun hHeld=>?_)
 replace hHeld:=hHeld (by decide)
 clear hK K
 try simp only[Act.put,kF,kD,kE,kA,kB,kC]
 clear hb7
 refine Hl.wpAnyL_one (i:=10) (by kernel_rfl) rfl (fun K hK=>?_)
 try simp only[kA,kB,kC]
 go_simp
 refine hK.out _ _ (fun h=>absurd rfl h) (fun hHeld=>?_)
 clear hK K
 try simp only[Act.put,kF,kD,kE,kA,kB,kC]
 refine Hl.wpAnyL_done (by kernel_rfl) ?_ _
 go_upto_region 17 with fail
 have has:Alt w7 (w7.setCell ⟨g,j*5+4,none⟩ (.slice (some ⟨g7,0,none⟩) (L+1) cap7)) (fun k=>k=g):=Alt.set_ (p:=fun k=>k=g) (a:=⟨g,j*5+4,none⟩) (Alt.refl _ _) rfl _
 have hr7:=zan HR15.out HA7.out (fun k hk=>by have:k=g:=(by simpa [Value.ownBlock] using hk.symm);rw[this];exact HG7.out)
 have hv7:=zan HV15.out HA7.out (fun k hk e=>zag HV15.out HM15.out (by decide) k hk e)
 have HA16:Hid (Alt W6 (w7.setCell ⟨g,j*5+4,none⟩ (.slice (some ⟨g7,0,none⟩) (L+1) cap7)) (fun k=>k=g∨p.own k)):=hid ((HA15.out.trans HA7.out (fun k _ e => .inr (HOMX.out k e))).trans has (fun k _ e => .inl e))
 have HR16:Hid ((w7.setCell ⟨g,j*5+4,none⟩ (.slice (some ⟨g7,0,none⟩) (L+1) cap7)).ownsRow B 102 5 (.slice (some ⟨g,0,none⟩) n1 capo) n1 (((((psx.map Pe.o).map cellsO).flatten.set (j*5+2) (.int .i64 (NX:Int))).set (j*5+3) (.slice (some ⟨g5,0,none⟩) (L+1) cap5)).set (j*5+4) (.slice (some ⟨g7,0,none⟩) (L+1) cap7))):=hid (zb2 hr7)
 have HV16:Hid ((w7.setCell ⟨g,j*5+4,none⟩ (.slice (some ⟨g7,0,none⟩) (L+1) cap7)).ownsRow B 3 1 (.slice (some ⟨g5,0,none⟩) (L+1) cap5) (L+1) (xsv++[.int .i64 (NX:Int)])):=hid (zan hv7 has (fun k hk e=>zag hv7 hr7 (by decide) k hk (by rw[e];rfl)))
 have HM16:Hid ((w7.setCell ⟨g,j*5+4,none⟩ (.slice (some ⟨g7,0,none⟩) (L+1) cap7)).ownsRow B 88 59 (.slice (some ⟨g7,0,none⟩) (L+1) cap7) (L+1) (xsm++cs.toList)):=hid (zan HO7.out has (fun k hk e=>zag HO7.out hr7 (by decide) k hk (by rw[e];rfl)))
 have z1:(w7.setCell ⟨g,j*5+4,none⟩ (.slice (some ⟨g7,0,none⟩) (L+1) cap7)).cell? ⟨g,j*5+1,none⟩=some (.int .i64 (NX:Int)):=(zaq w7 _ _ _ (by omega)).trans ((World.cell?_of_block (HA7.out.block g HW15.out.2 HG7.out)).trans HZ1.out)
 have hf16:∀ i,(w7.setCell ⟨g,j*5+4,none⟩ (.slice (some ⟨g7,0,none⟩) (L+1) cap7)).frozen? ⟨g,i,none⟩=false:=fun i=>by rw[World.frozen?_setCell];exact (World.frozen?_of_block (HA7.out.block g HW15.out.2 HG7.out)).trans (HF15.out i)
 clear has hr7 hv7 fz7 p7
 generalize w7.setCell ⟨g,j*5+4,none⟩ (.slice (some ⟨g7,0,none⟩) (L+1) cap7)=W16 at HA16 HR16 HV16 HM16 z1 hf16 ⊢
 go_wp2
 go_ret2
 refine ⟨?_,?_⟩
 ·have h1:=HEQ.out.2.2.2.2.2.1
  rw[h1,HPP.out]
  rfl
 have has:Alt W16 (W16.setCell ⟨g,j*5+1,none⟩ (.int .i64 ((NX:Int)+1))) (fun k=>k=g):=Alt.set_ (p:=fun k=>k=g) (a:=⟨g,j*5+1,none⟩) (Alt.refl _ _) rfl _
 have hEQ:=HEQ.out
 have h5:∀ l∈(psx.map Pe.o).map cellsO,l.length=5:=fun l hl=>by obtain ⟨o,_,rfl⟩:=List.mem_map.1 hl;rfl
 have hjc:((psx.map Pe.o).map cellsO)[j]? = some (cellsO p.o):=by rw[List.getElem?_map,List.getElem?_map,HJX.out];rfl
 have hjl:j<((psx.map Pe.o).map cellsO).length:=(List.getElem?_eq_some_iff.1 hjc).1
 have hs5:∀ c:List Value,c.length=5→∀ l∈((psx.map Pe.o).map cellsO).set j c,l.length=5:=fun c hc l hl=>by
  rcases List.mem_or_eq_of_mem_set hl with h|rfl
  ·exact h5 l h
  ·exact hc
 have hrow:=zb2 (i:=j*5+1) (u := .int .i64 ((NX:Int)+1)) HR16.out
 obtain ⟨o',ho'⟩:∃ o':On,o'=⟨p.o.name,NX+1,NX,some ⟨g5,0,none⟩,L+1,cap5,some ⟨g7,0,none⟩,cap7⟩:=⟨_,rfl⟩
 have hrow2:(W16.setCell ⟨g,j*5+1,none⟩ (.int .i64 ((NX:Int)+1))).ownsRow B 102 5 (.slice (some ⟨g,0,none⟩) n1 capo) n1 (((psx.map Pe.o).map cellsO).set j (cellsO o')).flatten:=by
  have e:(((psx.map Pe.o).map cellsO).set j (cellsO o')).flatten=(((((psx.map Pe.o).map cellsO).flatten.set (j*5+2) (.int .i64 (NX:Int))).set (j*5+3) (.slice (some ⟨g5,0,none⟩) (L+1) cap5)).set (j*5+4) (.slice (some ⟨g7,0,none⟩) (L+1) cap7)).set (j*5+1) (.int .i64 ((NX:Int)+1)):=by
   rw[← za8 _ j 2 _ (.int .i64 (NX:Int)) h5 hjc (by decide), ← za8 _ j 3 _ (.slice (some ⟨g5,0,none⟩) (L+1) cap5) (hs5 _ rfl) (List.getElem?_set_self hjl) (by decide),List.set_set, ← za8 _ j 4 _ (.slice (some ⟨g7,0,none⟩) (L+1) cap7) (hs5 _ rfl) (List.getElem?_set_self hjl) (by decide),List.set_set, ← za8 _ j 1 _ (.int .i64 ((NX:Int)+1)) (hs5 _ rfl) (List.getElem?_set_self hjl) (by decide),List.set_set,ho']
   rfl
  rw[e]
  exact hrow
 have hlts:L=p.ts.length:=by rw[hEQ.1,HPX.out.n]
 have hA17:=HA16.out.trans has (fun k _ e=>Or.inl e)
 have hnx:=HNX.out
 have hpe:=znz hst HSPX.out.ps (v:=NX) HJX.out hA17 (o':=o') (by rw[ho', ← hlts]) (by first|exact hrow2|(rw[hnx] at hrow2 ⊢;exact hrow2))
  (by rw[ho', ← HXV.out];exact zan HV16.out has (fun k hk e=>zag HV16.out HR16.out (by decide) k hk (by rw[e];rfl)))
  (by rw[ho', ← HXM.out];exact zan HM16.out has (fun k hk e=>zag HM16.out HR16.out (by decide) k hk (by rw[e];rfl)))
  (by rw[ho',show p.o.vv = .slice vA L vc by rw[hEQ.1,hEQ.2.1,hEQ.2.2.1]];exact HOV5.out)
  (by rw[ho',show p.o.mv = .slice mA L mc by rw[hEQ.1,hEQ.2.2.2.1,hEQ.2.2.2.2.1]];exact HOM7.out) HCSX.out
 have hpt2:=HSPX.out.pt
 refine ⟨farN W6 _ (farN w4 W6 far),_,psx.set j ⟨o',p.ts++[⟨NX,ms,cs⟩]⟩,⟨hpt2.kept hA17 (fun e=>e.elim (fun e=>zbx HSPX.out.ps.row hpt2 (by decide) (by rw[e];rfl)) (fun e=>e.elim (fun e=>zao HPX.out.vr hpt2 (by decide) e) (fun e=>zao HPX.out.mr hpt2 (by decide) e))),hpe.1,HSPX.out.bg,.inl HSPX.out.fg⟩,?_,?_,?_,fun k h => .inl (HREL.out.2.2.1 k h),?_⟩
 ·have e:=HFIN.out ⟨o',p.ts++[⟨NX,ms,cs⟩]⟩ (by
   unfold putS Pe.s
   rw[ho', ← hEQ.2.2.2.2.2.1]
   simp only
   rw[if_pos (by rw[List.length_map, ← hlts];exact HL0.out),List.map_append]
   rfl)
  rw[← hEQ.2.2.2.2.2.1] at e
  rw[show NX=1 by rw[hEQ.2.2.2.2.2.1,HPP.out]] at e ⊢
  exact e
 ·rintro q (e|e|⟨x,hx,e⟩)
  ·exact HREL.out.1 q (.inl e)
  ·exact HREL.out.1 q (.inr (.inl e))
  ·rcases List.mem_or_eq_of_mem_set hx with hx|rfl
   ·exact HREL.out.1 q (.inr (.inr ⟨x,hx,e⟩))
   ·rcases hpe.2 q e with h1|h1
    ·exact HREL.out.1 q (.inr (.inr ⟨p,za7 HJX.out,h1⟩))
    ·exact .inr (Nat.le_trans HREL.out.2.1.size h1)
 ·refine HREL.out.2.1.trans hA17 (fun q hq e=>?_)
  have h1:So gp (.slice (some ⟨g,0,none⟩) n1 capo) psx q:=e.elim (fun e => .inr (.inl (by rw[e];rfl))) (fun e => .inr (.inr ⟨p,za7 HJX.out,e⟩))
  rcases HREL.out.1 q h1 with h2|h2
  ·exact h2
  ·omega
 ·rintro q (h|⟨h1,h2⟩)
  ·rcases HREL.out.2.2.2 q h with h3|⟨h3,h4⟩
   ·exact .inl h3
   ·exact .inr ⟨h3,Nat.lt_of_lt_of_le h4 hA17.size⟩
  ·exact .inr ⟨Nat.le_trans HREL.out.2.1.size h1,h2⟩
end
def vsC (C:Con)(name:ByteArray):List (Nat×List Int):=match fndC C name with
 |some s=>s.vs
 |none=>[]
def liveC (C:Con)(name:ByteArray):Nat:=match fndC C name with
 |some s=>s.live
 |none=>0
theorem vs_con (L:List Ly)(name:ByteArray):versOf L name=(vsC (L.map Ly.s) name).map fun x=>(x.1:Int):=by
 unfold versOf vsC
 rw[zci]
 cases fnd L name with
 |none=>rfl
 |some l =>
  show _=(l.V.map _).map _
  rw[List.map_map];rfl
theorem zvc (L:List Ly)(name:ByteArray):liveOf L name=liveC (L.map Ly.s) name:=by
 unfold liveOf liveC
 rw[zci]
 cases fnd L name <;> rfl
section
variable {w:World}{B g gd room k:Nat}{C:Con}
theorem zw9 (h:BT w B g gd room k C)(_hk:k≤100)(name:ByteArray) :
  Calls Tryz.prog 39 #[.pointer (some ⟨g,0,none⟩),.string name] w fun e w'=>∃ v,e = .returned v∧IntRow w' w.heap.size v ((vsC C name).map fun x=>(x.1:Int))∧Below w.heap.size w w':=by
 obtain ⟨ks,ns,bm,A,c,S,f,L,h1,h2,h3,h4,h5,h6,h7,h8,h9,h10⟩:=h
 have hm:∀ l∈L,l.s∈C:=fun l hl=>by rw[← h4];exact List.mem_map.2 ⟨l,hl,rfl⟩
 refine (zmf h1.bw.bk name (fun l hl r hr=>?_) (fun l hl=>?_)).mono ?_
 ·have h:=(h9 _ (hm l hl)).vr (r.v,r.ms) (List.mem_map.2 ⟨r,hr,rfl⟩)
  have h':=(h9 _ (hm l hl)).nx.2.1
  have h'':r.v<l.s.next:=h.2.1
  omega
 ·have h:=(h9 _ (hm l hl)).vs
  rw[zeq] at h
  omega
 ·rintro e w' ⟨v,zs,rfl,hp,hs,hr,hb⟩
  refine ⟨v,rfl,?_,hb⟩
  rw[← h4, ← vs_con]
  have e:zs=versOf L name:=by
   refine List.Perm.eq_of_pairwise (fun a b _ _ h1 h2=>by omega) hs ?_ hp
   unfold versOf
   cases hf:fnd L name with
   |none=>exact List.Pairwise.nil
   |some l =>
    have h:=(h9 _ (hm l (zas hf).1)).ri
    have e2:l.s.vs.map (·.1)=l.V.map (·.v):=by
     show (l.V.map fun r=>(r.v,r.ms)).map (·.1)=_
     rw[List.map_map];rfl
    rw[e2,List.pairwise_map] at h
    show (l.V.map _).Pairwise _
    rw[List.pairwise_map]
    exact h.imp (fun h=>by omega)
  rw[← e]
  exact hr
theorem zxa (h:BT w B g gd room k C)(name:ByteArray) :
  Calls Tryz.prog 40 #[.pointer (some ⟨g,0,none⟩),.string name] w fun e w'=>e = .returned (if numC C name=0 then .tuple #[.int .i64 0,.int .i64 11] else .tuple #[.int .i64 (liveC C name:Int),.int .i64 0])∧Below w.heap.size w w':=by
 obtain ⟨ks,ns,bm,A,c,S,f,L,h1,h2,h3,h4,_⟩:=h
 rw[← h4,zh2, ← zvc]
 exact zuq h1.bw.bk name
theorem zjs {L:List Ly}{name:ByteArray}{s:Sh}(h:fndC (L.map Ly.s) name=some s):∃ l,fnd L name=some l∧l.s=s:=by
 rw[zci] at h
 cases hf:fnd L name with
 |none=>rw[hf] at h;cases h
 |some l=>rw[hf] at h;injection h with h;exact ⟨l,rfl,h⟩
theorem get_bt (h:BT w B g gd room k C){name:ByteArray}{s:Sh}(hs:fndC C name=some s)(version v2:Nat)(hv:v2=if version=0 then s.live else version)(hvb:version≤1000000){ms:List Int}(hm:(v2,ms)∈s.vs){P:World→World→Array Value→Prop}(hread:ReadIs ms P) :
  Calls Tryz.prog 41 #[.pointer (some ⟨g,0,none⟩),.string name,.int .i64 (version:Int)] w (GetOk P w):=by
 obtain ⟨ks,ns,bm,A,c,S,f,L,h1,h2,h3,h4,h5,h6,h7,h8,h9,h10⟩:=h
 rw[← h4] at hs
 obtain ⟨l,hl,rfl⟩:=zjs hs
 have hri:=(h9 l.s (by rw[← h4];exact List.mem_map.2 ⟨l,(zas hl).1,rfl⟩)).ri
 obtain ⟨r,hr,e⟩:=List.mem_map.1 hm
 injection e with e1 e2
 have hri2:(l.V.map (·.v)).Nodup:=by
  have e2:l.s.vs.map (·.1)=l.V.map (·.v):=by
   show (l.V.map fun r=>(r.v,r.ms)).map (·.1)=_
   rw[List.map_map];rfl
  rw[e2] at hri
  exact zf9 hri
 have hf:fndV l v2=some r:=by rw[← e1];exact znu hri2 hr
 exact get_ok h1.bw.bk hl version v2 hv hvb hf (by rw[e2];exact hread)
theorem zvd (h:BT w B g gd room k C){name:ByteArray}{s:Sh}(hs:fndC C name=some s)(h0:0<s.vs.length)(version v2:Nat)(hv:v2=if version=0 then s.live else version)(hvb:version≤1000000)(hno:hasV s v2=false) :
  Calls Tryz.prog 41 #[.pointer (some ⟨g,0,none⟩),.string name,.int .i64 (version:Int)] w (GetErr 16 w):=by
 obtain ⟨ks,ns,bm,A,c,S,f,L,h1,h2,h3,h4,h5,h6,h7,h8,h9,h10⟩:=h
 rw[← h4] at hs
 obtain ⟨l,hl,rfl⟩:=zjs hs
 rw[znn] at hno
 have hr:fndV l v2=none:=by cases hf:fndV l v2 with
  |none=>rfl
  |some r=>rw[hf] at hno;cases hno
 rw[zeq] at h0
 exact zw0 h1.bw.bk hl version v2 hv hvb hr h0
theorem zve (h:BT w B g gd room k C)(name:ByteArray)(version:Nat)(h0:numC C name=0) :
  Calls Tryz.prog 41 #[.pointer (some ⟨g,0,none⟩),.string name,.int .i64 (version:Int)] w (GetErr 11 w):=by
 obtain ⟨ks,ns,bm,A,c,S,f,L,h1,h2,h3,h4,_⟩:=h
 rw[← h4,zh2] at h0
 exact zur h1.bw.bk name version h0
theorem zvf (h:BT w B g gd room k C)(hk:k≤100){ns:List ByteArray}(hns:(ns.map fun n=>n.data.toList).Pairwise (· < ·))(hin:∀ s∈C,s.name∈ns) :
  Calls Tryz.prog 43 #[.pointer (some ⟨g,0,none⟩)] w fun e w'=>∃ v,e = .returned v∧StrRow w' w.heap.size v ((ns.filter fun n=>decide (0<numC C n)).map fun n=>n.data.toList)∧Below w.heap.size w w':=by
 obtain ⟨ks,ns',bm,A,c,S,f,L,h1,h2,h3,h4,h5,h6,h7,h8,h9,h10⟩:=h
 have hlen:L.length≤100:=by have:=h8.len;rw[← h4,List.length_map] at this;omega
 have hmC:∀ l∈L,l.s∈C:=fun l hl=>by rw[← h4];exact List.mem_map.2 ⟨l,hl,rfl⟩
 refine (zst h1.bw.bk (fun l hl=>by have h:l.name.size≤20:=(h9 _ (hmC l hl)).n1;omega) (by omega)).mono ?_
 rintro e w' ⟨v,zs,rfl,hp,hs,hr,hb⟩
 refine ⟨v,rfl,?_,hb⟩
 have hba:∀ n:ByteArray,(⟨⟨n.data.toList⟩⟩:ByteArray)=n:=fun n=>rfl
 have hnd:zs.Nodup:=by
  refine hp.nodup_iff.2 ?_
  have h:=h8.nd
  rw[← h4,List.map_map] at h
  have e:L.map (fun l=>l.name.data.toList)=(L.map (Sh.name ∘ Ly.s)).map (fun n=>n.data.toList):=by rw[List.map_map];rfl
  rw[e]
  refine List.pairwise_map.2 (h.imp fun h1 h2=>h1 ?_)
  exact ByteArray.ext (Array.toList_inj.1 h2)
 have e:zs.filter (nonE L)=(ns.filter fun n=>decide (0<numC C n)).map fun n=>n.data.toList:=by
  refine List.Perm.eq_of_pairwise (fun a b _ _ h1 h2=>List.le_antisymm h1 h2) (hs.filter _) ?_ ?_
  ·have:=hns.filter (fun s=>decide (0<numC C ⟨⟨s⟩⟩))
   rw[List.filter_map] at this
   exact this.imp (fun h=>List.le_of_lt h)
  ·refine (List.perm_ext_iff_of_nodup (hnd.filter _) ?_).2 fun a=>?_
   ·have h1:(ns.map fun n=>n.data.toList).Nodup:=hns.imp (fun h e=>by rw[e] at h;exact List.lt_irrefl _ h)
    have:=h1.filter (fun s=>decide (0<numC C ⟨⟨s⟩⟩))
    rw[List.filter_map] at this
    exact this
   ·constructor
    ·intro ha
     obtain ⟨_,h2⟩:=List.mem_filter.1 ha
     have h2':0<numOf L (⟨⟨a⟩⟩:ByteArray):=by simpa [nonE] using h2
     have hin2:(⟨⟨a⟩⟩:ByteArray)∈ns:=by
      unfold numOf at h2'
      cases hf:fnd L (⟨⟨a⟩⟩:ByteArray) with
      |none=>rw[hf] at h2';cases h2'
      |some l =>
       have:=hin l.s (hmC l (zas hf).1)
       rw[show l.s.name=(⟨⟨a⟩⟩:ByteArray) from (zas hf).2] at this
       exact this
     refine List.mem_map.2 ⟨⟨⟨a⟩⟩,List.mem_filter.2 ⟨hin2,?_⟩,rfl⟩
     rw[← h4,zh2]
     exact decide_eq_true h2'
    ·intro ha
     obtain ⟨n,hn,rfl⟩:=List.mem_map.1 ha
     obtain ⟨_,h2⟩:=List.mem_filter.1 hn
     have h2':0<numOf L n:=by rw[← h4,zh2] at h2;simpa using h2
     refine List.mem_filter.2 ⟨hp.mem_iff.2 ?_,decide_eq_true h2'⟩
     unfold numOf at h2'
     cases hf:fnd L n with
     |none=>rw[hf] at h2';cases h2'
     |some l=>exact List.mem_map.2 ⟨l,(zas hf).1,by rw[(zas hf).2]⟩
 rw[← e]
 exact hr
end
def nmA:ByteArray:=⟨#[97]⟩
def nmB:ByteArray:=⟨#[98]⟩
def nmC:ByteArray:=⟨#[99]⟩
def nm1:ByteArray:=⟨#[49]⟩
def nmOf (n:Nat):ByteArray:=if n=0 then nmA else if n=1 then nmB else if n=2 then nmC else nm1
theorem zdi (w:World):Calls Tryz.prog 13 #[] w fun e w'=>e = .returned (.slice (some ⟨w.heap.size,0,none⟩) 4 4)∧w'=w.alloc (.cells #[.string ⟨#[97]⟩,.string ⟨#[98]⟩,.string ⟨#[99]⟩,.string ⟨#[49]⟩] 9):=by
 go_enter Tryz.func13,Tryz.ntmps13
 go_wp2
 go_ret
 exact ⟨rfl,rfl⟩
theorem zmm {w:World}{B1 B2:Nat}{u v:Value}{zs:List Int}(hu:IntRow w B1 u zs)(hv:IntRow w B2 v zs)(hn:zs.length≤1000) :
  Calls Tryz.prog 38 #[u,v] w fun e w'=>e = .returned (.bool true)∧Below w.heap.size w w':=by
 obtain ⟨A1,c1,rfl⟩:=zdv hu
 obtain ⟨A2,c2,rfl⟩:=zdv hv
 have HU:=hid hu
 have HV:=hid hv
 clear hu hv
 go_enter Tryz.func38,Tryz.ntmps38
 go_wp2
 go_loopw [5] (fun iv wr=>∃ j:Nat,j≤zs.length∧iv = .int .i64 j∧Hid (Below w.heap.size w wr)) (fun iv _=>zs.length - (intOf iv).toNat)
 case atStart=>exact ⟨0,Nat.zero_le _,rfl,hid (Below.refl _ _)⟩
 case round =>
  obtain ⟨j,hj,rfl,hbel⟩:=hrel
  by_cases hgo:j<zs.length
  ·obtain ⟨g1,rfl⟩:∃ g1,A1=some (⟨g1,0,none⟩:Addr):=by
    rcases HU.out.2 with ⟨e,h0⟩|⟨g',cap,cur,e,_⟩
    ·omega
    ·injection e with e;exact ⟨g',e⟩
   obtain ⟨g2,rfl⟩:∃ g1,A2=some (⟨g1,0,none⟩:Addr):=by
    rcases HV.out.2 with ⟨e,h0⟩|⟨g',cap,cur,e,_⟩
    ·omega
    ·injection e with e;exact ⟨g',e⟩
   have z:(zs.map (Value.int .i64))[j]? = some (.int .i64 zs[j]):=by rw[List.getElem?_map,List.getElem?_eq_getElem hgo];rfl
   have x1:wr.cell? ⟨g1,j,none⟩=some (.int .i64 zs[j]):=zc6 HU.out hbel.out z
   have x2:wr.cell? ⟨g2,j,none⟩=some (.int .i64 zs[j]):=zc6 HV.out hbel.out z
   clear z
   generalize zs[j]=m at *
   have hgo':(j:Int)<(zs.length:Int):=by omega
   go_wp2
   go_region_held3 (fun w'=>w'.cell? ⟨g1,j,none⟩=some (.int .i64 m)∧w'.cell? ⟨g2,j,none⟩=some (.int .i64 m)) (simp[*]) (first|(go_at_call 9999))
   all_goals go_wp2
   all_goals
    go_roundw
    case rel=>exact ⟨j+1,by omega,by go_num,hid (by first|exact hbel.out|exact hbel.out.drew)⟩
    case measure=>simp[intOf];omega
  ·go_wp2
   go_ret
   exact ⟨rfl,hbel.out⟩
structure MT (PM:PMod)(PR:Nat→World→List Int→Array Value→Prop)(M:List Int→Prop):Prop where
 st:Stays PM
 rst:∀ (lo:Nat) (w w':World) (p:Nat→Prop) (ms:List Int) (cs:Array Value),PR lo w ms cs→Alt w w' p→(∀ k,k<w.heap.size→p k→k<lo)→PR lo w' ms cs
 rd:∀ ms,M ms→ReadIs ms (fun W W' cs=>PR W.heap.size W' ms cs)
 sm:∀ (w0 w:World) (lo:Nat) (far:Nat→Prop) (ms:List Int) (c1 c2:Array Value),M ms→PM w0 far ms c2→Below w0.heap.size w0 w→w0.heap.size≤lo→PR lo w ms c1→Calls Tryz.prog 42 #[.agg c1,.agg c2] w fun e w'=>e = .returned (.bool true)∧Below w.heap.size w w'
 ss:∀ (w0 w:World) (lo1 lo2:Nat) (ms:List Int) (c1 c2:Array Value),M ms→PR lo1 w0 ms c1→Below w0.heap.size w0 w→w0.heap.size≤lo2→PR lo2 w ms c2→Calls Tryz.prog 42 #[.agg c2,.agg c1] w fun e w'=>e = .returned (.bool true)∧Below w.heap.size w w'
end Go.Proofs.YtmejdkniafjncaaGreatDoor.Oc
