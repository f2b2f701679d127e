/- A book's load: a Pack's notes, and those after it. -/
import Derived.Test.YtemgclnkgieldaaGreatDoorVf
import Derived.Deep.RegionHeldLaw
set_option maxHeartbeats 4000000
set_option maxRecDepth 100000
namespace Go.Proofs.YtemgclnkgieldaaGreatDoor.Oc
open Go Go.RowKit Dk
theorem zv2 {w:World}{g gd bm:Nat}{D:Option Nat}(h:Bk w g gd bm D 0 []){A:Option Addr}{J c:Nat}(ks:List Kt)(ns:List Nt)(hck:ChK [] ⟨#[]⟩ ks)(hch:Ch (ks.foldl kpC []) ns)(hJ:J=(kl ks++jl ns).length)(hr:Rb w A (kl ks++jl ns))(hA:A=none→J=0)(hJc:J≤c)(hJb:J≤4194304)(hc:c≤9223372036854775807)
  (hAb:∀ ad,A=some ad→ad.block≠bm∧ad=⟨ad.block,0,none⟩) (hD:∀ k,D=some k→k<w.heap.size) (hgd:gd<w.heap.size) :
  Calls Tryz.prog 29 #[.pointer (some ⟨g,0,none⟩),.slice A J c] w fun e w'=>e = .returned (.tuple #[.int .i64 (J:Int),.bool true])∧∃ L,L.map Ly.s=ns.foldl pfC (ks.foldl kpC [])∧Bk w' g gd bm D 0 L∧Alt w w' (fun k=>k=bm)∧∀ l∈L,w.heap.size≤l.g∧w.heap.size≤l.bv:=by
 have HBK:=kA h
 have HCH:=kA hch
 have HCK:=kA hck
 have HR:=kA hr
 have HJ:=kA hJ
 have HAB:=kA hAb
 have HA:=kA hA
 have HD:=kA hD
 clear h hch hck hr hJ hAb hA hD
 go_enter Tryz.func29,Tryz.ntmps29
 go_wp2
 go_loopw [6,7,8] (fun v6 v7 v8 wr=>∃ (dk rk:List Kt) (done rest:List Nt) (L:List Ly) (at_:Nat) (pk:Bool) (last:ByteArray),v6 = .int .i64 (at_:Int)∧v7 = .string last∧v8 = .bool pk∧at_≤J∧Hid (ks=dk++rk)∧Hid (ns=done++rest)∧Hid (at_=(kl dk++jl done).length)∧Hid (L.map Ly.s=done.foldl pfC (dk.foldl kpC []))∧Hid (rk=[]→Ch (done.foldl pfC (dk.foldl kpC [])) rest)∧Hid (rk≠[]→done=[]∧pk=true∧ChK (dk.foldl kpC []) last rk)∧Hid (Bk wr g gd bm D 0 L) ∧
   Hid (Alt w wr (fun k=>k=bm))∧Hid (∀ l∈L,w.heap.size≤l.g∧w.heap.size≤l.bv)) (fun v6 _ _ _=>J - (intOf v6).toNat)
 case atStart=>exact ⟨[],ks,[],ns,[],0,true,⟨#[]⟩,rfl,rfl,rfl,kX _,kA rfl,kA rfl,kA rfl,kA rfl,kA fun e=>by have:=HCH.out;rw[e] at this;exact this,kA fun _=>⟨rfl,rfl,HCK.out⟩,HBK,kA (Alt.refl _ _),kA fun _ h=>by cases h⟩
 case round =>
  obtain ⟨dk,rk,done,rest,L,at_,pk,last,rfl,rfl,rfl,hat,hks,hns,hatl,hL,hrest,hck,hbk,halt,hnew⟩:=hrel
  rcases rk with _|⟨k,rk⟩
  ·obtain rfl:ks=dk:=by have:=hks.out;rw[qI] at this;exact this
   have hrest:=kA (hrest.out rfl)
   clear hck hks
   rcases rest with _|⟨n,rest⟩
   ·have hend:at_=J:=by rw[hatl.out,HJ.out,hns.out,qI]
    have hst:=zh9 (by rw[hL.out];exact hrest.out.wf:WF (L.map Ly.s))
    have HST:=kA hst
    have hlast:done=ns:=by have:=hns.out;rw[qI] at this;exact this.symm
    have HLAST:=kA hlast
    have hge:¬ ((at_:Int)<(J:Int)):=by omega
    have HEND:=kA hend
    clear hst hlast hend hns hatl hrest hat
    go_wp2_with (go_at_call 74;refine (zh5 hbk.out HST.out.2.2.1 HST.out.1 HST.out.2.1).mono ?_;rintro e w9 ⟨rfl,hb9⟩;have HB9:=kA hb9;clear hb9)
    go_ret2
    rw[HEND.out]
    refine ⟨rfl,L,by rw[hL.out,HLAST.out],zal hbk.out HB9.out,halt.out.trans (alt_of_below HB9.out) (fun _ _ h=>h),hnew.out⟩
   ·obtain ⟨hwf,hmay,hok,hch⟩:=hrest.out
    have HWF:Hid (WF (L.map Ly.s)):=kA (by rw[hL.out];exact hwf)
    have HMAY:Hid (mayC (L.map Ly.s) n):=kA (by rw[hL.out];exact hmay)
    have HOK:=kA hok
    have HNX:=kA hch
    have HST:=kA (zh9 HWF.out)
    obtain ⟨hbl0,hbl1⟩:=zpc hok
    have hsl:0<(recN n).length:=by unfold recN;rw[zfq];omega
    have HJL:Hid (kl ks++jl ns=(kl ks++jl done)++(recN n++jl rest)):=kA (by rw[hns.out,zia,zns];simp only[kR])
    have hJlen:J=at_+((recN n).length+(jl rest).length):=by rw[HJ.out,HJL.out,hatl.out];simp only[kI]
    obtain ⟨rl,hrl⟩:∃ k,k=(recN n).length:=⟨_,rfl⟩
    have HRL:=kA hrl
    obtain ⟨q,hadA⟩:∃ q,A=some ⟨q,0,none⟩:=by
     cases A with
     |none=>have:=HA.out rfl;omega
     |some ad=>exact ⟨ad.block,by rw[← (HAB.out ad rfl).2]⟩
    subst hadA
    have HAD:Hid (Rb wr (some ⟨q,at_,none⟩) (recN n++jl rest)):=kA (by
     have h1:Rb wr (some ⟨q,0,none⟩) (kl ks++jl ns):=HR.out.keep halt.out (fun ad' e=>(HAB.out ad' e).1)
     rw[HJL.out] at h1
     rcases Nat.eq_zero_or_pos at_ with h0|h0
     ·have e1:kl ks++jl done=[]:=qG (by rw[← hatl.out];exact h0)
      rw[e1,List.nil_append] at h1
      rw[h0]
      exact h1
     ·have h2:=Rb.drop h1 at_ h0
      have e:((kl ks++jl done)++(recN n++jl rest)).drop at_=recN n++jl rest:=by rw[hatl.out];exact List.drop_left
      rw[e] at h2
      simpa using h2)
    have HRLEN:Hid (J - at_=(recN n++jl rest).length):=kA (by rw[kI];omega)
    have hlt:(at_:Int)<(J:Int):=by omega
    have hatJ:at_≤J:=hat
    have hJi:(J:Int)≤(c:Int):=by omega
    have hac:(at_:Int)≤(c:Int):=by omega
    have haJ:(at_:Int)≤(J:Int):=by omega
    have HNEXT:Hid (Calls Tryz.prog 71 #[.slice (some ⟨q,at_,none⟩) (J - at_) (c - at_)] wr fun e w'=>∃ A' L' c',e = .returned (.tuple #[.int .i64 n.kind,.slice A' L' c',.int .i64 (rl:Int),.int .i64 0])∧Own w' wr.heap.size (.slice A' L' c') (bodyN n)∧Below wr.heap.size wr w'):=kA (by
     have h1:(sealL n.kind (bodyN n)).length=rl:=by rw[hrl];rfl
     have h2:=hok.kd
     have:=zo2 (c:=c - at_) (kind:=n.kind) (ys:=bodyN n) (rest:=jl rest) HAD.out HRLEN.out (by omega) (by omega) (by omega) (by omega) hbl1 hbl0
     rw[h1] at this
     exact this)
    rw[← hrl] at hJlen hsl
    have HKD:=kA hok.kd
    have HNS:=hns
    have HJN:Hid (J=at_+(rl+(jl rest).length)):=kA hJlen
    have hsum:at_+rl≤J:=by omega
    clear hwf hmay hok hch hrest hbl0 hbl1 hrl hns hJlen
    go_upto_region 4 with (go_at_call 71;refine HNEXT.out.mono ?_;rintro e w4 ⟨A4,L4,c4,rfl,ho4,hb4⟩;have HO4:=kA ho4;have HB4:=kA hb4;clear ho4 hb4)
    go_upto_region 7 with fail
    have HBK4:=kA (zal hbk.out HB4.out)
    have HAL4:=kA (halt.out.trans (alt_of_below (p:=fun k=>k=bm) HB4.out) (fun _ _ h=>h))
    go_upto_region 8 with (go_at_call 72;refine (zvt HOK.out HO4.out).mono ?_;rintro e w5 ⟨X,lx,cx,rfl,hxm,hb5⟩;unfold noteV;have HXM:=kA hxm;have HB5:=kA hb5;clear hxm hb5)
    have hk4:(n.kind == 4)=false:=by have:=HKD.out;simp;omega
    have hk5:(n.kind == 5)=false:=by have:=HKD.out;simp;omega
    have HN6:Hid (Blk (w5.alloc (.cells #[.int .i64 n.kind,.string n.name,.int .i64 (n.vy:Int),.int .i64 0,.slice X lx cx] 222)) w5.heap.size 222 (noteV n.kind n.name n.vy 0 (.slice X lx cx))):=kA (Blk.new w5 _ _)
    have HB6:Hid (Below w4.heap.size w4 (w5.alloc (.cells #[.int .i64 n.kind,.string n.name,.int .i64 (n.vy:Int),.int .i64 0,.slice X lx cx] 222))):=kA (HB5.out.alloc HB5.out.size _)
    have HX6:Hid (n.kind=1→RowIs (w5.alloc (.cells #[.int .i64 n.kind,.string n.name,.int .i64 (n.vy:Int),.int .i64 0,.slice X lx cx] 222)) (Mt g gd bm D L) (.slice X lx cx) n.ms):=kA (fun hk1=>by
     obtain ⟨gm,e1,e2,hr1,hrb1,hg1⟩:=HXM.out hk1
     subst e1
     subst e2
     refine ⟨⟨gm,0,none⟩,cx,rfl,(HOK.out.md hk1).2.1,hr1.below (Below.new1 w5 _),fun hmt=>?_,(hrb1.below (Below.new1 w5 _)).row⟩
     have h1:=zy5 HBK4.out (fun k hk=>qE (HD.out k hk) HAL4.out.size) (qE hgd HAL4.out.size) hmt
     have h2:w4.heap.size≤gm:=hg1
     have h3:gm<w4.heap.size:=h1
     omega)
    have HBK6:=kA (zal HBK4.out HB6.out)
    have HAL6:=kA (HAL4.out.trans (alt_of_below (p:=fun k=>k=bm) HB6.out) (fun _ _ h=>h))
    clear HXM
    generalize w5.alloc (.cells #[.int .i64 n.kind,.string n.name,.int .i64 (n.vy:Int),.int .i64 0,.slice X lx cx] 222)=W6 at HN6 HB6 HX6 HBK6 HAL6 ⊢
    have HFIN:Hid (∀ w7,Below W6.heap.size W6 w7→Calls Tryz.prog 75 #[.pointer (some ⟨g,0,none⟩),.agg (noteV n.kind n.name n.vy 0 (.slice X lx cx))] w7 fun e w8=>e = .returned (.bool true)∧∃ L',L'.map Ly.s=pfC (L.map Ly.s) n∧Bk w8 g gd bm D 0 L'∧Alt w w8 (fun k=>k=bm)∧∀ l∈L',w.heap.size≤l.g∧w.heap.size≤l.bv):=kA (fun w7 hb7=>by
     have hsz:w.heap.size≤w7.heap.size:=kH HAL6.out.size hb7.size
     refine (zqt (zal HBK6.out hb7) HOK.out HWF.out HMAY.out 0 (.slice X lx cx) (fun hk1=>(HX6.out hk1).alt (alt_of_below (p:=fun _=>False) hb7) (fun _ _ h=>h.elim) (fun _ _ h=>h)) (fun k hk=>qE (HD.out k hk) hsz) (qE hgd hsz) rfl).mono ?_
     rintro e w8 ⟨rfl,L',hcon,hbk8,ha8,hnw⟩
     refine ⟨rfl,L',hcon,hbk8,(HAL6.out.trans (alt_of_below (p:=fun k=>k=bm) hb7) (fun _ _ h=>h)).trans ha8 ?_,?_⟩
     ·rintro k hk (e|e|e)
      ·exact e
      ·obtain ⟨l,hl,rfl⟩:=kO.1 e
       have:=(hnew.out l hl).1
       have hk':l.g<w.heap.size:=hk
       omega
      ·obtain ⟨l,hl,rfl⟩:=kO.1 e
       have:=(hnew.out l hl).2
       have hk':l.bv<w.heap.size:=hk
       omega
     ·intro l hl
      rcases hnw l hl with ⟨l0,h0,e1,e2⟩|⟨h1,h2⟩
      ·rw[← e1, ← e2];exact hnew.out l0 h0
      ·exact ⟨kH hsz h1,kH hsz h2⟩)
    have HREL:Hid (∀ L' w8,L'.map Ly.s=pfC (L.map Ly.s) n→Bk w8 g gd bm D 0 L'→Alt w w8 (fun k=>k=bm)→(∀ l∈L',w.heap.size≤l.g∧w.heap.size≤l.bv)→∃ (done' rest':List Nt) (L2:List Ly) (at2:Nat),Hid (at2=at_+rl)∧at2≤J∧Hid (ks=ks++[])∧Hid (ns=done'++rest')∧Hid (at2=(kl ks++jl done').length)∧Hid (L2.map Ly.s=done'.foldl pfC (ks.foldl kpC []))∧Hid (([]:List Kt)=[]→Ch (done'.foldl pfC (ks.foldl kpC [])) rest')∧Hid (([]:List Kt)≠[]→done'=[]∧false=true∧ChK (ks.foldl kpC []) last [])∧Hid (Bk w8 g gd bm D 0 L2) ∧
    Hid (Alt w w8 (fun k=>k=bm))∧Hid (∀ l∈L2,w.heap.size≤l.g∧w.heap.size≤l.bv)):=kA (fun L' w8 h1 h2 h3 h4=>⟨done++[n],rest,L',at_+rl,kA rfl,by have:=HJN.out;omega,kA (qI _).symm,kA (by rw[HNS.out];simp),kA (by rw[zia, ← kR,kI, ← hatl.out,zns,kI, ← HRL.out];rfl),kA (by rw[h1,hL.out,List.foldl_append];rfl),kA (fun _=>by rw[List.foldl_append];exact HNX.out),kA (fun h=>absurd rfl h),kA h2,kA h3,kA h4⟩)
    clear HB4 HO4 HB5 HBK4 HAL4 HX6 HAL6 HAD HRLEN HNEXT hbk halt hnew hatl hL HJL HWF HMAY
    obtain ⟨⟨n0,n1,n2,n3,n4⟩,nz⟩:=zan HN6.out
    cases pk with
    |false =>
     go_wp2_with (go_at_call 75;refine (HFIN.out _ (Below.refl _ _)).mono ?_;rintro e w8 ⟨rfl,L',h1,h2,h3,h4⟩;have H1:=kA h1;have H2:=kA h2;have H3:=kA h3;have H4:=kA h4;clear h1 h2 h3 h4)
     go_roundw
     case rel =>
      obtain ⟨d2,r2,L2,a2,ha2,hx⟩:=HREL.out L' w8 H1.out H2.out H3.out H4.out
      obtain ⟨x1,x2,x3,x4,x5,x6,_,x8⟩:=hx
      exact ⟨ks,[],d2,r2,L2,a2,false,last,by rw[ha2.out];rfl,rfl,rfl,x1,x2,x3,x4,x5,kA (fun _=>x6.out trivial),kA (fun h=>absurd rfl h),x8⟩
     case measure=>simp[intOf];omega
    |true =>
     go_wp2_with (first
      |(go_at_call 74;refine (zh5 HBK6.out HST.out.2.2.1 HST.out.1 HST.out.2.1).mono ?_;rintro e w7 ⟨rfl,hb7⟩;have HB7:=kA hb7;obtain ⟨⟨m0,m1,m2,m3,m4⟩,mz⟩:=zan (zab HN6.out hb7);clear hb7)
      |(go_at_call 75;refine (HFIN.out _ HB7.out).mono ?_;rintro e w8 ⟨rfl,L',h1,h2,h3,h4⟩;have H1:=kA h1;have H2:=kA h2;have H3:=kA h3;have H4:=kA h4;clear h1 h2 h3 h4))
     go_roundw
     case rel =>
      obtain ⟨d2,r2,L2,a2,ha2,hx⟩:=HREL.out L' w8 H1.out H2.out H3.out H4.out
      obtain ⟨x1,x2,x3,x4,x5,x6,_,x8⟩:=hx
      exact ⟨ks,[],d2,r2,L2,a2,false,last,by rw[ha2.out];rfl,rfl,rfl,x1,x2,x3,x4,x5,kA (fun _=>x6.out trivial),kA (fun h=>absurd rfl h),x8⟩
     case measure=>simp[intOf];omega
  ·obtain ⟨rfl,rfl,hmay,hok,hch⟩:=hck.out (by simp)
   clear hrest hck
   have HMAY:Hid (mayK (L.map Ly.s) last k):=kA (by rw[hL.out];exact hmay)
   have HOK:=kA hok
   have HNX:=kA hch
   obtain ⟨hbl0,hbl1⟩:=ztt hok
   have hsl:0<(recK k).length:=by unfold recK;rw[zfq];omega
   have HJL:Hid (kl ks++jl ns=(kl dk++jl [])++(recK k++(kl rk++jl ns))):=kA (by rw[hks.out,zic,zy9];simp[jl])
   have hJlen:J=at_+((recK k).length+((kl rk++jl ns)).length):=by rw[HJ.out,HJL.out,hatl.out];simp only[kI]
   obtain ⟨rl,hrl⟩:∃ z,z=(recK k).length:=⟨_,rfl⟩
   have HRL:=kA hrl
   obtain ⟨q,hadA⟩:∃ q,A=some ⟨q,0,none⟩:=by
    cases A with
    |none=>have:=HA.out rfl;omega
    |some ad=>exact ⟨ad.block,by rw[← (HAB.out ad rfl).2]⟩
   subst hadA
   have HAD:Hid (Rb wr (some ⟨q,at_,none⟩) (recK k++(kl rk++jl ns))):=kA (by
    have h1:Rb wr (some ⟨q,0,none⟩) (kl ks++jl ns):=HR.out.keep halt.out (fun ad' e=>(HAB.out ad' e).1)
    rw[HJL.out] at h1
    rcases Nat.eq_zero_or_pos at_ with h0|h0
    ·have e1:kl dk++jl []=[]:=qG (by rw[← hatl.out];exact h0)
     rw[e1,List.nil_append] at h1
     rw[h0]
     exact h1
    ·have h2:=Rb.drop h1 at_ h0
     have e:((kl dk++jl [])++(recK k++(kl rk++jl ns))).drop at_=recK k++(kl rk++jl ns):=by rw[hatl.out];exact List.drop_left
     rw[e] at h2
     simpa using h2)
   have HRLEN:Hid (J - at_=(recK k++(kl rk++jl ns)).length):=kA (by rw[kI];omega)
   have hlt:(at_:Int)<(J:Int):=by omega
   have hatJ:at_≤J:=hat
   have hJi:(J:Int)≤(c:Int):=by omega
   have hac:(at_:Int)≤(c:Int):=by omega
   have haJ:(at_:Int)≤(J:Int):=by omega
   have HNEXT:Hid (Calls Tryz.prog 71 #[.slice (some ⟨q,at_,none⟩) (J - at_) (c - at_)] wr fun e w'=>∃ A' L' c',e = .returned (.tuple #[.int .i64 k.kind,.slice A' L' c',.int .i64 (rl:Int),.int .i64 0])∧Own w' wr.heap.size (.slice A' L' c') (bodyK k)∧Below wr.heap.size wr w'):=kA (by
    have h1:(sealL k.kind (bodyK k)).length=rl:=by rw[hrl];rfl
    have h2:=hok.kd
    have:=zo2 (c:=c - at_) (kind:=k.kind) (ys:=bodyK k) (rest:=(kl rk++jl ns)) HAD.out HRLEN.out (by omega) (by omega) (by omega) (by omega) hbl1 hbl0
    rw[h1] at this
    exact this)
   rw[← hrl] at hJlen hsl
   have HKD:=kA hok.kd
   have HNS:=hks
   have HJN:Hid (J=at_+(rl+((kl rk++jl ns)).length)):=kA hJlen
   have hsum:at_+rl≤J:=by omega
   clear hmay hok hch hbl0 hbl1 hrl hks hJlen
   go_upto_region 4 with (go_at_call 71;refine HNEXT.out.mono ?_;rintro e w4 ⟨A4,L4,c4,rfl,ho4,hb4⟩;have HO4:=kA ho4;have HB4:=kA hb4;clear ho4 hb4)
   go_upto_region 7 with fail
   have HBK4:=kA (zal hbk.out HB4.out)
   have HAL4:=kA (halt.out.trans (alt_of_below (p:=fun k=>k=bm) HB4.out) (fun _ _ h=>h))
   go_upto_region 8 with (go_at_call 72;refine (open_k HOK.out HO4.out).mono ?_;rintro e w5 ⟨X,lx,cx,rfl,hxm,hb5⟩;unfold noteV;have HXM:=kA hxm;have HB5:=kA hb5;clear hxm hb5)
   have HN6:Hid (Blk (w5.alloc (.cells #[.int .i64 k.kind,.string k.name,.int .i64 (k.vy:Int),.int .i64 (k.live:Int),.slice X lx cx] 222)) w5.heap.size 222 (noteV k.kind k.name k.vy (k.live:Int) (.slice X lx cx))):=kA (Blk.new w5 _ _)
   have HB6:Hid (Below w4.heap.size w4 (w5.alloc (.cells #[.int .i64 k.kind,.string k.name,.int .i64 (k.vy:Int),.int .i64 (k.live:Int),.slice X lx cx] 222))):=kA (HB5.out.alloc HB5.out.size _)
   have HX6:Hid (k.kind=5→RowIs (w5.alloc (.cells #[.int .i64 k.kind,.string k.name,.int .i64 (k.vy:Int),.int .i64 (k.live:Int),.slice X lx cx] 222)) (Mt g gd bm D L) (.slice X lx cx) k.ms):=kA (fun hk1=>by
    obtain ⟨gm,e1,e2,hr1,hrb1,hg1⟩:=HXM.out hk1
    subst e1
    subst e2
    refine ⟨⟨gm,0,none⟩,cx,rfl,(HOK.out.md hk1).2.1,hr1.below (Below.new1 w5 _),fun hmt=>?_,(hrb1.below (Below.new1 w5 _)).row⟩
    have h1:=zy5 HBK4.out (fun k hk=>qE (HD.out k hk) HAL4.out.size) (qE hgd HAL4.out.size) hmt
    have h2:w4.heap.size≤gm:=hg1
    have h3:gm<w4.heap.size:=h1
    omega)
   have HBK6:=kA (zal HBK4.out HB6.out)
   have HAL6:=kA (HAL4.out.trans (alt_of_below (p:=fun k=>k=bm) HB6.out) (fun _ _ h=>h))
   clear HXM
   generalize w5.alloc (.cells #[.int .i64 k.kind,.string k.name,.int .i64 (k.vy:Int),.int .i64 (k.live:Int),.slice X lx cx] 222)=W6 at HN6 HB6 HX6 HBK6 HAL6 ⊢
   have HFIN:Hid (Calls Tryz.prog 73 #[.pointer (some ⟨g,0,none⟩),.agg (noteV k.kind k.name k.vy (k.live:Int) (.slice X lx cx)),.string last] W6 fun e w8=>e = .returned (.bool true)∧∃ L',L'.map Ly.s=kpC (L.map Ly.s) k∧Bk w8 g gd bm D 0 L'∧Alt w w8 (fun k=>k=bm)∧Alt W6 w8 (Mb bm L)∧∀ l∈L',w.heap.size≤l.g∧w.heap.size≤l.bv):=kA (by
    have hsz:w.heap.size≤W6.heap.size:=HAL6.out.size
    refine (zv0 HBK6.out HOK.out HMAY.out (.slice X lx cx) HX6.out (fun k hk=>qE (HD.out k hk) hsz) (qE hgd hsz)).mono ?_
    rintro e w8 ⟨rfl,L',hcon,hbk8,ha8,hnw⟩
    refine ⟨rfl,L',hcon,hbk8,HAL6.out.trans ha8 ?_,ha8,?_⟩
    ·rintro k hk (e|e|e)
     ·exact e
     ·obtain ⟨l,hl,rfl⟩:=kO.1 e
      have:=(hnew.out l hl).1
      have hk':l.g<w.heap.size:=hk
      omega
     ·obtain ⟨l,hl,rfl⟩:=kO.1 e
      have:=(hnew.out l hl).2
      have hk':l.bv<w.heap.size:=hk
      omega
    ·intro l hl
     rcases hnw l hl with ⟨l0,h0,e1,e2⟩|⟨h1,h2⟩
     ·rw[← e1, ← e2];exact hnew.out l0 h0
     ·exact ⟨kH hsz h1,kH hsz h2⟩)
   have HMB:Hid (¬ Mb bm L w5.heap.size):=kA (fun hm=>by
    have hb:=HBK4.out
    have h5:w4.heap.size≤w5.heap.size:=HB5.out.size
    rcases hm with e|e|e
    ·have:=hb.map.lt;omega
    ·obtain ⟨l,hl,e⟩:=kO.1 e
     have:=(hb.sh l hl).1.lt
     omega
    ·obtain ⟨l,hl,e⟩:=kO.1 e
     have:=(hb.sh l hl).2.1.lt
     omega)
   have HREL:Hid (∀ L' w8,L'.map Ly.s=kpC (L.map Ly.s) k→Bk w8 g gd bm D 0 L'→Alt w w8 (fun k=>k=bm)→(∀ l∈L',w.heap.size≤l.g∧w.heap.size≤l.bv)→∃ (dk' rk':List Kt) (L2:List Ly) (at2:Nat),Hid (at2=at_+rl)∧at2≤J∧Hid (ks=dk'++rk')∧Hid (ns=[]++ns)∧Hid (at2=(kl dk'++jl []).length)∧Hid (L2.map Ly.s=([]:List Nt).foldl pfC (dk'.foldl kpC []))∧Hid (rk'=[]→Ch (([]:List Nt).foldl pfC (dk'.foldl kpC [])) ns)∧Hid (rk'≠[]→([]:List Nt)=[]∧true=true∧ChK (dk'.foldl kpC []) k.name rk')∧Hid (Bk w8 g gd bm D 0 L2) ∧
   Hid (Alt w w8 (fun k=>k=bm))∧Hid (∀ l∈L2,w.heap.size≤l.g∧w.heap.size≤l.bv)):=kA (fun L' w8 h1 h2 h3 h4=>⟨dk++[k],rk,L',at_+rl,kA rfl,by have:=HJN.out;omega,kA (by rw[HNS.out];simp),kA rfl,kA (by have e1:kl (dk++[k])=kl dk++recK k:=by { rw[zic];congr 1;simp[kl] };rw[e1,kI,kI];have:=hatl.out;rw[kI] at this;have:=HRL.out;omega),kA (by rw[h1,hL.out,List.foldl_append];rfl),kA (fun e=>by have:=HCH.out;rw[HNS.out,e] at this;exact this),kA (fun _=>⟨rfl,rfl,by rw[List.foldl_append];exact HNX.out⟩),kA h2,kA h3,kA h4⟩)
   clear HB4 HO4 HB5 HBK4 HAL4 HX6 HAL6 HAD HRLEN HNEXT hbk halt hnew hatl hL HJL HMAY
   obtain ⟨⟨n0,n1,n2,n3,n4⟩,nz⟩:=zan HN6.out
   rcases HKD.out with e|e
   ·have hk4:(k.kind == 4)=true:=by simp;omega
    have hk5:(k.kind == 5)=false:=by simp;omega
    clear e
    go_wp2_with (go_at_call 73;refine HFIN.out.mono ?_;rintro e w8 ⟨rfl,L',h1,h2,h3,h5,h4⟩;have H1:=kA h1;have H2:=kA h2;have H3:=kA h3;have H4:=kA h4;obtain ⟨⟨m0,m1,m2,m3,m4⟩,mz⟩:=zan (HN6.out.kept h5 HMB.out);clear h1 h2 h3 h4 h5)
    go_roundw
    case rel =>
     obtain ⟨d2,r2,L2,a2,ha2,hx⟩:=HREL.out L' w8 H1.out H2.out H3.out H4.out
     obtain ⟨x1,x2,x3,x4,x5,x6,x7,x8⟩:=hx
     exact ⟨d2,r2,[],ns,L2,a2,true,k.name,by rw[ha2.out];rfl,rfl,rfl,x1,x2,x3,x4,x5,x6,kA (fun h=>⟨rfl,rfl,(x7.out h).2.2⟩),x8⟩
    case measure=>simp[intOf];omega
   ·have hk4:(k.kind == 4)=false:=by simp;omega
    have hk5:(k.kind == 5)=true:=by simp;omega
    clear e
    go_wp2_with (go_at_call 73;refine HFIN.out.mono ?_;rintro e w8 ⟨rfl,L',h1,h2,h3,h5,h4⟩;have H1:=kA h1;have H2:=kA h2;have H3:=kA h3;have H4:=kA h4;obtain ⟨⟨m0,m1,m2,m3,m4⟩,mz⟩:=zan (HN6.out.kept h5 HMB.out);clear h1 h2 h3 h4 h5)
    go_roundw
    case rel =>
     obtain ⟨d2,r2,L2,a2,ha2,hx⟩:=HREL.out L' w8 H1.out H2.out H3.out H4.out
     obtain ⟨x1,x2,x3,x4,x5,x6,x7,x8⟩:=hx
     exact ⟨d2,r2,[],ns,L2,a2,true,k.name,by rw[ha2.out];rfl,rfl,rfl,x1,x2,x3,x4,x5,x6,kA (fun h=>⟨rfl,rfl,(x7.out h).2.2⟩),x8⟩
    case measure=>simp[intOf];omega
theorem ztu {w:World}{B gd c:Nat}{A:Option Addr}{S:St}{f:Int}(hb:Blk w gd 154 (pc (.slice A S.xs.length c) S f))(ho:Own w B (.slice A S.xs.length c) S.xs)(hok:Ok S)(hfu:S.fuse=none)(hup:S.dead=false)(hsf:S.safe=S.xs.length)(hB:B≤gd∧B≤w.heap.size)
  (ks:List Kt) (ns:List Nt) (hj:S.xs=kl ks++jl ns) (hck:ChK [] ⟨#[]⟩ ks) (hch:Ch (ks.foldl kpC []) ns) :
  Calls Tryz.prog 15 #[.pointer (some ⟨gd,0,none⟩)] w fun e w'=>∃ g bm L,e = .returned (.tuple #[.pointer (some ⟨g,0,none⟩),.int .i64 0])∧Bz w' B g gd bm A c S f L∧L.map Ly.s=ns.foldl pfC (ks.foldl kpC [])∧Below w.heap.size w w':=by
 obtain ⟨⟨d0,d1,d2,d3,d4,d5⟩,dz⟩:=zdy hb
 have HD:=kA hb
 have HO:=kA ho
 have HOK:=kA hok
 have HFU:=kA hfu
 have HSF:=kA hsf
 have HB:=kA hB
 have HJ:=kA hj
 have HCH:=kA hch
 have HCK:=kA hck
 have HUP:=kA hup
 rw[hup] at d3
 clear hb ho hok hfu hup hsf hB hj hch hck
 have hmk:∀ t W,(Instr.makeMap t none).run Tryz.prog W = .ok (.map (some W.heap.size)) (W.alloc (.map #[] 0)):=fun _ _=>rfl
 go_enter Tryz.func15,Tryz.ntmps15
 go_upto_region 6 with fail
 have HG:Hid (Blk ((w.alloc (.map #[] 0)).alloc (.cells #[.pointer (some ⟨gd,0,none⟩),.int .i64 0,.map (some w.heap.size)] 157)) (w.heap.size+1) 157 #[.pointer (some ⟨gd,0,none⟩),.int .i64 0,.map (some w.heap.size)]):=kA (by have:=Blk.new (w.alloc (.map #[] 0)) 157 #[.pointer (some ⟨gd,0,none⟩),.int .i64 0,.map (some w.heap.size)];rw[World.size_alloc] at this;exact this)
 have HMP:Hid (MapIs ((w.alloc (.map #[] 0)).alloc (.cells #[.pointer (some ⟨gd,0,none⟩),.int .i64 0,.map (some w.heap.size)] 157)) KS w.heap.size []):=kA ((MapIs.new w KS).below (Below.new1 _ _))
 have HB2:Hid (Below w.heap.size w ((w.alloc (.map #[] 0)).alloc (.cells #[.pointer (some ⟨gd,0,none⟩),.int .i64 0,.map (some w.heap.size)] 157))):=kA ((Below.new1 w _).alloc (by simp) _)
 generalize (w.alloc (.map #[] 0)).alloc (.cells #[.pointer (some ⟨gd,0,none⟩),.int .i64 0,.map (some w.heap.size)] 157)=W2 at HG HMP HB2 ⊢
 have HD2:=kA (zab HD.out HB2.out)
 have HO2:=kA (zam HO.out HB2.out)
 have HSZ:Hid (w.heap.size+1<W2.heap.size):=kA HG.out.lt
 have HLT:Hid (gd<w.heap.size):=kA HD.out.lt
 obtain ⟨hl1,hl2⟩:=zh2 HO.out
 have hxs:S.xs.length≤4194304:=by have:=HOK.out;have:=this.1;have:=HOK.out.2.1;omega
 have HBK2:Hid (Bk W2 (w.heap.size+1) gd w.heap.size (Value.slice A S.xs.length c).ownBlock 0 []):=kA ⟨HG.out,HMP.out,(fun _ h=>by cases h),List.nodup_nil,by simp,by omega,fun _ h=>by cases h⟩
 have HNIL:Hid (A=none→S.xs.length=0):=kA fun e=>by have:=HO.out;rw[e] at this;exact this.none_.1
 have HCAP:Hid (c≤9223372036854775807):=kA (znw HO.out)
 have HADR:Hid (∀ ad,A=some ad→ad.block<w.heap.size∧ad=⟨ad.block,0,none⟩):=kA fun ad e=>by
  have h1:=HO.out
  rw[e] at h1
  rcases h1.2 with ⟨e2,_⟩|⟨g',cap,cur,e2,_,hh,_⟩
  ·cases e2
  ·injection e2 with e2
   injection e2 with e2
   subst e2
   exact ⟨(Array.getElem?_eq_some_iff.1 hh).1,rfl⟩
 have HLOAD:Hid (Calls Tryz.prog 29 #[.pointer (some ⟨w.heap.size+1,0,none⟩),.slice A S.xs.length c] W2 fun e w'=>e = .returned (.tuple #[.int .i64 (S.xs.length:Int),.bool true])∧∃ L,L.map Ly.s=ns.foldl pfC (ks.foldl kpC [])∧Bk w' (w.heap.size+1) gd w.heap.size (Value.slice A S.xs.length c).ownBlock 0 L∧Alt W2 w' (fun k=>k=w.heap.size)∧∀ l∈L,W2.heap.size≤l.g∧W2.heap.size≤l.bv):=kA (by
  have h0:=HSZ.out
  have h1:=HLT.out
  refine zv2 HBK2.out ks ns HCK.out HCH.out (by rw[HJ.out]) (by rw[← HJ.out];exact Rb.of_own HO2.out) HNIL.out hl2 hxs HCAP.out (fun ad e=>?_) (fun k hk=>(HO2.out.base hk).2) (by omega)
  obtain ⟨h2,h3⟩:=HADR.out ad e
  exact ⟨by omega,h3⟩)
 obtain ⟨⟨g0,g1,g2⟩,gz⟩:=zat HG.out
 obtain ⟨⟨d0,d1,d2,d3,d4,d5⟩,dz⟩:=zdy HD2.out
 have hne:gd≠w.heap.size:=by have:=HLT.out;omega
 have HNE:=kA hne
 go_wp2_with (first
  |(go_at_call 29;refine HLOAD.out.mono ?_;rintro e w3 ⟨rfl,L,hcon,hbk3,ha3,hnew⟩;have HC3:=kA hcon;have HBK3:=kA hbk3;have HA3:=kA ha3;have HNEW:=kA hnew;have HD3:=kA (HD2.out.kept ha3 HNE.out);obtain ⟨⟨y0,y1,y2,y3,y4,y5⟩,yz⟩:=zdy HD3.out;obtain ⟨⟨x0,x1,x2⟩,xz⟩:=zat hbk3.blk;clear hcon hbk3 ha3 hnew))
 go_ret2
 have ha:∀ v,Alt w3 (w3.setCell ⟨w.heap.size+1,1,none⟩ v) (fun k=>k=w.heap.size+1):=fun v=>(Alt.refl w3 (fun k=>k=w.heap.size+1)).set_ (a:=⟨w.heap.size+1,1,none⟩) rfl v
 have ha2:∀ v,Alt w (w3.setCell ⟨w.heap.size+1,1,none⟩ v) (fun _=>False):=fun v=>by
  have h1:Alt w w3 (fun _=>False):=(alt_of_below (p:=fun _=>False) HB2.out).trans HA3.out (fun k hk e=>by omega)
  exact h1.trans (ha v) (fun k hk e=>by omega)
 have hb:∀ v,Below w.heap.size w (w3.setCell ⟨w.heap.size+1,1,none⟩ v):=fun v=>Alt.toBelow (ha2 v) (fun _ _ h=>h.elim) (kJ _)
 have h0:=HLT.out
 have h5:=HB.out
 refine ⟨w.heap.size+1,w.heap.size,L,rfl,⟨⟨znt HBK3.out _ hxs,HD.out.kept (ha2 _) (fun h=>h),HO.out.keep (ha2 _) (fun _ _ h=>h),HOK.out,HFU.out,HUP.out,HSF.out,kH h5.2 (hb (.int .i64 (S.xs.length:Int))).size⟩,⟨by omega,h5.1,h5.2⟩,fun l hl=>?_⟩,HC3.out,hb _⟩
 have h6:=HNEW.out l hl
 have h7:=HB2.out.size
 omega
def knotes (s:Sh):List Kt:=⟨4,s.name,s.next,s.live,[]⟩ :: s.vs.map fun p=>⟨5,s.name,p.1,0,p.2⟩
def srtC (C:Con):Con:=C.mergeSort (fun a b=>decide (a.name.data.toList≤b.name.data.toList))
theorem zd8 (C:Con):(srtC C).Perm C:=List.mergeSort_perm _ _
theorem ztv (C:Con):(srtC C).Pairwise (fun a b=>a.name.data.toList≤b.name.data.toList):=by
 have:=List.pairwise_mergeSort (le:=fun a b:Sh=>decide (a.name.data.toList≤b.name.data.toList)) (fun a b c h1 h2=>by simp only[decide_eq_true_eq] at *;exact List.le_trans h1 h2) (fun a b=>by simp only[Bool.or_eq_true,decide_eq_true_eq];exact List.le_total _ _) C
 exact this.imp (by simp)
def Rise (C:Con):Prop:=∀ s∈C,(s.vs.map (·.1)).Pairwise (· < ·)
theorem ztw (l:Ly):recP (headP l)=recK ⟨4,l.s.name,l.s.next,l.s.live,[]⟩:=rfl
theorem zge {V:List Vr}(h:(V.map (·.v)).Pairwise (· < ·)):(V.map (·.v)).Nodup:=h.imp (fun h=>Nat.ne_of_lt h)
theorem zn0:∀ {V:List Vr} {r:Vr},(V.map (·.v)).Nodup→r∈V→V.find? (fun x=>decide (x.v=r.v))=some r
 | [],_,_,h=>by cases h
 |y :: V,r,hn,h=>by
  rw[kM,List.nodup_cons] at hn
  rw[List.find?_cons]
  rcases List.mem_cons.1 h with e|e
  ·subst e
   simp
  ·have:y.v≠r.v:=fun e'=>hn.1 (kO.2 ⟨r,e,e'.symm⟩)
   rw[kQ this]
   exact zn0 hn.2 e
theorem img_of {l:Ly}(h:(l.V.map (·.v)).Pairwise (· < ·)):imgOf l=kl (knotes l.s):=by
 have hv:vsort l=l.V.map fun r=>(r.v:Int):=(zpe (.refl _) (by
  rw[List.pairwise_map] at h ⊢
  exact h.imp (fun h=>by omega))).symm
 unfold imgOf notesOf knotes kl
 rw[hv,kM,kM,ztw,qK,qK]
 show _=(recK _ :: _).flatten
 congr 2
 show _=((l.V.map fun r=>(r.v,r.ms)).map _).map _
 rw[qK,qK]
 refine List.map_congr_left fun r hr=>?_
 have hf:fndV l r.v=some r:=zn0 (zge h) hr
 show recP (keptP l (r.v:Int))=recK ⟨5,l.name,r.v,0,r.ms⟩
 unfold keptP
 rw[Int.toNat_natCast,hf]
 rfl
theorem ztx {L:List Ly}(hn:(L.map (·.name)).Nodup)(hr:Rise (L.map Ly.s)):imageL L=kl ((srtC (L.map Ly.s)).flatMap knotes):=by
 have hz:(srtC (L.map Ly.s)).map (fun s=>s.name.data.toList)=nsort L:=zpd (by
  refine ((zd8 _).map _).trans ?_
  rw[qK]
  exact .refl _) (by
  rw[List.pairwise_map]
  exact ztv _)
 unfold imageL
 rw[← hz,qK]
 have hsub:∀ s∈srtC (L.map Ly.s),s∈L.map Ly.s:=fun s hs=>(zd8 _).mem_iff.1 hs
 generalize srtC (L.map Ly.s)=C at hsub
 clear hz
 induction C with
 |nil=>rfl
 |cons s C ih =>
  rw[kM,qD,qN,zic,ih (fun x hx=>hsub x (qP _ hx))]
  congr 1
  obtain ⟨l,hl,rfl⟩:=kO.1 (hsub s qO)
  have hf:fnd L l.name=some l:=by
   cases hf:fnd L l.name with
   |none =>
    have:=List.find?_eq_none.1 hf l hl
    simp at this
   |some l'=>rw[zo6 hn hf hl rfl]
  show imgS L l.name.data.toList=_
  unfold imgS
  have e:(⟨⟨l.name.data.toList⟩⟩:ByteArray)=l.name:=rfl
  rw[e,hf]
  refine img_of ?_
  have:=hr l.s (kO.2 ⟨l,hl,rfl⟩)
  show (l.V.map (·.v)).Pairwise (· < ·)
  have e2:l.s.vs.map (·.1)=l.V.map (·.v):=by
   show (l.V.map fun r=>(r.v,r.ms)).map (·.1)=_
   rw[qK]
   rfl
  rwa[e2] at this
theorem bl_lt:∀ (x y:List UInt8),Op.bytesLess x y=true→x<y
 |_,[],h=>by simp[Op.bytesLess] at h
 | [],_ :: _,_=>by simp
 |a :: x,b :: y,h=>by
  rw[List.cons_lt_cons_iff]
  simp only[Op.bytesLess,Bool.or_eq_true,Bool.and_eq_true,decide_eq_true_eq,beq_iff_eq] at h
  exact h.imp id (fun h=>⟨h.1,bl_lt x y h.2⟩)
theorem bl_le {x y:List UInt8}(h:x≤y):Op.bytesLess y x=false:=by
 cases hb:Op.bytesLess y x with
 |false=>rfl
 |true=>exact absurd (bl_lt y x hb) h
theorem zpf {D:Con}{s:Sh}(h:fndC D s.name=none):fndC (D++[s]) s.name=some s:=by
 unfold fndC at h ⊢
 rw[List.find?_append,h]
 simp
theorem zv3 {D:Con}{s s':Sh}(h:fndC D s.name=none):updC (D++[s]) s.name s'=D++[s']:=by
 unfold updC
 rw[kL]
 congr 1
 ·have:∀ x∈D,x.name≠s.name:=zd7 h
  refine (List.map_congr_left (g:=id) fun x hx=>?_).trans (List.map_id _)
  rw[kT (this x hx)]
  rfl
 ·simp
theorem zn1 {D:Con}{s:Sh}(h:fndC D s.name=none):∀ (vs vs0:List (Nat×List Int)),(vs.map fun p=>(⟨5,s.name,p.1,0,p.2⟩:Kt)).foldl kpC (D++[{ s with vs:=vs0 }])=D++[{ s with vs:=vs0++vs }]
 | [],vs0=>by simp
 |p :: vs,vs0=>by
  rw[kM,List.foldl_cons]
  have e:kpC (D++[{ s with vs:=vs0 }]) ⟨5,s.name,p.1,0,p.2⟩=D++[{ s with vs:=vs0++[p] }]:=by
   unfold kpC
   rw[kT (by show ¬ ((5:Int)=4);omega)]
   have h1:=zpf (D:=D) (s:={ s with vs:=vs0 }) h
   have h2:=zv3 (D:=D) (s:={ s with vs:=vs0 }) (s':={ s with vs:=vs0++[p] }) h
   show (match fndC (D++[{ s with vs:=vs0 }]) s.name with
    |none=>_
    |some s=>_)=_
   rw[h1]
   exact h2
  rw[e,zn1 h vs (vs0++[p])]
  simp
theorem zv4 {D:Con}{s:Sh}(h:fndC D s.name=none):(knotes s).foldl kpC D=D++[s]:=by
 unfold knotes
 rw[List.foldl_cons]
 have e:kpC D ⟨4,s.name,s.next,s.live,[]⟩=D++[{ s with vs:=[] }]:=by
  unfold kpC
  rw[kZ rfl]
 rw[e,zn1 h s.vs []]
 simp
theorem zty:∀ (R D:Con),((D++R).map Sh.name).Nodup→(R.flatMap knotes).foldl kpC D=D++R
 | [],D,_=>by simp
 |s :: R,D,hn=>by
  rw[qN,List.foldl_append]
  have h:fndC D s.name=none:=by
   unfold fndC
   rw[List.find?_eq_none]
   intro x hx
   rw[kL,List.nodup_append] at hn
   have:=hn.2.2 x.name (kO.2 ⟨x,hx,rfl⟩) s.name (by simp)
   simpa using this
  rw[zv4 h,zty R (D++[s]) (by simpa using hn)]
  simp
structure KsOk (s:Sh):Prop where
 n1:s.name.size≤20
 n0:0<s.name.size
 st:strOf (nums s.name)=s.name
 nx:2≤s.next∧s.next≤100000∧s.live<s.next
 is:∀ W:World,Calls Tryz.prog 82 #[.string s.name] W fun e w'=>e = .returned (.bool true)∧Below W.heap.size W w'
 vs:s.vs.length≤1000
 vr:∀ p∈s.vs,1≤p.1∧p.1<s.next∧IsB p.2∧0<p.2.length∧p.2.length≤12000∧ReadOk p.2
 ri:(s.vs.map (·.1)).Pairwise (· < ·)
theorem zxe {D:Con}{s:Sh}(h:fndC D s.name=none)(hk:KsOk s)(tl:List Kt):∀ (vs vs0:List (Nat×List Int)),s.vs=vs0++vs→ChK (D++[s]) s.name tl→ChK (D++[{ s with vs:=vs0 }]) s.name ((vs.map fun p=>(⟨5,s.name,p.1,0,p.2⟩:Kt))++tl)
 | [],vs0,e,ht=>by
  rw[qI] at e
  have:({ s with vs:=vs0 }:Sh)=s:=by rw[← e]
  rw[this]
  exact ht
 |p :: vs,vs0,e,ht=>by
  have e1:kpC (D++[{ s with vs:=vs0 }]) ⟨5,s.name,p.1,0,p.2⟩=D++[{ s with vs:=vs0++[p] }]:=zn1 h [p] vs0
  have hp:=hk.vr p (by rw[e];simp)
  have hr:=hk.ri
  rw[e,kL,List.pairwise_append] at hr
  refine ⟨.inr ⟨rfl,rfl,{ s with vs:=vs0 },zpf (D:=D) (s:={ s with vs:=vs0 }) h,hp.1,hp.2.1,?_,fun q hq=>hr.2.2 q.1 (kO.2 ⟨q,hq,rfl⟩) p.1 (by simp)⟩,⟨hk.n1,hk.n0,hk.st,by show p.1≤_;have:=hk.nx;omega,kX _,.inr rfl,hk.is,fun _=>⟨hp.2.2.1,hp.2.2.2.1,hp.2.2.2.2.1,hp.2.2.2.2.2⟩,fun _=>rfl⟩,?_⟩
  ·have:=hk.vs
   rw[e,kI] at this
   show vs0.length≤_
   omega
  ·show ChK (kpC (D++[{ s with vs:=vs0 }]) ⟨5,s.name,p.1,0,p.2⟩) s.name _
   rw[e1]
   exact zxe h hk tl vs (vs0++[p]) (by rw[e];simp) ht
theorem zxf:∀ (R D:Con) (last:ByteArray),((D++R).map Sh.name).Nodup→(∀ s∈R,KsOk s)→R.Pairwise (fun a b=>a.name.data.toList≤b.name.data.toList)→(∀ s∈R,last.data.toList≤s.name.data.toList∧last≠s.name)→ChK D last (R.flatMap knotes)
 | [],_,_,_,_,_,_=>trivial
 |s :: R,D,last,hn,hk,hp,hl=>by
  rw[qN]
  have h:fndC D s.name=none:=by
   unfold fndC
   rw[List.find?_eq_none]
   intro x hx
   rw[kL,List.nodup_append] at hn
   have:=hn.2.2 x.name (kO.2 ⟨x,hx,rfl⟩) s.name (by simp)
   simpa using this
  have hs:=hk s qO
  obtain ⟨h1,h2⟩:=hl s qO
  rw[List.pairwise_cons] at hp
  have e:kpC D ⟨4,s.name,s.next,s.live,[]⟩=D++[{ s with vs:=[] }]:=by
   unfold kpC
   rw[kZ rfl]
  refine ⟨.inl ⟨rfl,h,by rw[zft,zft];exact bl_le h1,?_,hs.nx.1,hs.nx.2.2⟩,⟨hs.n1,hs.n0,hs.st,hs.nx.2.1,by show s.live≤_;have:=hs.nx;omega,.inl rfl,hs.is,fun h=>absurd h (by show ¬ ((4:Int)=5);omega),fun h=>absurd h (by show ¬ ((4:Int)=5);omega)⟩,?_⟩
  ·cases hb:s.name.toList == last.toList with
   |false=>rfl
   |true=>exact absurd (zl9 (by simpa using hb)).symm h2
  ·show ChK (kpC D ⟨4,s.name,s.next,s.live,[]⟩) s.name _
   rw[e]
   refine zxe h hs _ s.vs [] (by simp) (zxf R (D++[s]) s.name (by simpa using hn) (fun x hx=>hk x (qP _ hx)) hp.2 (fun x hx=>⟨hp.1 x hx,fun e=>?_⟩))
   rw[kL,List.nodup_append,kM,List.nodup_cons] at hn
   exact hn.2.1.1 (kO.2 ⟨x,hx,e.symm⟩)
theorem zza {C:Con}(hn:(C.map Sh.name).Nodup)(hk:∀ s∈C,KsOk s):ChK [] ⟨#[]⟩ ((srtC C).flatMap knotes)∧((srtC C).flatMap knotes).foldl kpC []=srtC C:=by
 have hp:=zd8 C
 have hn':((srtC C).map Sh.name).Nodup:=(hp.map _).nodup_iff.2 hn
 have hk':∀ s∈srtC C,KsOk s:=fun s hs=>hk s (hp.mem_iff.1 hs)
 refine ⟨zxf _ [] _ hn' hk' (ztv C) (fun s hs=>⟨List.nil_le _,fun e=>?_⟩),(zty (srtC C) [] hn').trans (List.nil_append _)⟩
 have:=(hk' s hs).n0
 rw[← e] at this
 exact absurd this (by decide)
theorem zzb {C:Con}{s:Sh}(hn:(C.map Sh.name).Nodup)(hs:s∈C):fndC C s.name=some s:=by
 cases hf:fndC C s.name with
 |none=>exact absurd rfl (zd7 hf s hs)
 |some s' =>
  obtain ⟨h1,h2⟩:=zc7 hf
  rw[zc6 hn h1 hs h2]
theorem zhe {C C':Con}(h:C.Perm C')(hn:(C.map Sh.name).Nodup)(name:ByteArray):fndC C name=fndC C' name:=by
 have hn':(C'.map Sh.name).Nodup:=(h.map _).nodup_iff.1 hn
 cases hf:fndC C name with
 |none =>
  cases hf':fndC C' name with
  |none=>rfl
  |some s' =>
   obtain ⟨h1,h2⟩:=zc7 hf'
   exact absurd h2 (zd7 hf s' (h.mem_iff.2 h1))
 |some s =>
  obtain ⟨h1,h2⟩:=zc7 hf
  rw[← h2]
  exact (zzb hn' (h.mem_iff.1 h1)).symm
theorem ztz {C C':Con}(h:C.Perm C')(hn:(C.map Sh.name).Nodup)(name:ByteArray):nextC C name=nextC C' name:=by unfold nextC;rw[zhe h hn]
theorem zv5 {C C':Con}(h:C.Perm C')(hn:(C.map Sh.name).Nodup)(name:ByteArray):numC C name=numC C' name:=by unfold numC;rw[zhe h hn]
theorem zt0 {C C':Con}(h:C.Perm C')(hn:(C.map Sh.name).Nodup)(name:ByteArray):fullC C name=fullC C' name:=by unfold fullC;rw[zv5 h hn,(h.filter _).length_eq]
theorem zv6 {C C':Con}(h:C.Perm C')(hn:(C.map Sh.name).Nodup)(kind:Int)(name:ByteArray)(vy:Nat):refC C kind name vy=refC C' kind name vy:=by unfold refC;rw[zhe h hn]
theorem zkq {C C':Con}(h:C.Perm C')(name:ByteArray)(s:Sh):(updC C name s).Perm (updC C' name s):=h.map _
theorem zt1 {C C':Con}(h:C.Perm C')(hn:(C.map Sh.name).Nodup)(n:Nt):(pfC C n).Perm (pfC C' n):=by
 unfold pfC
 rw[zhe h hn]
 split
 ·cases fndC C' n.name with
  |none=>exact h.append_right _
  |some s=>exact zkq h _ _
 ·cases fndC C' n.name with
  |none=>exact h
  |some s =>
   show (if n.kind=2 then _ else _:Con).Perm (if n.kind=2 then _ else _)
   split
   ·exact zkq h _ _
   ·exact zkq h _ _
theorem zv7 {C C':Con}(h:C.Perm C')(hn:(C.map Sh.name).Nodup)(n:Nt):mayC C n↔mayC C' n:=by unfold mayC;rw[ztz h hn,zt0 h hn,zv6 h hn]
theorem zt2 {C C':Con}(h:C.Perm C')(hw:WF C):WF C':=⟨by rw[← h.length_eq];exact hw.len,fun s hs=>hw.sh s (h.mem_iff.2 hs),by rw[← (h.filter _).length_eq];exact hw.num⟩
theorem zv8 {C:Con}{kind:Int}{name:ByteArray}{vy:Nat}(h:refC C kind name vy=0):∃ s,fndC C name=some s∧hasV s vy=true:=by
 unfold refC at h
 cases hf:fndC C name with
 |none=>rw[hf] at h;cases h
 |some s =>
  rw[hf] at h
  simp only at h
  split at h
  ·cases h
  ·split at h
   ·cases h
   ·next h2=>exact ⟨s,rfl,by cases hh:hasV s vy <;> simp_all⟩
theorem ks_pf {k:Nat}{C:Con}(h:Wk k C)(hk:k≤900)(hC:∀ s∈C,KsOk s){n:Nt}(hm:mayC C n)(hn:NtOk n):∀ s∈pfC C n,KsOk s:=by
 have hw:=wk_pf h hm hk
 intro s hs
 have hb:=hw.sh s hs
 unfold pfC at hs
 split at hs
 ·next h1 =>
  obtain ⟨_,hv,_⟩:n.kind=1∧n.vy=nextC C n.name∧fullC C n.name=false:=hm.resolve_right (fun e=>by rcases e.1 with e|e <;> omega)
  obtain ⟨d1,d2,d3,d4⟩:=hn.md h1
  cases hf:fndC C n.name with
  |none =>
   rw[hf] at hs
   rcases kU.1 hs with hs|hs
   ·exact hC s hs
   ·rw[kP] at hs
    subst hs
    have hv1:n.vy=1:=by rw[hv];unfold nextC;rw[hf]
    exact ⟨hn.n1,hn.n0,hn.st,⟨by show 2≤n.vy+1;omega,by show n.vy+1≤_;omega,Nat.lt_succ_self _⟩,hn.is,by simp,fun p hp=>by rw[kP] at hp;subst hp;exact ⟨by show 1≤n.vy;omega,Nat.lt_succ_self _,d1,d2,d3,d4⟩,by simp⟩
  |some s0 =>
   rw[hf] at hs
   rcases zeo hs with e|⟨hs,_⟩
   ·have h0:=hC s0 (zc7 hf).1
    have hv1:n.vy=s0.next:=by rw[hv];unfold nextC;rw[hf]
    subst e
    refine ⟨h0.n1,h0.n0,h0.st,⟨by show 2≤n.vy+1;have:=h0.nx;omega,by have:=hb.2.2.1;show n.vy+1≤_;have e:(putS s0 n.vy n.ms).next=n.vy+1:=rfl;omega,?_⟩,h0.is,by have:=hb.1;omega,fun p hp=>?_,?_⟩
    ·show (if s0.vs.length=0 then n.vy else s0.live)<n.vy+1
     split
     ·omega
     ·have:=h0.nx;omega
    ·rcases kU.1 hp with hp|hp
     ·obtain ⟨a1,a2,a3⟩:=h0.vr p hp
      exact ⟨a1,by show p.1<n.vy+1;omega,a3⟩
     ·rw[kP] at hp
      subst hp
      exact ⟨by show 1≤n.vy;have:=h0.nx;omega,Nat.lt_succ_self _,d1,d2,d3,d4⟩
    ·show ((s0.vs++[(n.vy,n.ms)]).map (·.1)).Pairwise (· < ·)
     rw[kL,List.pairwise_append]
     refine ⟨h0.ri,by simp,fun a ha b hb=>?_⟩
     obtain ⟨p,hp,rfl⟩:=kO.1 ha
     have hb':b=n.vy:=by simpa using hb
     have:=(h0.vr p hp).2.1
     omega
   ·exact hC s hs
 ·next h1 =>
  obtain ⟨hkd,hr⟩:=hm.resolve_left (fun e=>h1 e.1)
  obtain ⟨s0,hf,hv⟩:=zv8 hr
  rw[hf] at hs
  have h0:=hC s0 (zc7 hf).1
  simp only at hs
  split at hs
  ·rcases zeo hs with e|⟨hs,_⟩
   ·subst e
    obtain ⟨p,hp,hpv⟩:=zdt.1 hv
    have:=(h0.vr p hp).2.1
    exact ⟨h0.n1,h0.n0,h0.st,⟨h0.nx.1,h0.nx.2.1,by show n.vy<s0.next;omega⟩,h0.is,h0.vs,h0.vr,h0.ri⟩
   ·exact hC s hs
  ·rcases zeo hs with e|⟨hs,_⟩
   ·subst e
    refine ⟨h0.n1,h0.n0,h0.st,⟨h0.nx.1,h0.nx.2.1,?_⟩,h0.is,kH (List.length_filter_le _ _) h0.vs,fun p hp=>h0.vr p (List.mem_filter.1 hp).1,?_⟩
    ·show (if _ then 0 else s0.live)<s0.next
     have:=h0.nx
     split
     ·omega
     ·omega
    ·exact h0.ri.sublist ((List.filter_sublist).map _)
   ·exact hC s hs
def con2 (ks:List Kt)(ns:List Nt):Con:=ns.foldl pfC (ks.foldl kpC [])
def BT (w:World)(B g gd room k:Nat)(C:Con):Prop:=∃ (ks:List Kt) (ns:List Nt) (bm:Nat) (A:Option Addr) (c:Nat) (S:St) (f:Int) (L:List Ly),Bz w B g gd bm A c S f L∧S.xs=kl ks++jl ns∧S.room=room∧L.map Ly.s=C∧ChK [] ⟨#[]⟩ ks∧Ch (ks.foldl kpC []) ns∧C.Perm (con2 ks ns)∧Wk k C∧(∀ s∈C,KsOk s)∧S.xs.length≤k*20000
theorem BT.below {w w':World}{B g gd room k:Nat}{C:Con}(h:BT w B g gd room k C)(hb:Below w.heap.size w w'):BT w' B g gd room k C:=by
 obtain ⟨ks,ns,bm,A,c,S,f,L,h1,h2⟩:=h
 exact ⟨ks,ns,bm,A,c,S,f,L,h1.below hb,h2⟩
theorem BT.more {w:World}{B g gd room k:Nat}{C:Con}(h:BT w B g gd room k C):BT w B g gd room (k+1) C:=by
 obtain ⟨ks,ns,bm,A,c,S,f,L,h1,h2,h3,h4,h5,h6,h7,h8,h9,h10⟩:=h
 exact ⟨ks,ns,bm,A,c,S,f,L,h1,h2,h3,h4,h5,h6,h7,h8.mono (Nat.le_succ k),h9,kH h10 (Nat.mul_le_mul_right _ (Nat.le_succ k))⟩
theorem zt3 (ks:List Kt)(ns:List Nt)(n:Nt):con2 ks (ns++[n])=pfC (con2 ks ns) n:=by
 show (ns++[n]).foldl pfC _=_
 rw[List.foldl_append];rfl
theorem img_ok {k:Nat}{L:List Ly}(h:Wk k (L.map Ly.s))(hk:k≤100)(hs:∀ s∈L.map Ly.s,KsOk s):ImgOk L:=by
 have hm:∀ l∈L,l.s∈L.map Ly.s:=fun l hl=>kO.2 ⟨l,hl,rfl⟩
 refine ⟨by have:=h.len;rw[kN] at this;omega,fun l hl=>(hs _ (hm l hl)).n1,fun l hl=>?_,fun l hl=>?_,fun l hl r hr=>?_,fun l hl=>?_⟩
 ·have:=(hs _ (hm l hl)).nx
  have e1:l.s.next=l.next:=rfl
  have e2:l.s.live=l.live:=rfl
  omega
 ·have h7:=(h.sh _ (hm l hl)).2.2.2.2.2.2
  rw[zgw] at h7
  rcases Nat.eq_zero_or_pos l.V.length with e|e
  ·omega
  ·exact (h7 e).2
 ·have h1:=(hs _ (hm l hl)).vr (r.v,r.ms) (kO.2 ⟨r,hr,rfl⟩)
  have h2:=(hs _ (hm l hl)).nx.2.1
  obtain ⟨a1,a2,a3,a4,a5,a6⟩:=h1
  exact ⟨by have a2':r.v<l.s.next:=a2;omega,a3,a5⟩
 ·have h1:=(hs _ (hm l hl)).ri
  have e2:l.s.vs.map (·.1)=l.V.map (·.v):=by
   show (l.V.map fun r=>(r.v,r.ms)).map (·.1)=_
   rw[qK]
   rfl
  rw[e2] at h1
  exact zge h1
theorem zzc {w:World}{B g gd room k:Nat}{C:Con}(h:BT w B g gd room k C)(hk:k≤50) :
  Calls Tryz.prog 39 #[.pointer (some ⟨g,0,none⟩)] w fun e w'=>e = .returned (.int .i64 0)∧BT w' B g gd room k C∧BK B w w':=by
 obtain ⟨ks,ns,bm,A,c,S,f,L,h1,h2,h3,h4,h5,h6,h7,h8,h9,h10⟩:=h
 have hio:ImgOk L:=img_ok (by rw[h4];exact h8) (by omega) (by rw[h4];exact h9)
 refine (zkp h1 hio (by omega)).mono ?_
 rintro e w' ⟨rfl,A',c',f',hz,hb⟩
 refine ⟨rfl,?_,hb⟩
 by_cases hlt:S.xs.length<(imageL L).length
 ·have e1:packL S L=kl ks++jl ns:=by unfold packL;rw[kZ hlt];exact h2
  rw[e1] at hz
  exact ⟨ks,ns,bm,A',c',_,f',L,hz,rfl,h3,h4,h5,h6,h7,h8,h9,by show (kl ks++jl ns).length≤_;rw[← h2];exact h10⟩
 ·have e1:packL S L=imageL L:=by unfold packL;rw[kT hlt]
  have e2:imageL L=kl ((srtC C).flatMap knotes):=by
   rw[← h4]
   exact ztx (zh6 h1.bw.bk) (fun s hs=>(h9 s (by rw[← h4];exact hs)).ri)
  obtain ⟨c1,c2⟩:=zza h8.nd h9
  rw[e1] at hz
  refine ⟨(srtC C).flatMap knotes,[],bm,A',c',_,f',L,hz,by show imageL L=_;rw[e2];simp[jl],h3,h4,c1,?_,?_,h8,h9,?_⟩
  ·rw[c2]
   exact zt2 (zd8 C).symm (h8.wf (by omega))
  ·show C.Perm (((srtC C).flatMap knotes).foldl kpC [])
   rw[c2]
   exact (zd8 C).symm
  ·show (imageL L).length≤_
   omega
def stepK (C:Con)(n:Nt):Con:=if refC C n.kind n.name n.vy=0 then pfC C n else C
theorem zxg {w':World}{B g gd bm room k:Nat}{A':Option Addr}{c':Nat}{S:St}{f':Int}{L':List Ly}{C:Con}{ks:List Kt}{ns:List Nt}{n:Nt}(hz:Bz w' B g gd bm A' c' (addS S (recN n)) f' L')(hc:L'.map Ly.s=pfC C n)(h2:S.xs=kl ks++jl ns)(h3:S.room=room)(h5:ChK [] ⟨#[]⟩ ks)(h6:Ch (ks.foldl kpC []) ns)(h7:C.Perm (con2 ks ns))(h8:Wk k C)(h9:∀ s∈C,KsOk s)(h10:S.xs.length≤k*20000)(hk:k≤100)(hmay:mayC C n)(hn:NtOk n):BT w' B g gd room (k+1) (pfC C n):=by
 have hwk:=wk_pf h8 hmay (by omega)
 have hp:(pfC C n).Perm (con2 ks (ns++[n])):=by rw[zt3];exact zt1 h7 h8.nd n
 have hl:=(zkn hn).1
 refine ⟨ks,ns++[n],bm,A',c',_,f',L',hz,?_,h3,hc,h5,zy7 ns _ n h6 ((zv7 h7 h8.nd n).1 hmay) hn (zt2 (zt1 h7 h8.nd n) (hwk.wf (by omega))),hp,hwk,ks_pf h8 (by omega) h9 hmay hn,?_⟩
 ·show S.xs++recN n=_
  rw[h2,zia,zns];simp[jl]
 ·show (S.xs++recN n).length≤_
  rw[kI];omega
theorem zmc {w:World}{B g gd room k:Nat}{C:Con}(h:BT w B g gd room k C)(hk:k≤100)(hroom:(k+1)*20000≤room){n:Nt}(hn:NtOk n)(hkd:n.kind=2∨n.kind=3) :
  Calls Tryz.prog 88 #[.pointer (some ⟨g,0,none⟩),.agg (noteV n.kind n.name n.vy 0 (.slice none 0 0))] w fun e w'=>e = .returned (.int .i64 (refC C n.kind n.name n.vy))∧BT w' B g gd room (k+1) (stepK C n)∧BK B w w':=by
 have hB:B≤w.heap.size:=by
  obtain ⟨ks,ns,bm,A,c,S,f,L,h1,_⟩:=h
  exact h1.bw.b0l
 have h0:=h
 obtain ⟨ks,ns,bm,A,c,S,f,L,h1,h2,h3,h4,h5,h6,h7,h8,h9,h10⟩:=h
 by_cases hr:refC C n.kind n.name n.vy=0
 ·rw[stepK,kZ hr,hr]
  have hl:=(zkn hn).1
  refine (znu h1 (by rw[h4];exact h8.wf (by omega)) hn hkd (by rw[h4];exact hr) (by rw[h3];omega)).mono ?_
  rintro e w' ⟨rfl,A',c',f',L',hz,hc,hb⟩
  rw[h4] at hc
  exact ⟨rfl,zxg hz hc h2 h3 h5 h6 h7 h8 h9 h10 hk (.inr ⟨hkd,hr⟩) hn,hb⟩
 ·rw[stepK,kT hr]
  refine (zqw h1 n.kind n.name n.vy hkd (by have:=hn.ver;omega) (by rw[h4]) (by simpa using hr)).mono ?_
  rintro e w' ⟨rfl,hb⟩
  exact ⟨rfl,(h0.below hb).more,.of hb hB⟩
theorem put_bt {w:World}{B g gd room k:Nat}{C:Con}(h:BT w B g gd room k C)(hk:k≤100)(hroom:(k+1)*20000≤room){name:ByteArray}{v:Nat}{ms:List Int}{cs:Array Value}(hn:NtOk ⟨1,name,v,ms⟩)(hv:v=nextC C name)(hfu:fullC C name=false)(hm:MOk w cs ms) :
  Calls Tryz.prog 36 #[.pointer (some ⟨g,0,none⟩),.string name,.agg cs] w fun e w'=>e = .returned (.tuple #[.int .i64 (v:Int),.int .i64 0])∧BT w' B g gd room (k+1) (pfC C ⟨1,name,v,ms⟩)∧BK B w w':=by
 obtain ⟨ks,ns,bm,A,c,S,f,L,h1,h2,h3,h4,h5,h6,h7,h8,h9,h10⟩:=h
 have hl:=(zkn hn).1
 refine (zvu h1 (by rw[h4];exact h8.wf (by omega)) hn (by rw[h4];exact hv) (by rw[h4];exact hfu) hm (by rw[h3];omega)).mono ?_
 rintro e w' ⟨rfl,A',c',f',L',hz,hc,hb⟩
 rw[h4] at hc
 exact ⟨rfl,zxg hz hc h2 h3 h5 h6 h7 h8 h9 h10 hk (.inl ⟨rfl,hv,hfu⟩) hn,hb⟩
theorem zzd {w:World}{B g gd room k:Nat}{C:Con}(h:BT w B g gd room k C)(hk:k≤100)(hroom:(k+1)*20000≤room){name:ByteArray}{v:Nat}(hn:NtOk ⟨3,name,v,[]⟩) :
  Calls Tryz.prog 38 #[.pointer (some ⟨g,0,none⟩),.string name,.int .i64 (v:Int)] w fun e w'=>e = .returned (.int .i64 (refC C 3 name v))∧BT w' B g gd room (k+1) (stepK C ⟨3,name,v,[]⟩)∧BK B w w':=by
 have HC:=kA (fun W (hW:BT W B g gd room k C)=>zmc hW hk hroom hn (.inr rfl))
 have H:=kA h
 clear h hn
 go_enter Tryz.func38,Tryz.ntmps38
 go_wp2_with (first
  |(go_at_call 88;refine (HC.out _ (by exact H.out)).mono ?_;rintro e w' ⟨rfl,h1,h2⟩;have H1:=kA h1;have H2:=kA h2;clear h1 h2))
 go_ret
 exact ⟨rfl,H1.out,H2.out⟩
theorem zv9 {w:World}{B g gd room k:Nat}{C:Con}(h:BT w B g gd room k C)(hk:k≤100)(hroom:(k+1)*20000≤room){name:ByteArray}{v:Nat}(hn:NtOk ⟨2,name,v,[]⟩) :
  Calls Tryz.prog 37 #[.pointer (some ⟨g,0,none⟩),.string name,.int .i64 (v:Int)] w fun e w'=>e = .returned (.int .i64 (refC C 2 name v))∧BT w' B g gd room (k+1) (stepK C ⟨2,name,v,[]⟩)∧BK B w w':=by
 have HC:=kA (fun W (hW:BT W B g gd room k C)=>zmc hW hk hroom hn (.inl rfl))
 have H:=kA h
 clear h hn
 go_enter Tryz.func37,Tryz.ntmps37
 go_wp2_with (first
  |(go_at_call 88;refine (HC.out _ (by exact H.out)).mono ?_;rintro e w' ⟨rfl,h1,h2⟩;have H1:=kA h1;have H2:=kA h2;clear h1 h2))
 go_ret
 exact ⟨rfl,H1.out,H2.out⟩
def DT (w:World)(B gd room k:Nat)(C:Con):Prop:=∃ (ks:List Kt) (ns:List Nt) (A:Option Addr) (c:Nat) (S:St) (f:Int),Blk w gd 154 (pc (.slice A S.xs.length c) S f)∧Own w B (.slice A S.xs.length c) S.xs∧Ok S∧S.fuse=none∧S.dead=false∧S.safe=S.xs.length∧(B≤gd∧B≤w.heap.size)∧S.xs=kl ks++jl ns∧S.room=room∧ChK [] ⟨#[]⟩ ks∧Ch (ks.foldl kpC []) ns∧C.Perm (con2 ks ns)∧Wk k C∧(∀ s∈C,KsOk s)∧S.xs.length≤k*20000
theorem DT.below {w w':World}{B gd room k:Nat}{C:Con}(h:DT w B gd room k C)(hb:Below w.heap.size w w'):DT w' B gd room k C:=by
 obtain ⟨ks,ns,A,c,S,f,h1,h2,h3,h4,h5,h6,h7,h8⟩:=h
 exact ⟨ks,ns,A,c,S,f,zab h1 hb,zam h2 hb,h3,h4,h5,h6,⟨h7.1,kH h7.2 hb.size⟩,h8⟩
theorem zze {k:Nat}{C C':Con}(h:C.Perm C')(hw:Wk k C):Wk k C':=⟨by rw[← h.length_eq];exact hw.len,(h.map _).nodup_iff.1 hw.nd,fun s hs=>hw.sh s (h.mem_iff.2 hs),by rw[← (h.filter _).length_eq];exact hw.num⟩
theorem zzf {w:World}{B gd room k:Nat}{C:Con}(h:DT w B gd room k C) :
  Calls Tryz.prog 15 #[.pointer (some ⟨gd,0,none⟩)] w fun e w'=>∃ g C',e = .returned (.tuple #[.pointer (some ⟨g,0,none⟩),.int .i64 0])∧C.Perm C'∧BT w' B g gd room k C'∧Below w.heap.size w w':=by
 obtain ⟨ks,ns,A,c,S,f,d1,d2,d3,d4,d5,d6,d7,d8,d9,d10,d11,d12,d13,d14,d15⟩:=h
 refine (ztu d1 d2 d3 d4 d5 d6 d7 ks ns d8 d10 d11).mono ?_
 rintro e w' ⟨g,bm,L,rfl,hz,hc,hb⟩
 exact ⟨g,con2 ks ns,rfl,d12,⟨ks,ns,bm,A,c,S,f,L,hz,d8,d9,hc,d10,d11,.refl _,zze d12 d13,fun s hs=>d14 s (d12.mem_iff.2 hs),d15⟩,hb⟩
theorem new_dt (w:World)(n:Nat)(hn:n≤4194304) :
  Calls Tryz.prog 16 #[.int .i64 (n:Int)] w fun e w'=>e = .returned (.pointer (some ⟨w.heap.size,0,none⟩))∧DT w' w.heap.size w.heap.size n 0 []∧Below w.heap.size w w':=by
 refine (zvk n w (by omega) (by omega)).mono ?_
 rintro e w' ⟨rfl,rfl⟩
 refine ⟨rfl,⟨[],[],none,0,⟨[],n,0,none,false⟩,0,Blk.new w _ _,World.ownsRow_nil _ _ _ _,⟨kX _,hn,kJ _,fun k h=>by cases h⟩,rfl,rfl,rfl,⟨kJ _,by simp⟩,rfl,rfl,trivial,Wk.nil.wf (by omega),.refl _,Wk.nil,(fun _ h=>by cases h),kX _⟩,Below.new1 w _⟩
def liveC (C:Con)(name:ByteArray):Nat:=match fndC C name with
 |some s=>s.live
 |none=>0
theorem zwa (L:List Ly)(name:ByteArray):liveOf L name=liveC (L.map Ly.s) name:=by
 unfold liveOf liveC
 rw[zcp]
 cases fnd L name <;> rfl
section
variable {w:World}{B g gd room k:Nat}{C:Con}
theorem zzg (h:BT w B g gd room k C)(name:ByteArray) :
  Calls Tryz.prog 41 #[.pointer (some ⟨g,0,none⟩),.string name] w fun e w'=>e = .returned (if numC C name=0 then .tuple #[.int .i64 0,.int .i64 11] else .tuple #[.int .i64 (liveC C name:Int),.int .i64 0])∧Below w.heap.size w w':=by
 obtain ⟨ks,ns,bm,A,c,S,f,L,h1,h2,h3,h4,_⟩:=h
 rw[← h4,znr, ← zwa]
 exact zvv h1.bw.bk name
theorem zqy {L:List Ly}{name:ByteArray}{s:Sh}(h:fndC (L.map Ly.s) name=some s):∃ l,fnd L name=some l∧l.s=s:=by
 rw[zcp] at h
 cases hf:fnd L name with
 |none=>rw[hf] at h;cases h
 |some l=>rw[hf] at h;injection h with h;exact ⟨l,rfl,h⟩
theorem get_bt (h:BT w B g gd room k C){name:ByteArray}{s:Sh}(hs:fndC C name=some s)(vy v2:Nat)(hv:v2=if vy=0 then s.live else vy)(hvb:vy≤1000000){ms:List Int}(hm:(v2,ms)∈s.vs){P:World→World→Array Value→Prop}(hread:ReadIs ms P) :
  Calls Tryz.prog 40 #[.pointer (some ⟨g,0,none⟩),.string name,.int .i64 (vy:Int)] w (GetOk P w):=by
 obtain ⟨ks,ns,bm,A,c,S,f,L,h1,h2,h3,h4,h5,h6,h7,h8,h9,h10⟩:=h
 rw[← h4] at hs
 obtain ⟨l,hl,rfl⟩:=zqy hs
 have hri:=(h9 l.s (by rw[← h4];exact kO.2 ⟨l,(zax hl).1,rfl⟩)).ri
 obtain ⟨r,hr,e⟩:=kO.1 hm
 injection e with e1 e2
 have hri2:(l.V.map (·.v)).Nodup:=by
  have e2:l.s.vs.map (·.1)=l.V.map (·.v):=by
   show (l.V.map fun r=>(r.v,r.ms)).map (·.1)=_
   rw[qK];rfl
  rw[e2] at hri
  exact zge hri
 have hf:fndV l v2=some r:=by rw[← e1];exact zn0 hri2 hr
 exact get_ok h1.bw.bk hl vy v2 hv hvb hf (by rw[e2];exact hread)
theorem zwb (h:BT w B g gd room k C)(name:ByteArray)(vy:Nat)(h0:numC C name=0) :
  Calls Tryz.prog 40 #[.pointer (some ⟨g,0,none⟩),.string name,.int .i64 (vy:Int)] w (GetErr 11 w):=by
 obtain ⟨ks,ns,bm,A,c,S,f,L,h1,h2,h3,h4,_⟩:=h
 rw[← h4,znr] at h0
 exact zvw h1.bw.bk name vy h0
end
def BX (w:World)(B g gd room k:Nat)(C:Con)(ks:List Kt)(ns:List Nt)(bm:Nat)(A:Option Addr)(c:Nat)(S:St)(f:Int)(L:List Ly):Prop :=
 Bz w B g gd bm A c S f L∧S.xs=kl ks++jl ns∧S.room=room∧L.map Ly.s=C∧ChK [] ⟨#[]⟩ ks∧Ch (ks.foldl kpC []) ns∧C.Perm (con2 ks ns)∧Wk k C∧(∀ s∈C,KsOk s)∧S.xs.length≤k*20000
section
variable {w:World}{B g gd room k:Nat}{C:Con}{ks:List Kt}{ns:List Nt}{bm:Nat}{A:Option Addr}{c:Nat}{S:St}{f:Int}{L:List Ly}
theorem BX.bt (h:BX w B g gd room k C ks ns bm A c S f L):BT w B g gd room k C:=⟨ks,ns,bm,A,c,S,f,L,h⟩
theorem BX.below {w':World}(h:BX w B g gd room k C ks ns bm A c S f L)(hb:Below w.heap.size w w'):BX w' B g gd room k C ks ns bm A c S f L:=⟨h.1.below hb,h.2⟩
end
structure On where
 name:ByteArray
 next:Nat
 live:Nat
 vA:Option Addr
 vn:Nat
 vc:Nat
 mA:Option Addr
 mc:Nat
abbrev On.vv (o:On):Value := .slice o.vA o.vn o.vc
abbrev On.mv (o:On):Value := .slice o.mA o.vn o.mc
def cellsO (o:On):List Value:=[.string o.name,.int .i64 (o.next:Int),.int .i64 (o.live:Int),o.vv,o.mv]
def OnRow (w:World)(B:Nat)(v:Value)(os:List On):Prop:=w.ownsRow B 877 5 v os.length (os.map cellsO).flatten
theorem flatO:∀ (os:List On) (i t:Nat) (u:Value),(∃ hi:i<os.length,(cellsO os[i])[t]? = some u)→t<5→((os.map cellsO).flatten)[i*5+t]? = some u
 | [],i,t,u,⟨hi,_⟩,_=>by cases hi
 |p :: ps,0,t,u,⟨_,h⟩,ht=>by
  rw[kM,qD,Nat.zero_mul,Nat.zero_add,qB (by show t<5;exact ht)]
  exact h
 |p :: ps,i+1,t,u,⟨hi,h⟩,ht=>by
  have e:(i+1)*5+t - (cellsO p).length=i*5+t:=by show (i+1)*5+t - 5=_;omega
  rw[kM,qD,kY (by show 5≤_;omega),e]
  exact flatO ps i t u ⟨by simpa using hi,h⟩ ht
theorem OnRow.cell {w:World}{B n c:Nat}{A:Option Addr}{os:List On}(h:OnRow w B (.slice A n c) os){i:Nat}(hi:i<os.length):∃ g,A=some ⟨g,0,none⟩∧B≤g∧g<w.heap.size∧∀ (w':World) (q:Nat→Prop),Alt w w' q→¬ q g→∀ t u,t<5→(cellsO os[i])[t]? = some u→w'.cell? ⟨g,i*5+t,none⟩=some u:=by
 rcases h.2 with ⟨e,h0⟩|⟨g',cap,cur,e,h1,h2,h3,h4,h5,h6⟩
 ·omega
 ·injection e with e1 e2 e3
  refine ⟨g',e1,h1,lt_of_block h2,fun w' q ha hq t u ht hu=>?_⟩
  refine (cell_of_row _ _ (i*5+t) cur 877 _ ((ha.block g' (lt_of_block h2) hq).trans h2)).trans ?_
  have h7:=flatO os i t u ⟨hi,hu⟩ ht
  rw[← h6,List.getElem?_take_of_lt (by omega)] at h7
  simpa using h7
theorem IntRow.below {w w':World}{B:Nat}{v:Value}{zs:List Int}(h:IntRow w B v zs)(hb:Below w.heap.size w w'):IntRow w' B v zs:=by
 refine ⟨h.1,?_⟩
 rcases h.2 with h2|⟨g,cap,cur,e,h1,h2,h3⟩
 ·exact .inl h2
 ·exact .inr ⟨g,cap,cur,e,h1,(hb.block g (lt_of_block h2)).trans h2,h3⟩
def isRow (w:World)(t:TypeId)(v:Value):Prop:=∀ g,v.ownBlock=some g→∃ cur,w.heap[g]? = some (.cells cur t (0,0))
theorem zpg:∀ (os:List On) (j t:Nat) (u:Value) (o:On),(hj:j<os.length)→t<5→cellsO o=(cellsO os[j]).set t u→((os.set j o).map cellsO).flatten=((os.map cellsO).flatten).set (j*5+t) u
 | [],j,_,_,_,hj,_,_=>by cases hj
 |x :: os,0,t,u,o,_,ht,he=>by
  simp only[kG,kM,qD,Nat.zero_mul,Nat.zero_add]
  rw[List.set_append_left _ _ (by show t<5;exact ht),he]
  rfl
 |x :: os,j+1,t,u,o,hj,ht,he=>by
  simp only[kF,kM,qD]
  have e:(j+1)*5+t - (cellsO x).length=j*5+t:=by show (j+1)*5+t - 5=_;omega
  rw[List.set_append_right _ _ (by show 5≤_;omega),e,zpg os j t u o (by simpa using hj) ht he]
theorem OnRow.set {w:World}{B g n c:Nat}{os:List On}(h:OnRow w B (.slice (some ⟨g,0,none⟩) n c) os){j t:Nat}(hj:j<os.length)(ht:t<5){u:Value}{o:On}(he:cellsO o=(cellsO os[j]).set t u) :
  OnRow (w.setCell ⟨g,j*5+t,none⟩ u) B (.slice (some ⟨g,0,none⟩) n c) (os.set j o):=by
 have hlen:(os.set j o).length=os.length:=List.length_set
 unfold OnRow
 rw[hlen,zpg os j t u o hj ht he]
 refine ⟨by rw[List.length_set];exact h.1,?_⟩
 rcases h.2 with ⟨e,_⟩|⟨g',cap,cur,e,h1,h2,h3,h4,h5,h6⟩
 ·cases e
 ·injection e with e1 e2 e3
  injection e1 with e1
  injection e1 with e1
  subst e1
  refine .inr ⟨g,cap,cur.setIfInBounds (j*5+t) u,by rw[e2,e3],h1,heap_setCell_same w g _ cur _ u h2,h3,h4,by simpa using h5,?_⟩
  rw[Array.toList_setIfInBounds,List.take_set,h6]
structure Tr where
 v:Nat
 ms:List Int
 cs:Array Value
structure Pe where
 o:On
 ts:List Tr
def Pe.s (p:Pe):Sh:=⟨p.o.name,p.o.next,p.o.live,p.ts.map fun t=>(t.v,t.ms)⟩
def Pe.own (p:Pe)(k:Nat):Prop:=p.o.vv.ownBlock=some k∨p.o.mv.ownBlock=some k
def versT (ts:List Tr):List Int:=ts.map fun t=>(t.v:Int)
def flatT (ts:List Tr):List Value:=(ts.map fun t=>t.cs.toList).flatten
abbrev PMod:=World→(Nat→Prop)→List Int→Array Value→Prop
def Stays (PM:PMod):Prop:=∀ (w w':World) (far far' p:Nat→Prop) (ms:List Int) (cs:Array Value),PM w far ms cs→Alt w w' p→(∀ k,k<w.heap.size→p k→far k∨TB w k)→(∀ k,k<w.heap.size→far' k→far k)→PM w' far' ms cs
structure PeOk (PM:PMod)(w:World)(B:Nat)(far:Nat→Prop)(p:Pe):Prop where
 n:p.o.vn=p.ts.length
 vr:IntRow w B p.o.vv (versT p.ts)
 mr:w.ownsRow B 90 59 p.o.mv p.ts.length (flatT p.ts)
 md:∀ t∈p.ts,t.cs.size=59∧AllOne t.cs∧PM w far t.ms t.cs
structure Ps (PM:PMod)(w:World)(B:Nat)(far:Nat→Prop)(v:Value)(ps:List Pe):Prop where
 row:OnRow w B v (ps.map Pe.o)
 each:∀ p∈ps,PeOk PM w B far p
 ap:ps.Pairwise fun p q=>∀ k,p.own k→¬ q.own k
 fo:∀ k,v.ownBlock=some k→far k
 fp:∀ p∈ps,∀ k,p.own k→far k
theorem zxh {ps:List Pe}{j:Nat}{p:Pe}(h:ps[j]? = some p):p∈ps:=by
 obtain ⟨hj,e⟩:=kK.1 h
 rw[← e];exact List.getElem_mem hj
theorem zas {w w':World}{base n size:Nat}{e:TypeId}{v:Value}{xs:List Value}{p:Nat→Prop}(h:w.ownsRow base e size v n xs)(ha:Alt w w' p)(hp:∀ g,v.ownBlock=some g→¬ p g):w'.ownsRow base e size v n xs:=by
 refine ⟨h.1,?_⟩
 rcases h.2 with h0|⟨g,cap,cur,rfl,h1,h2,h3⟩
 ·exact .inl h0
 ·exact .inr ⟨g,cap,cur,rfl,h1,(ha.block g (lt_of_block h2) (hp g rfl)).trans h2,h3⟩
theorem zad {w w':World}{base n size:Nat}{e:TypeId}{v:Value}{xs:List Value}(h:w.ownsRow base e size v n xs)(hb:Below w.heap.size w w'):w'.ownsRow base e size v n xs:=zas h (alt_of_below (p:=fun _=>False) hb) (fun _ _ h=>h)
structure SP (PM:PMod)(w:World)(B:Nat)(far:Nat→Prop)(gp:Nat)(v:Value)(ps:List Pe):Prop where
 pt:Blk w gp 109 #[v]
 ps:Ps PM w B far v ps
 bg:B≤gp
 fg:far gp
theorem PeOk.below {PM:PMod}(hst:Stays PM){w w':World}{B:Nat}{far:Nat→Prop}{p:Pe}(h:PeOk PM w B far p)(hb:Below w.heap.size w w'):PeOk PM w' B far p :=
 ⟨h.n,h.vr.below hb,zad h.mr hb,fun t ht=>by
  obtain ⟨h1,h2,h3⟩:=h.md t ht
  exact ⟨h1,h2,hst _ _ _ _ _ _ _ h3 (alt_of_below (p:=fun _=>False) hb) (fun _ _ h=>h.elim) (fun _ _ h=>h)⟩⟩
theorem OnRow.below {w w':World}{B:Nat}{v:Value}{os:List On}(h:OnRow w B v os)(hb:Below w.heap.size w w'):OnRow w' B v os:=zad h hb
theorem Ps.below {PM:PMod}(hst:Stays PM){w w':World}{B:Nat}{far:Nat→Prop}{v:Value}{ps:List Pe}(h:Ps PM w B far v ps)(hb:Below w.heap.size w w'):Ps PM w' B far v ps :=
 ⟨h.row.below hb,fun p hp=>(h.each p hp).below hst hb,h.ap,h.fo,h.fp⟩
theorem SP.below {PM:PMod}(hst:Stays PM){w w':World}{B gp:Nat}{far:Nat→Prop}{v:Value}{ps:List Pe}(h:SP PM w B far gp v ps)(hb:Below w.heap.size w w'):SP PM w' B far gp v ps :=
 ⟨zab h.pt hb,h.ps.below hst hb,h.bg,h.fg⟩
theorem zmd {w:World}{B Bv t n:Nat}{sz:Nat}{v u:Value}{os:List On}{xs:List Value}(h:OnRow w B v os)(hu:w.ownsRow Bv t sz u n xs)(hne:877≠t):∀ k,v.ownBlock=some k→u.ownBlock≠some k:=by
 intro k hk
 rcases h.2 with ⟨rfl,_⟩|⟨g',cap,cur,rfl,_,hh,_⟩
 ·cases hk
 ·have:g'=k:=by simpa [Value.ownBlock] using hk
  subst this
  rcases hu.2 with ⟨rfl,_⟩|⟨g2,cap2,cur2,rfl,_,hh2,_⟩
  ·simp[Value.ownBlock]
  ·intro he
   have:g2=g':=by simpa [Value.ownBlock] using he
   subst this
   rw[hh] at hh2
   injection hh2 with hh2
   injection hh2 with _ ht
   exact hne ht
theorem PeOk.alt {PM:PMod}(hst:Stays PM){w w':World}{B:Nat}{far far' q:Nat→Prop}{p:Pe}(h:PeOk PM w B far p)(ha:Alt w w' q)(hq:∀ k,k<w.heap.size→q k→far k∨TB w k)(hno:∀ k,p.own k→¬ q k)(hf:∀ k,k<w.heap.size→far' k→far k):PeOk PM w' B far' p:=by
 refine ⟨h.n,?_,zas h.mr ha (fun g hg=>hno g (.inr hg)),fun t ht=>?_⟩
 ·exact zas h.vr ha (fun g hg=>hno g (.inl hg))
 ·obtain ⟨h1,h2,h3⟩:=h.md t ht
  exact ⟨h1,h2,hst _ _ _ _ _ _ _ h3 ha hq hf⟩
theorem zai {w:World}{B g n sz:Nat}{t t':TypeId}{cs:Array Value}{v:Value}{xs:List Value}(h:w.ownsRow B t' sz v n xs)(hg:Blk w g t cs)(hne:t'≠t):¬ v.ownBlock=some g:=by
 intro hk
 rcases h.2 with ⟨rfl,_⟩|⟨g',cap,cur,rfl,_,hh,_⟩
 ·cases hk
 ·have:g'=g:=by simpa [Value.ownBlock] using hk
  subst this
  exact Blk.ne_ (show Blk w g' t' cur from hh) hg hne rfl
theorem Ps.set {PM:PMod}(hst:Stays PM){w:World}{B g n c:Nat}{far:Nat→Prop}{ps:List Pe}(h:Ps PM w B far (.slice (some ⟨g,0,none⟩) n c) ps){j t:Nat}{p p':Pe}(hj:ps[j]? = some p)(ht:t<5){u:Value}(he:cellsO p'.o=(cellsO p.o).set t u)(hown:∀ k,p'.own k→p.own k)(hok:∀ W,PeOk PM W B far p→PeOk PM W B far p') :
  Ps PM (w.setCell ⟨g,j*5+t,none⟩ u) B far (.slice (some ⟨g,0,none⟩) n c) (ps.set j p'):=by
 obtain ⟨hjl,hje⟩:=kK.1 hj
 have ha:Alt w (w.setCell ⟨g,j*5+t,none⟩ u) (fun k=>k=g):=(Alt.refl w (fun k=>k=g)).set_ (a:=⟨g,j*5+t,none⟩) rfl u
 have hgf:far g:=h.fo g rfl
 have hrow:OnRow (w.setCell ⟨g,j*5+t,none⟩ u) B (.slice (some ⟨g,0,none⟩) n c) ((ps.map Pe.o).set j p'.o):=OnRow.set h.row (by rw[kN];exact hjl) ht (by rw[List.getElem_map,hje];exact he)
 have hno:∀ q∈ps,∀ k,q.own k→¬ k=g:=by
  rintro q hq k (hk|hk) rfl
  ·exact zmd h.row (h.each q hq).vr (by decide) k rfl hk
  ·exact zmd h.row (h.each q hq).mr (by decide) k rfl hk
 have hold:∀ q∈ps,PeOk PM (w.setCell ⟨g,j*5+t,none⟩ u) B far q:=fun q hq=>(h.each q hq).alt hst ha (fun k _ e => .inl (by rw[e];exact hgf)) (hno q hq) (fun _ _ h=>h)
 refine ⟨by rw[List.map_set];exact hrow,fun q hq=>?_,?_,h.fo,fun q hq k hk=>?_⟩
 ·rcases List.mem_or_eq_of_mem_set hq with hq|rfl
  ·exact hold q hq
  ·exact hok _ (hold p (zxh hj))
 ·rw[List.pairwise_iff_getElem]
  have h0:=List.pairwise_iff_getElem.1 h.ap
  intro a b ha' hb' hab k
  rw[List.length_set] at ha' hb'
  rw[List.getElem_set,List.getElem_set]
  split
  ·next e1 =>
   subst e1
   rw[kT (by omega)]
   intro hk
   have:=h0 _ _ ha' hb' hab k
   rw[hje] at this
   exact this (hown k hk)
  ·split
   ·next _ e2 =>
    subst e2
    intro hk hk2
    have:=h0 _ _ ha' hb' hab k hk
    rw[hje] at this
    exact this (hown k hk2)
   ·exact h0 _ _ ha' hb' hab k
 ·rcases List.mem_or_eq_of_mem_set hq with hq|rfl
  ·exact h.fp q hq k hk
  ·exact h.fp p (zxh hj) k (hown k hk)
theorem Ps.live {PM:PMod}{w:World}{B n c:Nat}{A:Option Addr}{far:Nat→Prop}{ps:List Pe}(h:Ps PM w B far (.slice A n c) ps){j:Nat}{p:Pe}(hj:ps[j]? = some p):∃ g,A=some ⟨g,0,none⟩∧(∀ t u,t<5→(cellsO p.o)[t]? = some u→w.cell? ⟨g,j*5+t,none⟩=some u)∧(∀ i,w.frozen? ⟨g,i,none⟩=false)∧B≤g:=by
 obtain ⟨hjl,hje⟩:=kK.1 hj
 have hjl':j<(ps.map Pe.o).length:=by rw[kN];exact hjl
 have h0:=h.row
 have hn:n=(ps.map Pe.o).length:=by
  rcases h0.2 with ⟨e,h0⟩|⟨g,cap,cur,e,_⟩
  ·injection e with _ e2 _
   omega
  ·injection e with _ e2 _
 subst hn
 obtain ⟨g,rfl,hB,hg,hc⟩:=OnRow.cell h0 hjl'
 refine ⟨g,rfl,fun t u ht hu=>hc w (fun _=>False) (Alt.refl _ _) (fun h=>h) t u ht (by rw[List.getElem_map,hje];exact hu),fun i=>?_,hB⟩
 rcases h0.2 with ⟨e,_⟩|⟨g',cap,cur,e,_,hh,_⟩
 ·cases e
 ·injection e with e1
  injection e1 with e1
  injection e1 with e1
  subst e1
  exact Blk.frozen (show Blk w g 877 cur from hh) i
end Go.Proofs.YtemgclnkgieldaaGreatDoor.Oc
namespace Go.Proofs.YtemgclnkgieldaaGreatDoor.Hl
open Go Dk
section
variable {P:Program}{ops:Array Oper}{Q:Exit→Act→World→Prop}{md:Region.Mode}{S:World→Prop}{last:Nat}
def wpAnyL (P:Program)(md:Region.Mode)(ops:Array Oper)(Q:Exit→Act→World→Prop)(S:World→Prop)(last:Nat):Nat→Array Bool→Act→World→Prop
 | 0,listed,a,w=>Region.ready md ops listed=[]∧Q .normal a w
 |fuel+1,listed,a,w =>
  (Region.ready md ops listed=[]→Q .normal a w) ∧
  ∀ i∈Region.ready md ops listed,wpOp P ops Q i (fun a' w'=>(i≠last→S w')∧wpAnyL P md ops Q S last fuel (listed.setIfInBounds i true) a' w') a w
theorem zjg:∀ (fuel:Nat) (listed:Array Bool) (a:Act) (w:World),wpAnyL P md ops Q S last fuel listed a w→wpAny P md ops Q fuel listed a w
 | 0,_,_,_,h=>h
 |fuel+1,_,_,_,h=>⟨h.1,fun i hi=>wpOp_mono (fun a' w' h'=>zjg fuel _ a' w' h'.2) (h.2 i hi)⟩
def waits (md:Region.Mode)(ops:Array Oper)(last i:Nat):Bool:=(ops[last]?).any fun o=>o.after.any fun e=>Region.binds md e && e.on == i
theorem zqz {i:Nat}(h:waits md ops last i=true):∀ oj,ops[last]? = some oj→¬ (∀ e∈oj.after,Region.binds md e=true→e.on≠i):=by
 intro oj hoj hno
 unfold waits at h
 rw[hoj] at h
 simp only[Option.any_some,Array.any_eq_true,Bool.and_eq_true,beq_iff_eq] at h
 obtain ⟨k,hk,h1,h2⟩:=h
 exact hno _ (Array.getElem_mem hk) h1 h2
theorem zme {i:Nat}{oi:Oper}{v:Value}(hi:ops[i]? = some oi)(hsel:∀ (j:Nat) (o:Oper) cs b,ops[j]? = some o→o.op ≠ .select cs b)
  (hQ:∀ c a w,Q (.panic c) (a.put oi.dst v) w→Q (.panic c) a w) (hlast:∀ oj,ops[last]? = some oj→¬ (∀ e∈oj.after,Region.binds md e=true→e.on≠i)) :
  ∀ (fuel:Nat) (listed:Array Bool) (a:Act) (w:World),
   (∀ j oj,ops[j]? = some oj→j≠i→listed.getD j true=false→(∀ e∈oj.after,Region.binds md e=true→e.on≠i)→oi.apart ops oj=true) →
   i∈Region.ready md ops listed→YieldsIf P ops S oi v a→S w →
   wpAnyL P md ops Q S last fuel (listed.setIfInBounds i true) (a.put oi.dst v) w→wpAnyL P md ops Q S last (fuel+1) listed a w:=by
 intro fuel
 induction fuel with
 |zero =>
  intro listed a w _ hr hy hS H
  refine ⟨fun h=>(by rw[h] at hr;cases hr),fun j hj=>?_⟩
  by_cases hji:j=i
  ·subst hji;exact hy.wpOp hi hS ⟨fun _=>hS,H⟩
  ·have:=ready_mono hj hji
   rw[H.1] at this
   cases this
 |succ fuel ih =>
  intro listed a w hfree hr hy hS H
  refine ⟨fun h=>(by rw[h] at hr;cases hr),fun j hj=>?_⟩
  by_cases hji:j=i
  ·subst hji;exact hy.wpOp hi hS ⟨fun _=>hS,H⟩
  ·have h1:=H.2 j (ready_mono hj hji)
   obtain ⟨hjun,oj,hoj,hall⟩:=mem_ready.1 hj
   have hnot:∀ e∈oj.after,Region.binds md e=true→e.on≠i:=fun e he hb heq=>by
    have h1:=hall e he hb
    have h0:=(mem_ready.1 hr).1
    rw[heq] at h1
    rcases Nat.lt_or_ge i listed.size with h'|h'
    ·simp[h'] at h0 h1;rw[h0] at h1;cases h1
    ·simp[Array.getElem?_eq_none h'] at h1
   have hjl:j≠last:=fun e=>by subst e;exact hlast oj hoj hnot
   have h2:=wpOp_putIf hoj (hfree j oj hoj hji hjun hnot) (fun cs b=>hsel i oi cs b hi) (fun cs b=>hsel j oj cs b hoj) hQ hy h1
   have hfree':∀ k ok,ops[k]? = some ok→k≠i→(listed.setIfInBounds j true).getD k true=false →
     (∀ e∈ok.after,Region.binds md e=true→e.on≠i)→oi.apart ops ok=true:=fun k ok hk hki hun hno=>by
    refine hfree k ok hk hki ?_ hno
    by_cases hjk:j=k
    ·subst hjk;exact hjun
    ·rw[getD_set_ne true hjk] at hun;exact hun
   refine wpOp_mono (fun a' w' h3=>⟨h3.2.1,ih (listed.setIfInBounds j true) a' w' hfree' (ready_mono hr (Ne.symm hji)) h3.1 (h3.2.1 hjl) ?_⟩) h2
   rw[Array.setIfInBounds_comm _ _ hji]
   exact h3.2.2
theorem wpAnyL_take {i:Nat}{oi:Oper}{v:Value}{fuel:Nat}{listed:Array Bool}{a:Act}{w:World}(hi:ops[i]? = some oi)
  (hs:Region.noSelect ops=true) (hf:Region.free md ops listed i=true) (hr:(Region.ready md ops listed).contains i=true) (hl:waits md ops last i=true)
  (hQ:∀ c a w,Q (.panic c) (a.put oi.dst v) w→Q (.panic c) a w) (hy:YieldsIf P ops S oi v a) (hS:S w)
  (h:wpAnyL P md ops Q S last fuel (listed.setIfInBounds i true) (a.put oi.dst v) w):wpAnyL P md ops Q S last (fuel+1) listed a w :=
 zme hi (Region.noSelect_spec hs) hQ (zqz hl) fuel listed a w (Region.free_spec hi hf) (by simpa using hr) hy hS h
theorem wpAnyL_done {listed:Array Bool}{a:Act}{w:World}(hr:Region.ready md ops listed=[])(h:Q .normal a w) :
  ∀ fuel,wpAnyL P md ops Q S last fuel listed a w
 | 0=>⟨hr,h⟩
 |_+1=>⟨fun _=>h,by rw[hr];simp⟩
theorem wpAnyL_one {i:Nat}{o:Oper}{fuel:Nat}{listed:Array Bool}{a:Act}{w:World}(hr:Region.ready md ops listed=[i])(ho:ops[i]? = some o)
  (h:∀ K':Act→World→Prop,Shut (∀ a w,(i≠last→S w)→((i≠last→S w)→wpAnyL P md ops Q S last fuel (listed.setIfInBounds i true) a w)→K' a w)→if Region.wanted o (yielded ops a.tmps)=true then Oper.wp P o a w K' Q else K' (a.put o.dst undef) w):wpAnyL P md ops Q S last (fuel+1) listed a w :=
 ⟨fun h0=>(by rw[hr] at h0;cases h0),fun j hj=>by
  rw[hr,kP] at hj
  subst hj
  exact wpOp_step ho (fun K' hK=>h K' (fun a w hS hW=>hK a w ⟨hS,hW hS⟩))⟩
theorem wp_region_L {id:Nat}(last:Nat){a:Act}{w:World}(hm:P.follows .mixedOrders=true)(hS:S w.drew)
  (h:S w.drew→wpAnyL P .any ops Q S last ops.size (Array.replicate ops.size false) a w.drew):(Code.region id ops true).wp P Q a w :=
 wp_region_any hm (zjg _ _ _ _ (h hS))
end
end Go.Proofs.YtemgclnkgieldaaGreatDoor.Hl
namespace Go.Proofs.YtemgclnkgieldaaGreatDoor.Oc
open Go Go.RowKit Dk
theorem zfu {w:World}{base n size:Nat}{e:TypeId}{v:Value}{xs:List Value}(h:w.ownsRow base e size v n xs):∃ A c,v = .slice A n c:=by
 rcases h.2 with ⟨rfl,hn⟩|⟨g,cap,cur,rfl,_⟩
 ·exact ⟨none,0,by rw[hn]⟩
 ·exact ⟨_,_,rfl⟩
theorem add0 (g i:Nat):(⟨g,0,none⟩:Addr).add i=⟨g,i,none⟩:=by
 unfold Addr.add
 by_cases h:i=0 <;> simp[h]
theorem addk (g k i:Nat):(⟨g,k,none⟩:Addr).add i=⟨g,k+i,none⟩:=by
 unfold Addr.add
 by_cases h:i=0 <;> simp[h]
theorem zd9 {w:World}{B n sz:Nat}{t:TypeId}{v:Value}{xs:List Value}(h:w.ownsRow B t sz v n xs):∀ k,v.ownBlock=some k→k<w.heap.size:=fun k hk=>(World.ownsRow.lt h k hk).2
theorem PeOk.lt {PM:PMod}{w:World}{B:Nat}{far:Nat→Prop}{p:Pe}(h:PeOk PM w B far p):∀ k,p.own k→k<w.heap.size:=fun k hk=>hk.elim (zd9 h.vr k) (zd9 h.mr k)
theorem zau {w:World}{B B' n sz:Nat}{t:TypeId}{v:Value}{xs:List Value}(h:w.ownsRow B t sz v n xs)(hb:B'≤B):w.ownsRow B' t sz v n xs:=by
 refine ⟨h.1,?_⟩
 rcases h.2 with h0|⟨g,cap,cur,e,h1,h2⟩
 ·exact .inl h0
 ·exact .inr ⟨g,cap,cur,e,kH hb h1,h2⟩
theorem Ps.apart {PM:PMod}{w:World}{B:Nat}{far:Nat→Prop}{v:Value}{ps:List Pe}(h:Ps PM w B far v ps){i j:Nat}{p q:Pe}(hi:ps[i]? = some q)(hj:ps[j]? = some p)(hij:i≠j):∀ k,q.own k→¬ p.own k:=by
 obtain ⟨hi1,hi2⟩:=kK.1 hi
 obtain ⟨hj1,hj2⟩:=kK.1 hj
 have h0:=List.pairwise_iff_getElem.1 h.ap
 intro k hk hk2
 rcases Nat.lt_or_gt_of_ne hij with hlt|hlt
 ·have:=h0 i j hi1 hj1 hlt k
  rw[hi2,hj2] at this
  exact this hk hk2
 ·have:=h0 j i hj1 hi1 hlt k
  rw[hi2,hj2] at this
  exact this hk2 hk
theorem zcj {ops:Array Oper}{S:World→Prop}{op:Oper}{a:Act}(hw:Region.wanted op (yielded ops a.tmps)=true)(ty:TypeId)(x:Operand)(ho:op.op = .load ty x)
  (g:Nat) (hx:a.eval x = .pointer (some ⟨g,0,none⟩)) (cs:Array Value) (t':TypeId) (d:TypeDesc) (hS:∀ w,S w→Blk w g t' cs)
  (hu:Tryz.prog.underlying ty=some d) (hd:(match d with | .struct _ | .array _ _=>true|_=>false)=true) (hi:(Tryz.prog.info? ty).map (·.size)=some cs.size):YieldsIf Tryz.prog ops S op (.agg cs) a :=
 .inl ⟨hw,fun w hw'=>by
  have hrun:=run_loadVar_row (P:=Tryz.prog) w g t' ty cs (0,0) d (hS w hw') hu (by cases d <;> first|rfl|cases hd) hi
  unfold execOp
  simp only[ho,hx,Instr.loadAt,Instr.sureAddr,Sem.run_bind,Sem.run_pure,Result.andThen_ok,hrun]⟩
theorem zph:∀ (l:List Value) (k:Nat) (cells:Array Value),k+l.length≤cells.size→(l.zipIdx k).foldl (fun (cs:Array Value) (x:Value×Nat)=>cs.setIfInBounds (0+x.2) x.1) cells=(cells.toList.take k++l++cells.toList.drop (k+l.length)).toArray
 | [],k,cells,_=>by simp
 |x :: l,k,cells,h=>by
  rw[List.length_cons] at h
  rw[List.zipIdx_cons,List.foldl_cons,zph l (k+1) _ (by simp;omega)]
  apply Array.ext'
  simp only[Nat.zero_add,Array.toList_setIfInBounds,List.length_cons]
  rw[List.take_set,List.drop_set]
  rw[kZ (by omega)]
  rw[show k+1+l.length=k+(l.length+1) by omega]
  congr 1
  rw[List.take_succ_eq_append_getElem (by simpa using (by omega:k<cells.size)),List.set_append_right _ _ (by simp;omega)]
  have e:k - (cells.toList.take k).length=0:=by simp;omega
  rw[e]
  simp
theorem zc8 {T E:TypeId}{i:TypeInfo}{z:Value}{cs:Array Value}{w:World}(hT:Tryz.prog.underlying T=some (.slice E))(hi:Tryz.prog.info? E=some i)(hz:i.zero=some z)(hs:i.size=cs.size)(h0:0<cs.size)(hle:cs.size≤1000) :
  (Instr.buildSlice T 1 #[(0,.agg cs)]).run Tryz.prog w = .ok (.slice (some ⟨w.heap.size,0,none⟩) 1 1) (w.alloc (.cells cs E)):=by
 have hf:Instr.fill (fun j=>some (j*cs.size,cs.size)) ((Array.range (1*cs.size)).map (z.cells[· % z.cells.size]!)) [(0,.agg cs)]=some cs:=by
  unfold Instr.fill
  simp only[show Value.cells (.agg cs)=cs from rfl,Nat.zero_mul]
  rw[kT (by simp)]
  unfold Instr.fill
  refine congrArg some ?_
  have:=zph cs.toList 0 ((Array.range (1*cs.size)).map (z.cells[· % z.cells.size]!)) (by rw[Array.size_map,Array.size_range,Nat.zero_add,Nat.one_mul];exact kJ _)
  rw[List.take_zero,List.nil_append,Nat.zero_add,List.drop_of_length_le (by rw[Array.length_toList,Array.size_map,Array.size_range,Nat.one_mul];exact kJ _),qI,Array.toArray_toList] at this
  refine Eq.trans ?_ this
  rw[← Array.foldl_toList,Array.toList_zipIdx]
 unfold Instr.buildSlice
 simp[run_underlying hT,sizeOf,typeInfo,hi,hs,zeroValue,hz,Result.andThen]
 rw[kT (by omega),kT (by intro h;rw[h] at h0;cases h0)]
 rw[Nat.one_mul] at hf
 rw[hf]
 simp[newRow,newObj,Result.andThen]
 rfl
theorem zew {ops:Array Oper}{o:Oper}{a:Act}{K:Act→World→Prop}{Q:Exit→Act→World→Prop}{E':Prop}(w:World)(hgd:o.guard=none)(T:TypeId)(x:Operand)(ho:o.op = .buildSlice T 1 #[(0,x)])(E:TypeId)(i:TypeInfo)(z:Value)(cs:Array Value)
  (hT:Tryz.prog.underlying T=some (.slice E)) (hi:Tryz.prog.info? E=some i) (hz:i.zero=some z) (hs:i.size=cs.size) (h0:0<cs.size) (hle:cs.size≤1000) (hx:a.eval x = .agg cs)
  (h:K (a.put o.dst (.slice (some ⟨w.heap.size,0,none⟩) 1 1)) (w.alloc (.cells cs E))):if Region.wanted o (yielded ops a.tmps)=true then Oper.wp Tryz.prog o a w K Q else E':=by
 have hw:Region.wanted o (yielded ops a.tmps)=true:=by simp[Region.wanted,hgd]
 rw[kZ hw]
 have hrun:=zc8 (w:=w) hT hi hz hs h0 hle
 unfold Oper.wp
 simp[execOp,ho,hx,hrun,Result.andThen]
 exact h
theorem za3 (w:World)(t:TypeId)(cs:Array Value):∀ j u,cs.toList[j]? = some u→(w.alloc (.cells cs t)).cell? ((⟨w.heap.size,0,none⟩:Addr).add j)=some u:=fun j u hu=>by
 rw[add0,(Blk.new w t cs).cell]
 simpa using hu
theorem zbu {w:World}{B B2 n n2 sz sz2:Nat}{t t2:TypeId}{v v2:Value}{xs xs2:List Value}(h:w.ownsRow B t sz v n xs)(h2:w.ownsRow B2 t2 sz2 v2 n2 xs2)(hne:t≠t2):∀ k,v.ownBlock=some k→¬ v2.ownBlock=some k:=by
 intro k hk hk2
 rcases h.2 with ⟨rfl,_⟩|⟨g',cap,cur,rfl,_,hh,_⟩
 ·cases hk
 ·have e:g'=k:=by simpa [Value.ownBlock] using hk
  subst e
  exact zai h2 (show Blk w g' t cur from hh) (fun e=>hne e.symm) hk2
theorem Alt.grow {w w':World}{row:Option Nat}(h:w.grownBy w' row):Alt w w' (fun k=>row=some k):=⟨h.os,h.tape,h.output,h.size,fun k hk hp=>h.block k hk (fun e=>hp e.symm)⟩
end Go.Proofs.YtemgclnkgieldaaGreatDoor.Oc
