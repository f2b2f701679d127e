/- A book's load: a Pack's notes, and those after it. -/
import Derived.Test.YtmejdkniafjncaaGreatDoorNf
set_option maxHeartbeats 4000000
set_option maxRecDepth 100000
namespace Go.Proofs.YtmejdkniafjncaaGreatDoor.Oc
open Go Go.RowKit Dk
theorem zuy {w:World}{g gd bm:Nat}{D:Option Nat}(h:Bk w g gd bm D 0 []){A:Option Addr}{J c:Nat}(ks:List Kt)(ns:List Nt)(hck:ChK [] ⟨#[]⟩ ks)(hch:Ch (ks.foldl kpC []) ns)(hJ:J=(kl ks++jl ns).length)(hr:Rb w A (kl ks++jl ns))(hA:A=none→J=0)(hJc:J≤c)(hJb:J≤4194304)(hc:c≤9223372036854775807)
  (hAb:∀ ad,A=some ad→ad.block≠bm∧ad=⟨ad.block,0,none⟩) (hD:∀ k,D=some k→k<w.heap.size) (hgd:gd<w.heap.size) :
  Calls Tryz.prog 19 #[.pointer (some ⟨g,0,none⟩),.slice A J c] w fun e w'=>e = .returned (.tuple #[.int .i64 (J:Int),.bool true])∧∃ L,L.map Ly.s=ns.foldl pfC (ks.foldl kpC [])∧Bk w' g gd bm D 0 L∧Alt w w' (fun k=>k=bm)∧∀ l∈L,w.heap.size≤l.g∧w.heap.size≤l.bv:=by
 have HBK:=hid h
 have HCH:=hid hch
 have HCK:=hid hck
 have HR:=hid hr
 have HJ:=hid hJ
 have HAB:=hid hAb
 have HA:=hid hA
 have HD:=hid hD
 clear h hch hck hr hJ hAb hA hD
 go_enter Tryz.func19,Tryz.ntmps19
 go_wp2
 go_loopw [6,7,8] (fun v6 v7 v8 wr=>∃ (dk rk:List Kt) (done rest:List Nt) (L:List Ly) (at_:Nat) (pk:Bool) (last:ByteArray),v6 = .int .i64 (at_:Int)∧v7 = .string last∧v8 = .bool pk∧at_≤J∧Hid (ks=dk++rk)∧Hid (ns=done++rest)∧Hid (at_=(kl dk++jl done).length)∧Hid (L.map Ly.s=done.foldl pfC (dk.foldl kpC []))∧Hid (rk=[]→Ch (done.foldl pfC (dk.foldl kpC [])) rest)∧Hid (rk≠[]→done=[]∧pk=true∧ChK (dk.foldl kpC []) last rk)∧Hid (Bk wr g gd bm D 0 L) ∧
   Hid (Alt w wr (fun k=>k=bm))∧Hid (∀ l∈L,w.heap.size≤l.g∧w.heap.size≤l.bv)) (fun v6 _ _ _=>J - (intOf v6).toNat)
 case atStart=>exact ⟨[],ks,[],ns,[],0,true,⟨#[]⟩,rfl,rfl,rfl,Nat.zero_le _,hid rfl,hid rfl,hid rfl,hid rfl,hid fun e=>by have:=HCH.out;rw[e] at this;exact this,hid fun _=>⟨rfl,rfl,HCK.out⟩,HBK,hid (Alt.refl _ _),hid fun _ h=>by cases h⟩
 case round =>
  obtain ⟨dk,rk,done,rest,L,at_,pk,last,rfl,rfl,rfl,hat,hks,hns,hatl,hL,hrest,hck,hbk,halt,hnew⟩:=hrel
  rcases rk with _|⟨k,rk⟩
  ·obtain rfl:ks=dk:=by have:=hks.out;rw[List.append_nil] at this;exact this
   have hrest:=hid (hrest.out rfl)
   clear hck hks
   rcases rest with _|⟨n,rest⟩
   ·have hend:at_=J:=by rw[hatl.out,HJ.out,hns.out,List.append_nil]
    have hst:=zf6 (by rw[hL.out];exact hrest.out.wf:WF (L.map Ly.s))
    have HST:=hid hst
    have hlast:done=ns:=by have:=hns.out;rw[List.append_nil] at this;exact this.symm
    have HLAST:=hid hlast
    have hge:¬ ((at_:Int)<(J:Int)):=by omega
    have HEND:=hid hend
    clear hst hlast hend hns hatl hrest hat
    go_wp2_with (go_at_call 47;refine (zhy hbk.out HST.out.2.2.1 HST.out.1 HST.out.2.1).mono ?_;rintro e w9 ⟨rfl,hb9⟩;have HB9:=hid hb9;clear hb9)
    go_ret2
    rw[HEND.out]
    refine ⟨rfl,L,by rw[hL.out,HLAST.out],zaf hbk.out HB9.out,halt.out.trans (alt_of_below HB9.out) (fun _ _ h=>h),hnew.out⟩
   ·obtain ⟨hwf,hmay,hok,hch⟩:=hrest.out
    have HWF:Hid (WF (L.map Ly.s)):=hid (by rw[hL.out];exact hwf)
    have HMAY:Hid (mayC (L.map Ly.s) n):=hid (by rw[hL.out];exact hmay)
    have HOK:=hid hok
    have HNX:=hid hch
    have HST:=hid (zf6 HWF.out)
    obtain ⟨hbl0,hbl1⟩:=zo3 hok
    have hsl:0<(recN n).length:=by unfold recN;rw[zfi];omega
    have HJL:Hid (kl ks++jl ns=(kl ks++jl done)++(recN n++jl rest)):=hid (by rw[hns.out,zh4,zno];simp only[List.append_assoc])
    have hJlen:J=at_+((recN n).length+(jl rest).length):=by rw[HJ.out,HJL.out,hatl.out];simp only[List.length_append]
    obtain ⟨rl,hrl⟩:∃ k,k=(recN n).length:=⟨_,rfl⟩
    have HRL:=hid hrl
    obtain ⟨q,hadA⟩:∃ q,A=some ⟨q,0,none⟩:=by
     cases A with
     |none=>have:=HA.out rfl;omega
     |some ad=>exact ⟨ad.block,by rw[← (HAB.out ad rfl).2]⟩
    subst hadA
    have HAD:Hid (Rb wr (some ⟨q,at_,none⟩) (recN n++jl rest)):=hid (by
     have h1:Rb wr (some ⟨q,0,none⟩) (kl ks++jl ns):=HR.out.keep halt.out (fun ad' e=>(HAB.out ad' e).1)
     rw[HJL.out] at h1
     rcases Nat.eq_zero_or_pos at_ with h0|h0
     ·have e1:kl ks++jl done=[]:=List.eq_nil_of_length_eq_zero (by rw[← hatl.out];exact h0)
      rw[e1,List.nil_append] at h1
      rw[h0]
      exact h1
     ·have h2:=Rb.drop h1 at_ h0
      have e:((kl ks++jl done)++(recN n++jl rest)).drop at_=recN n++jl rest:=by rw[hatl.out];exact List.drop_left
      rw[e] at h2
      simpa using h2)
    have HRLEN:Hid (J - at_=(recN n++jl rest).length):=hid (by rw[List.length_append];omega)
    have hlt:(at_:Int)<(J:Int):=by omega
    have hatJ:at_≤J:=hat
    have hJi:(J:Int)≤(c:Int):=by omega
    have hac:(at_:Int)≤(c:Int):=by omega
    have haJ:(at_:Int)≤(J:Int):=by omega
    have HNEXT:Hid (Calls Tryz.prog 44 #[.slice (some ⟨q,at_,none⟩) (J - at_) (c - at_)] wr fun e w'=>∃ A' L' c',e = .returned (.tuple #[.int .i64 n.kind,.slice A' L' c',.int .i64 (rl:Int),.int .i64 0])∧Own w' wr.heap.size (.slice A' L' c') (bodyN n)∧Below wr.heap.size wr w'):=hid (by
     have h1:(sealL n.kind (bodyN n)).length=rl:=by rw[hrl];rfl
     have h2:=hok.kd
     have:=zow (c:=c - at_) (kind:=n.kind) (ys:=bodyN n) (rest:=jl rest) HAD.out HRLEN.out (by omega) (by omega) (by omega) (by omega) hbl1 hbl0
     rw[h1] at this
     exact this)
    rw[← hrl] at hJlen hsl
    have HKD:=hid hok.kd
    have HNS:=hns
    have HJN:Hid (J=at_+(rl+(jl rest).length)):=hid hJlen
    have hsum:at_+rl≤J:=by omega
    clear hwf hmay hok hch hrest hbl0 hbl1 hrl hns hJlen
    go_upto_region 4 with (go_at_call 44;refine HNEXT.out.mono ?_;rintro e w4 ⟨A4,L4,c4,rfl,ho4,hb4⟩;have HO4:=hid ho4;have HB4:=hid hb4;clear ho4 hb4)
    go_upto_region 7 with fail
    have HBK4:=hid (zaf hbk.out HB4.out)
    have HAL4:=hid (halt.out.trans (alt_of_below (p:=fun k=>k=bm) HB4.out) (fun _ _ h=>h))
    go_upto_region 8 with (go_at_call 45;refine (zun HOK.out HO4.out).mono ?_;rintro e w5 ⟨X,lx,cx,rfl,hxm,hb5⟩;unfold noteV;have HXM:=hid hxm;have HB5:=hid hb5;clear hxm hb5)
    have hk4:(n.kind == 4)=false:=by have:=HKD.out;simp;omega
    have hk5:(n.kind == 5)=false:=by have:=HKD.out;simp;omega
    have HN6:Hid (Blk (w5.alloc (.cells #[.int .i64 n.kind,.string n.name,.int .i64 (n.version:Int),.int .i64 0,.slice X lx cx] 107)) w5.heap.size 107 (noteV n.kind n.name n.version 0 (.slice X lx cx))):=hid (Blk.new w5 _ _)
    have HB6:Hid (Below w4.heap.size w4 (w5.alloc (.cells #[.int .i64 n.kind,.string n.name,.int .i64 (n.version:Int),.int .i64 0,.slice X lx cx] 107))):=hid (HB5.out.alloc HB5.out.size _)
    have HX6:Hid (n.kind=1→RowIs (w5.alloc (.cells #[.int .i64 n.kind,.string n.name,.int .i64 (n.version:Int),.int .i64 0,.slice X lx cx] 107)) (Mt g gd bm D L) (.slice X lx cx) n.ms):=hid (fun hk1=>by
     obtain ⟨gm,e1,e2,hr1,hrb1,hg1⟩:=HXM.out hk1
     subst e1
     subst e2
     refine ⟨⟨gm,0,none⟩,cx,rfl,(HOK.out.md hk1).2.1,hr1.below (Below.new1 w5 _),fun hmt=>?_,(hrb1.below (Below.new1 w5 _)).row⟩
     have h1:=zww HBK4.out (fun k hk=>Nat.lt_of_lt_of_le (HD.out k hk) HAL4.out.size) (Nat.lt_of_lt_of_le hgd HAL4.out.size) hmt
     have h2:w4.heap.size≤gm:=hg1
     have h3:gm<w4.heap.size:=h1
     omega)
    have HBK6:=hid (zaf HBK4.out HB6.out)
    have HAL6:=hid (HAL4.out.trans (alt_of_below (p:=fun k=>k=bm) HB6.out) (fun _ _ h=>h))
    clear HXM
    generalize w5.alloc (.cells #[.int .i64 n.kind,.string n.name,.int .i64 (n.version:Int),.int .i64 0,.slice X lx cx] 107)=W6 at HN6 HB6 HX6 HBK6 HAL6 ⊢
    have HFIN:Hid (∀ w7,Below W6.heap.size W6 w7→Calls Tryz.prog 48 #[.pointer (some ⟨g,0,none⟩),.agg (noteV n.kind n.name n.version 0 (.slice X lx cx))] w7 fun e w8=>e = .returned (.bool true)∧∃ L',L'.map Ly.s=pfC (L.map Ly.s) n∧Bk w8 g gd bm D 0 L'∧Alt w w8 (fun k=>k=bm)∧∀ l∈L',w.heap.size≤l.g∧w.heap.size≤l.bv):=hid (fun w7 hb7=>by
     have hsz:w.heap.size≤w7.heap.size:=Nat.le_trans HAL6.out.size hb7.size
     refine (zqi (zaf HBK6.out hb7) HOK.out HWF.out HMAY.out 0 (.slice X lx cx) (fun hk1=>(HX6.out hk1).alt (alt_of_below (p:=fun _=>False) hb7) (fun _ _ h=>h.elim) (fun _ _ h=>h)) (fun k hk=>Nat.lt_of_lt_of_le (HD.out k hk) hsz) (Nat.lt_of_lt_of_le hgd hsz) rfl).mono ?_
     rintro e w8 ⟨rfl,L',hcon,hbk8,ha8,hnw⟩
     refine ⟨rfl,L',hcon,hbk8,(HAL6.out.trans (alt_of_below (p:=fun k=>k=bm) hb7) (fun _ _ h=>h)).trans ha8 ?_,?_⟩
     ·rintro k hk (e|e|e)
      ·exact e
      ·obtain ⟨l,hl,rfl⟩:=List.mem_map.1 e
       have:=(hnew.out l hl).1
       have hk':l.g<w.heap.size:=hk
       omega
      ·obtain ⟨l,hl,rfl⟩:=List.mem_map.1 e
       have:=(hnew.out l hl).2
       have hk':l.bv<w.heap.size:=hk
       omega
     ·intro l hl
      rcases hnw l hl with ⟨l0,h0,e1,e2⟩|⟨h1,h2⟩
      ·rw[← e1, ← e2];exact hnew.out l0 h0
      ·exact ⟨Nat.le_trans hsz h1,Nat.le_trans hsz h2⟩)
    have HREL:Hid (∀ L' w8,L'.map Ly.s=pfC (L.map Ly.s) n→Bk w8 g gd bm D 0 L'→Alt w w8 (fun k=>k=bm)→(∀ l∈L',w.heap.size≤l.g∧w.heap.size≤l.bv)→∃ (done' rest':List Nt) (L2:List Ly) (at2:Nat),Hid (at2=at_+rl)∧at2≤J∧Hid (ks=ks++[])∧Hid (ns=done'++rest')∧Hid (at2=(kl ks++jl done').length)∧Hid (L2.map Ly.s=done'.foldl pfC (ks.foldl kpC []))∧Hid (([]:List Kt)=[]→Ch (done'.foldl pfC (ks.foldl kpC [])) rest')∧Hid (([]:List Kt)≠[]→done'=[]∧false=true∧ChK (ks.foldl kpC []) last [])∧Hid (Bk w8 g gd bm D 0 L2) ∧
    Hid (Alt w w8 (fun k=>k=bm))∧Hid (∀ l∈L2,w.heap.size≤l.g∧w.heap.size≤l.bv)):=hid (fun L' w8 h1 h2 h3 h4=>⟨done++[n],rest,L',at_+rl,hid rfl,by have:=HJN.out;omega,hid (List.append_nil _).symm,hid (by rw[HNS.out];simp),hid (by rw[zh4, ← List.append_assoc,List.length_append, ← hatl.out,zno,List.length_append, ← HRL.out];rfl),hid (by rw[h1,hL.out,List.foldl_append];rfl),hid (fun _=>by rw[List.foldl_append];exact HNX.out),hid (fun h=>absurd rfl h),hid h2,hid h3,hid h4⟩)
    clear HB4 HO4 HB5 HBK4 HAL4 HX6 HAL6 HAD HRLEN HNEXT hbk halt hnew hatl hL HJL HWF HMAY
    obtain ⟨⟨n0,n1,n2,n3,n4⟩,nz⟩:=zap HN6.out
    cases pk with
    |false =>
     go_wp2_with (go_at_call 48;refine (HFIN.out _ (Below.refl _ _)).mono ?_;rintro e w8 ⟨rfl,L',h1,h2,h3,h4⟩;have H1:=hid h1;have H2:=hid h2;have H3:=hid h3;have H4:=hid h4;clear h1 h2 h3 h4)
     go_roundw
     case rel =>
      obtain ⟨d2,r2,L2,a2,ha2,hx⟩:=HREL.out L' w8 H1.out H2.out H3.out H4.out
      obtain ⟨x1,x2,x3,x4,x5,x6,_,x8⟩:=hx
      exact ⟨ks,[],d2,r2,L2,a2,false,last,by rw[ha2.out];rfl,rfl,rfl,x1,x2,x3,x4,x5,hid (fun _=>x6.out trivial),hid (fun h=>absurd rfl h),x8⟩
     case measure=>simp[intOf];omega
    |true =>
     go_wp2_with (first
      |(go_at_call 47;refine (zhy HBK6.out HST.out.2.2.1 HST.out.1 HST.out.2.1).mono ?_;rintro e w7 ⟨rfl,hb7⟩;have HB7:=hid hb7;obtain ⟨⟨m0,m1,m2,m3,m4⟩,mz⟩:=zap (zac HN6.out hb7);clear hb7)
      |(go_at_call 48;refine (HFIN.out _ HB7.out).mono ?_;rintro e w8 ⟨rfl,L',h1,h2,h3,h4⟩;have H1:=hid h1;have H2:=hid h2;have H3:=hid h3;have H4:=hid h4;clear h1 h2 h3 h4))
     go_roundw
     case rel =>
      obtain ⟨d2,r2,L2,a2,ha2,hx⟩:=HREL.out L' w8 H1.out H2.out H3.out H4.out
      obtain ⟨x1,x2,x3,x4,x5,x6,_,x8⟩:=hx
      exact ⟨ks,[],d2,r2,L2,a2,false,last,by rw[ha2.out];rfl,rfl,rfl,x1,x2,x3,x4,x5,hid (fun _=>x6.out trivial),hid (fun h=>absurd rfl h),x8⟩
     case measure=>simp[intOf];omega
  ·obtain ⟨rfl,rfl,hmay,hok,hch⟩:=hck.out (by simp)
   clear hrest hck
   have HMAY:Hid (mayK (L.map Ly.s) last k):=hid (by rw[hL.out];exact hmay)
   have HOK:=hid hok
   have HNX:=hid hch
   obtain ⟨hbl0,hbl1⟩:=zsz hok
   have hsl:0<(recK k).length:=by unfold recK;rw[zfi];omega
   have HJL:Hid (kl ks++jl ns=(kl dk++jl [])++(recK k++(kl rk++jl ns))):=hid (by rw[hks.out,zid,zw1];simp[jl])
   have hJlen:J=at_+((recK k).length+((kl rk++jl ns)).length):=by rw[HJ.out,HJL.out,hatl.out];simp only[List.length_append]
   obtain ⟨rl,hrl⟩:∃ z,z=(recK k).length:=⟨_,rfl⟩
   have HRL:=hid hrl
   obtain ⟨q,hadA⟩:∃ q,A=some ⟨q,0,none⟩:=by
    cases A with
    |none=>have:=HA.out rfl;omega
    |some ad=>exact ⟨ad.block,by rw[← (HAB.out ad rfl).2]⟩
   subst hadA
   have HAD:Hid (Rb wr (some ⟨q,at_,none⟩) (recK k++(kl rk++jl ns))):=hid (by
    have h1:Rb wr (some ⟨q,0,none⟩) (kl ks++jl ns):=HR.out.keep halt.out (fun ad' e=>(HAB.out ad' e).1)
    rw[HJL.out] at h1
    rcases Nat.eq_zero_or_pos at_ with h0|h0
    ·have e1:kl dk++jl []=[]:=List.eq_nil_of_length_eq_zero (by rw[← hatl.out];exact h0)
     rw[e1,List.nil_append] at h1
     rw[h0]
     exact h1
    ·have h2:=Rb.drop h1 at_ h0
     have e:((kl dk++jl [])++(recK k++(kl rk++jl ns))).drop at_=recK k++(kl rk++jl ns):=by rw[hatl.out];exact List.drop_left
     rw[e] at h2
     simpa using h2)
   have HRLEN:Hid (J - at_=(recK k++(kl rk++jl ns)).length):=hid (by rw[List.length_append];omega)
   have hlt:(at_:Int)<(J:Int):=by omega
   have hatJ:at_≤J:=hat
   have hJi:(J:Int)≤(c:Int):=by omega
   have hac:(at_:Int)≤(c:Int):=by omega
   have haJ:(at_:Int)≤(J:Int):=by omega
   have HNEXT:Hid (Calls Tryz.prog 44 #[.slice (some ⟨q,at_,none⟩) (J - at_) (c - at_)] wr fun e w'=>∃ A' L' c',e = .returned (.tuple #[.int .i64 k.kind,.slice A' L' c',.int .i64 (rl:Int),.int .i64 0])∧Own w' wr.heap.size (.slice A' L' c') (bodyK k)∧Below wr.heap.size wr w'):=hid (by
    have h1:(sealL k.kind (bodyK k)).length=rl:=by rw[hrl];rfl
    have h2:=hok.kd
    have:=zow (c:=c - at_) (kind:=k.kind) (ys:=bodyK k) (rest:=(kl rk++jl ns)) HAD.out HRLEN.out (by omega) (by omega) (by omega) (by omega) hbl1 hbl0
    rw[h1] at this
    exact this)
   rw[← hrl] at hJlen hsl
   have HKD:=hid hok.kd
   have HNS:=hks
   have HJN:Hid (J=at_+(rl+((kl rk++jl ns)).length)):=hid hJlen
   have hsum:at_+rl≤J:=by omega
   clear hmay hok hch hbl0 hbl1 hrl hks hJlen
   go_upto_region 4 with (go_at_call 44;refine HNEXT.out.mono ?_;rintro e w4 ⟨A4,L4,c4,rfl,ho4,hb4⟩;have HO4:=hid ho4;have HB4:=hid hb4;clear ho4 hb4)
   go_upto_region 7 with fail
   have HBK4:=hid (zaf hbk.out HB4.out)
   have HAL4:=hid (halt.out.trans (alt_of_below (p:=fun k=>k=bm) HB4.out) (fun _ _ h=>h))
   go_upto_region 8 with (go_at_call 45;refine (open_k HOK.out HO4.out).mono ?_;rintro e w5 ⟨X,lx,cx,rfl,hxm,hb5⟩;unfold noteV;have HXM:=hid hxm;have HB5:=hid hb5;clear hxm hb5)
   have HN6:Hid (Blk (w5.alloc (.cells #[.int .i64 k.kind,.string k.name,.int .i64 (k.version:Int),.int .i64 (k.live:Int),.slice X lx cx] 107)) w5.heap.size 107 (noteV k.kind k.name k.version (k.live:Int) (.slice X lx cx))):=hid (Blk.new w5 _ _)
   have HB6:Hid (Below w4.heap.size w4 (w5.alloc (.cells #[.int .i64 k.kind,.string k.name,.int .i64 (k.version:Int),.int .i64 (k.live:Int),.slice X lx cx] 107))):=hid (HB5.out.alloc HB5.out.size _)
   have HX6:Hid (k.kind=5→RowIs (w5.alloc (.cells #[.int .i64 k.kind,.string k.name,.int .i64 (k.version:Int),.int .i64 (k.live:Int),.slice X lx cx] 107)) (Mt g gd bm D L) (.slice X lx cx) k.ms):=hid (fun hk1=>by
    obtain ⟨gm,e1,e2,hr1,hrb1,hg1⟩:=HXM.out hk1
    subst e1
    subst e2
    refine ⟨⟨gm,0,none⟩,cx,rfl,(HOK.out.md hk1).2.1,hr1.below (Below.new1 w5 _),fun hmt=>?_,(hrb1.below (Below.new1 w5 _)).row⟩
    have h1:=zww HBK4.out (fun k hk=>Nat.lt_of_lt_of_le (HD.out k hk) HAL4.out.size) (Nat.lt_of_lt_of_le hgd HAL4.out.size) hmt
    have h2:w4.heap.size≤gm:=hg1
    have h3:gm<w4.heap.size:=h1
    omega)
   have HBK6:=hid (zaf HBK4.out HB6.out)
   have HAL6:=hid (HAL4.out.trans (alt_of_below (p:=fun k=>k=bm) HB6.out) (fun _ _ h=>h))
   clear HXM
   generalize w5.alloc (.cells #[.int .i64 k.kind,.string k.name,.int .i64 (k.version:Int),.int .i64 (k.live:Int),.slice X lx cx] 107)=W6 at HN6 HB6 HX6 HBK6 HAL6 ⊢
   have HFIN:Hid (Calls Tryz.prog 46 #[.pointer (some ⟨g,0,none⟩),.agg (noteV k.kind k.name k.version (k.live:Int) (.slice X lx cx)),.string last] W6 fun e w8=>e = .returned (.bool true)∧∃ L',L'.map Ly.s=kpC (L.map Ly.s) k∧Bk w8 g gd bm D 0 L'∧Alt w w8 (fun k=>k=bm)∧Alt W6 w8 (Mb bm L)∧∀ l∈L',w.heap.size≤l.g∧w.heap.size≤l.bv):=hid (by
    have hsz:w.heap.size≤W6.heap.size:=HAL6.out.size
    refine (zux HBK6.out HOK.out HMAY.out (.slice X lx cx) HX6.out (fun k hk=>Nat.lt_of_lt_of_le (HD.out k hk) hsz) (Nat.lt_of_lt_of_le hgd hsz)).mono ?_
    rintro e w8 ⟨rfl,L',hcon,hbk8,ha8,hnw⟩
    refine ⟨rfl,L',hcon,hbk8,HAL6.out.trans ha8 ?_,ha8,?_⟩
    ·rintro k hk (e|e|e)
     ·exact e
     ·obtain ⟨l,hl,rfl⟩:=List.mem_map.1 e
      have:=(hnew.out l hl).1
      have hk':l.g<w.heap.size:=hk
      omega
     ·obtain ⟨l,hl,rfl⟩:=List.mem_map.1 e
      have:=(hnew.out l hl).2
      have hk':l.bv<w.heap.size:=hk
      omega
    ·intro l hl
     rcases hnw l hl with ⟨l0,h0,e1,e2⟩|⟨h1,h2⟩
     ·rw[← e1, ← e2];exact hnew.out l0 h0
     ·exact ⟨Nat.le_trans hsz h1,Nat.le_trans hsz h2⟩)
   have HMB:Hid (¬ Mb bm L w5.heap.size):=hid (fun hm=>by
    have hb:=HBK4.out
    have h5:w4.heap.size≤w5.heap.size:=HB5.out.size
    rcases hm with e|e|e
    ·have:=hb.map.lt;omega
    ·obtain ⟨l,hl,e⟩:=List.mem_map.1 e
     have:=(hb.sh l hl).1.lt
     omega
    ·obtain ⟨l,hl,e⟩:=List.mem_map.1 e
     have:=(hb.sh l hl).2.1.lt
     omega)
   have HREL:Hid (∀ L' w8,L'.map Ly.s=kpC (L.map Ly.s) k→Bk w8 g gd bm D 0 L'→Alt w w8 (fun k=>k=bm)→(∀ l∈L',w.heap.size≤l.g∧w.heap.size≤l.bv)→∃ (dk' rk':List Kt) (L2:List Ly) (at2:Nat),Hid (at2=at_+rl)∧at2≤J∧Hid (ks=dk'++rk')∧Hid (ns=[]++ns)∧Hid (at2=(kl dk'++jl []).length)∧Hid (L2.map Ly.s=([]:List Nt).foldl pfC (dk'.foldl kpC []))∧Hid (rk'=[]→Ch (([]:List Nt).foldl pfC (dk'.foldl kpC [])) ns)∧Hid (rk'≠[]→([]:List Nt)=[]∧true=true∧ChK (dk'.foldl kpC []) k.name rk')∧Hid (Bk w8 g gd bm D 0 L2) ∧
   Hid (Alt w w8 (fun k=>k=bm))∧Hid (∀ l∈L2,w.heap.size≤l.g∧w.heap.size≤l.bv)):=hid (fun L' w8 h1 h2 h3 h4=>⟨dk++[k],rk,L',at_+rl,hid rfl,by have:=HJN.out;omega,hid (by rw[HNS.out];simp),hid rfl,hid (by have e1:kl (dk++[k])=kl dk++recK k:=by { rw[zid];congr 1;simp[kl] };rw[e1,List.length_append,List.length_append];have:=hatl.out;rw[List.length_append] at this;have:=HRL.out;omega),hid (by rw[h1,hL.out,List.foldl_append];rfl),hid (fun e=>by have:=HCH.out;rw[HNS.out,e] at this;exact this),hid (fun _=>⟨rfl,rfl,by rw[List.foldl_append];exact HNX.out⟩),hid h2,hid h3,hid h4⟩)
   clear HB4 HO4 HB5 HBK4 HAL4 HX6 HAL6 HAD HRLEN HNEXT hbk halt hnew hatl hL HJL HMAY
   obtain ⟨⟨n0,n1,n2,n3,n4⟩,nz⟩:=zap HN6.out
   rcases HKD.out with e|e
   ·have hk4:(k.kind == 4)=true:=by simp;omega
    have hk5:(k.kind == 5)=false:=by simp;omega
    clear e
    go_wp2_with (go_at_call 46;refine HFIN.out.mono ?_;rintro e w8 ⟨rfl,L',h1,h2,h3,h5,h4⟩;have H1:=hid h1;have H2:=hid h2;have H3:=hid h3;have H4:=hid h4;obtain ⟨⟨m0,m1,m2,m3,m4⟩,mz⟩:=zap (HN6.out.kept h5 HMB.out);clear h1 h2 h3 h4 h5)
    go_roundw
    case rel =>
     obtain ⟨d2,r2,L2,a2,ha2,hx⟩:=HREL.out L' w8 H1.out H2.out H3.out H4.out
     obtain ⟨x1,x2,x3,x4,x5,x6,x7,x8⟩:=hx
     exact ⟨d2,r2,[],ns,L2,a2,true,k.name,by rw[ha2.out];rfl,rfl,rfl,x1,x2,x3,x4,x5,x6,hid (fun h=>⟨rfl,rfl,(x7.out h).2.2⟩),x8⟩
    case measure=>simp[intOf];omega
   ·have hk4:(k.kind == 4)=false:=by simp;omega
    have hk5:(k.kind == 5)=true:=by simp;omega
    clear e
    go_wp2_with (go_at_call 46;refine HFIN.out.mono ?_;rintro e w8 ⟨rfl,L',h1,h2,h3,h5,h4⟩;have H1:=hid h1;have H2:=hid h2;have H3:=hid h3;have H4:=hid h4;obtain ⟨⟨m0,m1,m2,m3,m4⟩,mz⟩:=zap (HN6.out.kept h5 HMB.out);clear h1 h2 h3 h4 h5)
    go_roundw
    case rel =>
     obtain ⟨d2,r2,L2,a2,ha2,hx⟩:=HREL.out L' w8 H1.out H2.out H3.out H4.out
     obtain ⟨x1,x2,x3,x4,x5,x6,x7,x8⟩:=hx
     exact ⟨d2,r2,[],ns,L2,a2,true,k.name,by rw[ha2.out];rfl,rfl,rfl,x1,x2,x3,x4,x5,x6,hid (fun h=>⟨rfl,rfl,(x7.out h).2.2⟩),x8⟩
    case measure=>simp[intOf];omega
theorem zs0 {w:World}{B gd c:Nat}{A:Option Addr}{S:St}{f:Int}(hb:Blk w gd 93 (pc (.slice A S.xs.length c) S f))(ho:Own w B (.slice A S.xs.length c) S.xs)(hok:Ok S)(hfu:S.fuse=none)(hup:S.dead=false)(hsf:S.safe=S.xs.length)(hB:B≤gd∧B≤w.heap.size)
  (ks:List Kt) (ns:List Nt) (hj:S.xs=kl ks++jl ns) (hck:ChK [] ⟨#[]⟩ ks) (hch:Ch (ks.foldl kpC []) ns) :
  Calls Tryz.prog 7 #[.pointer (some ⟨gd,0,none⟩)] w fun e w'=>∃ g bm L,e = .returned (.tuple #[.pointer (some ⟨g,0,none⟩),.int .i64 0])∧Bz w' B g gd bm A c S f L∧L.map Ly.s=ns.foldl pfC (ks.foldl kpC [])∧Below w.heap.size w w':=by
 obtain ⟨⟨d0,d1,d2,d3,d4,d5⟩,dz⟩:=zcz hb
 have HD:=hid hb
 have HO:=hid ho
 have HOK:=hid hok
 have HFU:=hid hfu
 have HSF:=hid hsf
 have HB:=hid hB
 have HJ:=hid hj
 have HCH:=hid hch
 have HCK:=hid hck
 have HUP:=hid hup
 rw[hup] at d3
 clear hb ho hok hfu hup hsf hB hj hch hck
 have hmk:∀ t W,(Instr.makeMap t none).run Tryz.prog W = .ok (.map (some W.heap.size)) (W.alloc (.map #[] 0)):=fun _ _=>rfl
 go_enter Tryz.func7,Tryz.ntmps7
 go_upto_region 6 with fail
 have HG:Hid (Blk ((w.alloc (.map #[] 0)).alloc (.cells #[.pointer (some ⟨gd,0,none⟩),.int .i64 0,.map (some w.heap.size)] 96)) (w.heap.size+1) 96 #[.pointer (some ⟨gd,0,none⟩),.int .i64 0,.map (some w.heap.size)]):=hid (by have:=Blk.new (w.alloc (.map #[] 0)) 96 #[.pointer (some ⟨gd,0,none⟩),.int .i64 0,.map (some w.heap.size)];rw[World.size_alloc] at this;exact this)
 have HMP:Hid (MapIs ((w.alloc (.map #[] 0)).alloc (.cells #[.pointer (some ⟨gd,0,none⟩),.int .i64 0,.map (some w.heap.size)] 96)) KS w.heap.size []):=hid ((MapIs.new w KS).below (Below.new1 _ _))
 have HB2:Hid (Below w.heap.size w ((w.alloc (.map #[] 0)).alloc (.cells #[.pointer (some ⟨gd,0,none⟩),.int .i64 0,.map (some w.heap.size)] 96))):=hid ((Below.new1 w _).alloc (by simp) _)
 generalize (w.alloc (.map #[] 0)).alloc (.cells #[.pointer (some ⟨gd,0,none⟩),.int .i64 0,.map (some w.heap.size)] 96)=W2 at HG HMP HB2 ⊢
 have HD2:=hid (zac HD.out HB2.out)
 have HO2:=hid (zar HO.out HB2.out)
 have HSZ:Hid (w.heap.size+1<W2.heap.size):=hid HG.out.lt
 have HLT:Hid (gd<w.heap.size):=hid HD.out.lt
 obtain ⟨hl1,hl2⟩:=zf2 HO.out
 have hxs:S.xs.length≤4194304:=by have:=HOK.out;have:=this.1;have:=HOK.out.2.1;omega
 have HBK2:Hid (Bk W2 (w.heap.size+1) gd w.heap.size (Value.slice A S.xs.length c).ownBlock 0 []):=hid ⟨HG.out,HMP.out,(fun _ h=>by cases h),List.nodup_nil,by simp,by omega,fun _ h=>by cases h⟩
 have HNIL:Hid (A=none→S.xs.length=0):=hid fun e=>by have:=HO.out;rw[e] at this;exact this.none_.1
 have HCAP:Hid (c≤9223372036854775807):=hid (znr HO.out)
 have HADR:Hid (∀ ad,A=some ad→ad.block<w.heap.size∧ad=⟨ad.block,0,none⟩):=hid fun ad e=>by
  have h1:=HO.out
  rw[e] at h1
  rcases h1.2 with ⟨e2,_⟩|⟨g',cap,cur,e2,_,hh,_⟩
  ·cases e2
  ·injection e2 with e2
   injection e2 with e2
   subst e2
   exact ⟨(Array.getElem?_eq_some_iff.1 hh).1,rfl⟩
 have HLOAD:Hid (Calls Tryz.prog 19 #[.pointer (some ⟨w.heap.size+1,0,none⟩),.slice A S.xs.length c] W2 fun e w'=>e = .returned (.tuple #[.int .i64 (S.xs.length:Int),.bool true])∧∃ L,L.map Ly.s=ns.foldl pfC (ks.foldl kpC [])∧Bk w' (w.heap.size+1) gd w.heap.size (Value.slice A S.xs.length c).ownBlock 0 L∧Alt W2 w' (fun k=>k=w.heap.size)∧∀ l∈L,W2.heap.size≤l.g∧W2.heap.size≤l.bv):=hid (by
  have h0:=HSZ.out
  have h1:=HLT.out
  refine zuy HBK2.out ks ns HCK.out HCH.out (by rw[HJ.out]) (by rw[← HJ.out];exact Rb.of_own HO2.out) HNIL.out hl2 hxs HCAP.out (fun ad e=>?_) (fun k hk=>(HO2.out.base hk).2) (by omega)
  obtain ⟨h2,h3⟩:=HADR.out ad e
  exact ⟨by omega,h3⟩)
 obtain ⟨⟨g0,g1,g2⟩,gz⟩:=zat HG.out
 obtain ⟨⟨d0,d1,d2,d3,d4,d5⟩,dz⟩:=zcz HD2.out
 have hne:gd≠w.heap.size:=by have:=HLT.out;omega
 have HNE:=hid hne
 go_wp2_with (first
  |(go_at_call 19;refine HLOAD.out.mono ?_;rintro e w3 ⟨rfl,L,hcon,hbk3,ha3,hnew⟩;have HC3:=hid hcon;have HBK3:=hid hbk3;have HA3:=hid ha3;have HNEW:=hid hnew;have HD3:=hid (HD2.out.kept ha3 HNE.out);obtain ⟨⟨y0,y1,y2,y3,y4,y5⟩,yz⟩:=zcz HD3.out;obtain ⟨⟨x0,x1,x2⟩,xz⟩:=zat hbk3.blk;clear hcon hbk3 ha3 hnew))
 go_ret2
 have ha:∀ v,Alt w3 (w3.setCell ⟨w.heap.size+1,1,none⟩ v) (fun k=>k=w.heap.size+1):=fun v=>(Alt.refl w3 (fun k=>k=w.heap.size+1)).set_ (a:=⟨w.heap.size+1,1,none⟩) rfl v
 have ha2:∀ v,Alt w (w3.setCell ⟨w.heap.size+1,1,none⟩ v) (fun _=>False):=fun v=>by
  have h1:Alt w w3 (fun _=>False):=(alt_of_below (p:=fun _=>False) HB2.out).trans HA3.out (fun k hk e=>by omega)
  exact h1.trans (ha v) (fun k hk e=>by omega)
 have hb:∀ v,Below w.heap.size w (w3.setCell ⟨w.heap.size+1,1,none⟩ v):=fun v=>Alt.toBelow (ha2 v) (fun _ _ h=>h.elim) (Nat.le_refl _)
 have h0:=HLT.out
 have h5:=HB.out
 refine ⟨w.heap.size+1,w.heap.size,L,rfl,⟨⟨znp HBK3.out _ hxs,HD.out.kept (ha2 _) (fun h=>h),HO.out.keep (ha2 _) (fun _ _ h=>h),HOK.out,HFU.out,HUP.out,HSF.out,Nat.le_trans h5.2 (hb (.int .i64 (S.xs.length:Int))).size⟩,⟨by omega,h5.1,h5.2⟩,fun l hl=>?_⟩,HC3.out,hb _⟩
 have h6:=HNEW.out l hl
 have h7:=HB2.out.size
 omega
def knotes (s:Sh):List Kt:=⟨4,s.name,s.next,s.live,[]⟩ :: s.vs.map fun p=>⟨5,s.name,p.1,0,p.2⟩
def srtC (C:Con):Con:=C.mergeSort (fun a b=>decide (a.name.data.toList≤b.name.data.toList))
theorem zd9 (C:Con):(srtC C).Perm C:=List.mergeSort_perm _ _
theorem zs1 (C:Con):(srtC C).Pairwise (fun a b=>a.name.data.toList≤b.name.data.toList):=by
 have:=List.pairwise_mergeSort (le:=fun a b:Sh=>decide (a.name.data.toList≤b.name.data.toList)) (fun a b c h1 h2=>by simp only[decide_eq_true_eq] at *;exact List.le_trans h1 h2) (fun a b=>by simp only[Bool.or_eq_true,decide_eq_true_eq];exact List.le_total _ _) C
 exact this.imp (by simp)
def Rise (C:Con):Prop:=∀ s∈C,(s.vs.map (·.1)).Pairwise (· < ·)
theorem zs3 (l:Ly):recP (headP l)=recK ⟨4,l.s.name,l.s.next,l.s.live,[]⟩:=rfl
theorem zf9 {V:List Vr}(h:(V.map (·.v)).Pairwise (· < ·)):(V.map (·.v)).Nodup:=h.imp (fun h=>Nat.ne_of_lt h)
theorem znu:∀ {V:List Vr} {r:Vr},(V.map (·.v)).Nodup→r∈V→V.find? (fun x=>decide (x.v=r.v))=some r
 | [],_,_,h=>by cases h
 |y :: V,r,hn,h=>by
  rw[List.map_cons,List.nodup_cons] at hn
  rw[List.find?_cons]
  rcases List.mem_cons.1 h with e|e
  ·subst e
   simp
  ·have:y.v≠r.v:=fun e'=>hn.1 (List.mem_map.2 ⟨r,e,e'.symm⟩)
   rw[decide_eq_false this]
   exact znu hn.2 e
theorem img_of {l:Ly}(h:(l.V.map (·.v)).Pairwise (· < ·)):imgOf l=kl (knotes l.s):=by
 have hv:vsort l=l.V.map fun r=>(r.v:Int):=(zo5 (.refl _) (by
  rw[List.pairwise_map] at h ⊢
  exact h.imp (fun h=>by omega))).symm
 unfold imgOf notesOf knotes kl
 rw[hv,List.map_cons,List.map_cons,zs3,List.map_map,List.map_map]
 show _=(recK _ :: _).flatten
 congr 2
 show _=((l.V.map fun r=>(r.v,r.ms)).map _).map _
 rw[List.map_map,List.map_map]
 refine List.map_congr_left fun r hr=>?_
 have hf:fndV l r.v=some r:=znu (zf9 h) hr
 show recP (keptP l (r.v:Int))=recK ⟨5,l.name,r.v,0,r.ms⟩
 unfold keptP
 rw[Int.toNat_natCast,hf]
 rfl
theorem zs4 {L:List Ly}(hn:(L.map (·.name)).Nodup)(hr:Rise (L.map Ly.s)):imageL L=kl ((srtC (L.map Ly.s)).flatMap knotes):=by
 have hz:(srtC (L.map Ly.s)).map (fun s=>s.name.data.toList)=nsort L:=zo4 (by
  refine ((zd9 _).map _).trans ?_
  rw[List.map_map]
  exact .refl _) (by
  rw[List.pairwise_map]
  exact zs1 _)
 unfold imageL
 rw[← hz,List.map_map]
 have hsub:∀ s∈srtC (L.map Ly.s),s∈L.map Ly.s:=fun s hs=>(zd9 _).mem_iff.1 hs
 generalize srtC (L.map Ly.s)=C at hsub
 clear hz
 induction C with
 |nil=>rfl
 |cons s C ih =>
  rw[List.map_cons,List.flatten_cons,List.flatMap_cons,zid,ih (fun x hx=>hsub x (List.mem_cons_of_mem _ hx))]
  congr 1
  obtain ⟨l,hl,rfl⟩:=List.mem_map.1 (hsub s List.mem_cons_self)
  have hf:fnd L l.name=some l:=by
   cases hf:fnd L l.name with
   |none =>
    have:=List.find?_eq_none.1 hf l hl
    simp at this
   |some l'=>rw[zoy hn hf hl rfl]
  show imgS L l.name.data.toList=_
  unfold imgS
  have e:(⟨⟨l.name.data.toList⟩⟩:ByteArray)=l.name:=rfl
  rw[e,hf]
  refine img_of ?_
  have:=hr l.s (List.mem_map.2 ⟨l,hl,rfl⟩)
  show (l.V.map (·.v)).Pairwise (· < ·)
  have e2:l.s.vs.map (·.1)=l.V.map (·.v):=by
   show (l.V.map fun r=>(r.v,r.ms)).map (·.1)=_
   rw[List.map_map]
   rfl
  rwa[e2] at this
theorem bl_lt:∀ (x y:List UInt8),Op.bytesLess x y=true→x<y
 |_,[],h=>by simp[Op.bytesLess] at h
 | [],_ :: _,_=>by simp
 |a :: x,b :: y,h=>by
  rw[List.cons_lt_cons_iff]
  simp only[Op.bytesLess,Bool.or_eq_true,Bool.and_eq_true,decide_eq_true_eq,beq_iff_eq] at h
  exact h.imp id (fun h=>⟨h.1,bl_lt x y h.2⟩)
theorem bl_le {x y:List UInt8}(h:x≤y):Op.bytesLess y x=false:=by
 cases hb:Op.bytesLess y x with
 |false=>rfl
 |true=>exact absurd (bl_lt y x hb) h
theorem zo6 {D:Con}{s:Sh}(h:fndC D s.name=none):fndC (D++[s]) s.name=some s:=by
 unfold fndC at h ⊢
 rw[List.find?_append,h]
 simp
theorem zuz {D:Con}{s s':Sh}(h:fndC D s.name=none):updC (D++[s]) s.name s'=D++[s']:=by
 unfold updC
 rw[List.map_append]
 congr 1
 ·have:∀ x∈D,x.name≠s.name:=zd7 h
  refine (List.map_congr_left (g:=id) fun x hx=>?_).trans (List.map_id _)
  rw[if_neg (this x hx)]
  rfl
 ·simp
theorem znv {D:Con}{s:Sh}(h:fndC D s.name=none):∀ (vs vs0:List (Nat×List Int)),(vs.map fun p=>(⟨5,s.name,p.1,0,p.2⟩:Kt)).foldl kpC (D++[{ s with vs:=vs0 }])=D++[{ s with vs:=vs0++vs }]
 | [],vs0=>by simp
 |p :: vs,vs0=>by
  rw[List.map_cons,List.foldl_cons]
  have e:kpC (D++[{ s with vs:=vs0 }]) ⟨5,s.name,p.1,0,p.2⟩=D++[{ s with vs:=vs0++[p] }]:=by
   unfold kpC
   rw[if_neg (by show ¬ ((5:Int)=4);omega)]
   have h1:=zo6 (D:=D) (s:={ s with vs:=vs0 }) h
   have h2:=zuz (D:=D) (s:={ s with vs:=vs0 }) (s':={ s with vs:=vs0++[p] }) h
   show (match fndC (D++[{ s with vs:=vs0 }]) s.name with
    |none=>_
    |some s=>_)=_
   rw[h1]
   exact h2
  rw[e,znv h vs (vs0++[p])]
  simp
theorem zu0 {D:Con}{s:Sh}(h:fndC D s.name=none):(knotes s).foldl kpC D=D++[s]:=by
 unfold knotes
 rw[List.foldl_cons]
 have e:kpC D ⟨4,s.name,s.next,s.live,[]⟩=D++[{ s with vs:=[] }]:=by
  unfold kpC
  rw[if_pos rfl]
 rw[e,znv h s.vs []]
 simp
theorem zs5:∀ (R D:Con),((D++R).map Sh.name).Nodup→(R.flatMap knotes).foldl kpC D=D++R
 | [],D,_=>by simp
 |s :: R,D,hn=>by
  rw[List.flatMap_cons,List.foldl_append]
  have h:fndC D s.name=none:=by
   unfold fndC
   rw[List.find?_eq_none]
   intro x hx
   rw[List.map_append,List.nodup_append] at hn
   have:=hn.2.2 x.name (List.mem_map.2 ⟨x,hx,rfl⟩) s.name (by simp)
   simpa using this
  rw[zu0 h,zs5 R (D++[s]) (by simpa using hn)]
  simp
structure KsOk (s:Sh):Prop where
 n1:s.name.size≤20
 n0:0<s.name.size
 st:strOf (nums s.name)=s.name
 nx:2≤s.next∧s.next≤100000∧s.live<s.next
 is:∀ W:World,Calls Tryz.prog 27 #[.string s.name] W fun e w'=>e = .returned (.bool true)∧Below W.heap.size W w'
 vs:s.vs.length≤1000
 vr:∀ p∈s.vs,1≤p.1∧p.1<s.next∧IsB p.2∧0<p.2.length∧p.2.length≤12000∧ReadOk p.2
 ri:(s.vs.map (·.1)).Pairwise (· < ·)
theorem zvw {D:Con}{s:Sh}(h:fndC D s.name=none)(hk:KsOk s)(tl:List Kt):∀ (vs vs0:List (Nat×List Int)),s.vs=vs0++vs→ChK (D++[s]) s.name tl→ChK (D++[{ s with vs:=vs0 }]) s.name ((vs.map fun p=>(⟨5,s.name,p.1,0,p.2⟩:Kt))++tl)
 | [],vs0,e,ht=>by
  rw[List.append_nil] at e
  have:({ s with vs:=vs0 }:Sh)=s:=by rw[← e]
  rw[this]
  exact ht
 |p :: vs,vs0,e,ht=>by
  have e1:kpC (D++[{ s with vs:=vs0 }]) ⟨5,s.name,p.1,0,p.2⟩=D++[{ s with vs:=vs0++[p] }]:=znv h [p] vs0
  have hp:=hk.vr p (by rw[e];simp)
  have hr:=hk.ri
  rw[e,List.map_append,List.pairwise_append] at hr
  refine ⟨.inr ⟨rfl,rfl,{ s with vs:=vs0 },zo6 (D:=D) (s:={ s with vs:=vs0 }) h,hp.1,hp.2.1,?_,fun q hq=>hr.2.2 q.1 (List.mem_map.2 ⟨q,hq,rfl⟩) p.1 (by simp)⟩,⟨hk.n1,hk.n0,hk.st,by show p.1≤_;have:=hk.nx;omega,Nat.zero_le _,.inr rfl,hk.is,fun _=>⟨hp.2.2.1,hp.2.2.2.1,hp.2.2.2.2.1,hp.2.2.2.2.2⟩,fun _=>rfl⟩,?_⟩
  ·have:=hk.vs
   rw[e,List.length_append] at this
   show vs0.length≤_
   omega
  ·show ChK (kpC (D++[{ s with vs:=vs0 }]) ⟨5,s.name,p.1,0,p.2⟩) s.name _
   rw[e1]
   exact zvw h hk tl vs (vs0++[p]) (by rw[e];simp) ht
theorem zvx:∀ (R D:Con) (last:ByteArray),((D++R).map Sh.name).Nodup→(∀ s∈R,KsOk s)→R.Pairwise (fun a b=>a.name.data.toList≤b.name.data.toList)→(∀ s∈R,last.data.toList≤s.name.data.toList∧last≠s.name)→ChK D last (R.flatMap knotes)
 | [],_,_,_,_,_,_=>trivial
 |s :: R,D,last,hn,hk,hp,hl=>by
  rw[List.flatMap_cons]
  have h:fndC D s.name=none:=by
   unfold fndC
   rw[List.find?_eq_none]
   intro x hx
   rw[List.map_append,List.nodup_append] at hn
   have:=hn.2.2 x.name (List.mem_map.2 ⟨x,hx,rfl⟩) s.name (by simp)
   simpa using this
  have hs:=hk s List.mem_cons_self
  obtain ⟨h1,h2⟩:=hl s List.mem_cons_self
  rw[List.pairwise_cons] at hp
  have e:kpC D ⟨4,s.name,s.next,s.live,[]⟩=D++[{ s with vs:=[] }]:=by
   unfold kpC
   rw[if_pos rfl]
  refine ⟨.inl ⟨rfl,h,by rw[zfn,zfn];exact bl_le h1,?_,hs.nx.1,hs.nx.2.2⟩,⟨hs.n1,hs.n0,hs.st,hs.nx.2.1,by show s.live≤_;have:=hs.nx;omega,.inl rfl,hs.is,fun h=>absurd h (by show ¬ ((4:Int)=5);omega),fun h=>absurd h (by show ¬ ((4:Int)=5);omega)⟩,?_⟩
  ·cases hb:s.name.toList == last.toList with
   |false=>rfl
   |true=>exact absurd (zjk (by simpa using hb)).symm h2
  ·show ChK (kpC D ⟨4,s.name,s.next,s.live,[]⟩) s.name _
   rw[e]
   refine zvw h hs _ s.vs [] (by simp) (zvx R (D++[s]) s.name (by simpa using hn) (fun x hx=>hk x (List.mem_cons_of_mem _ hx)) hp.2 (fun x hx=>⟨hp.1 x hx,fun e=>?_⟩))
   rw[List.map_append,List.nodup_append,List.map_cons,List.nodup_cons] at hn
   exact hn.2.1.1 (List.mem_map.2 ⟨x,hx,e.symm⟩)
theorem zw2 {C:Con}(hn:(C.map Sh.name).Nodup)(hk:∀ s∈C,KsOk s):ChK [] ⟨#[]⟩ ((srtC C).flatMap knotes)∧((srtC C).flatMap knotes).foldl kpC []=srtC C:=by
 have hp:=zd9 C
 have hn':((srtC C).map Sh.name).Nodup:=(hp.map _).nodup_iff.2 hn
 have hk':∀ s∈srtC C,KsOk s:=fun s hs=>hk s (hp.mem_iff.1 hs)
 refine ⟨zvx _ [] _ hn' hk' (zs1 C) (fun s hs=>⟨List.nil_le _,fun e=>?_⟩),(zs5 (srtC C) [] hn').trans (List.nil_append _)⟩
 have:=(hk' s hs).n0
 rw[← e] at this
 exact absurd this (by decide)
theorem zw3 {C:Con}{s:Sh}(hn:(C.map Sh.name).Nodup)(hs:s∈C):fndC C s.name=some s:=by
 cases hf:fndC C s.name with
 |none=>exact absurd rfl (zd7 hf s hs)
 |some s' =>
  obtain ⟨h1,h2⟩:=zby hf
  rw[zc2 hn h1 hs h2]
theorem zfo {C C':Con}(h:C.Perm C')(hn:(C.map Sh.name).Nodup)(name:ByteArray):fndC C name=fndC C' name:=by
 have hn':(C'.map Sh.name).Nodup:=(h.map _).nodup_iff.1 hn
 cases hf:fndC C name with
 |none =>
  cases hf':fndC C' name with
  |none=>rfl
  |some s' =>
   obtain ⟨h1,h2⟩:=zby hf'
   exact absurd h2 (zd7 hf s' (h.mem_iff.2 h1))
 |some s =>
  obtain ⟨h1,h2⟩:=zby hf
  rw[← h2]
  exact (zw3 hn' (h.mem_iff.1 h1)).symm
theorem zmg {C C':Con}(h:C.Perm C')(hn:(C.map Sh.name).Nodup)(name:ByteArray):nextC C name=nextC C' name:=by unfold nextC;rw[zfo h hn]
theorem zu1 {C C':Con}(h:C.Perm C')(hn:(C.map Sh.name).Nodup)(name:ByteArray):numC C name=numC C' name:=by unfold numC;rw[zfo h hn]
theorem zmh {C C':Con}(h:C.Perm C')(hn:(C.map Sh.name).Nodup)(name:ByteArray):fullC C name=fullC C' name:=by unfold fullC;rw[zu1 h hn,(h.filter _).length_eq]
theorem zg4 {C C':Con}(h:C.Perm C')(hn:(C.map Sh.name).Nodup)(kind:Int)(name:ByteArray)(version:Nat):refC C kind name version=refC C' kind name version:=by unfold refC;rw[zfo h hn]
theorem zkq {C C':Con}(h:C.Perm C')(name:ByteArray)(s:Sh):(updC C name s).Perm (updC C' name s):=h.map _
theorem zkr {C C':Con}(h:C.Perm C')(hn:(C.map Sh.name).Nodup)(n:Nt):(pfC C n).Perm (pfC C' n):=by
 unfold pfC
 rw[zfo h hn]
 split
 ·cases fndC C' n.name with
  |none=>exact h.append_right _
  |some s=>exact zkq h _ _
 ·cases fndC C' n.name with
  |none=>exact h
  |some s =>
   show (if n.kind=2 then _ else _:Con).Perm (if n.kind=2 then _ else _)
   split
   ·exact zkq h _ _
   ·exact zkq h _ _
theorem zu2 {C C':Con}(h:C.Perm C')(hn:(C.map Sh.name).Nodup)(n:Nt):mayC C n↔mayC C' n:=by unfold mayC;rw[zmg h hn,zmh h hn,zg4 h hn]
theorem zs6 {C C':Con}(h:C.Perm C')(hw:WF C):WF C':=⟨by rw[← h.length_eq];exact hw.len,fun s hs=>hw.sh s (h.mem_iff.2 hs),by rw[← (h.filter _).length_eq];exact hw.num⟩
theorem zo7 {C:Con}{kind:Int}{name:ByteArray}{version:Nat}(h:refC C kind name version=0):∃ s,fndC C name=some s∧hasV s version=true:=by
 unfold refC at h
 cases hf:fndC C name with
 |none=>rw[hf] at h;cases h
 |some s =>
  rw[hf] at h
  simp only at h
  split at h
  ·cases h
  ·split at h
   ·cases h
   ·next h2=>exact ⟨s,rfl,by cases hh:hasV s version <;> simp_all⟩
theorem ks_pf {k:Nat}{C:Con}(h:Wk k C)(hk:k≤900)(hC:∀ s∈C,KsOk s){n:Nt}(hm:mayC C n)(hn:NtOk n):∀ s∈pfC C n,KsOk s:=by
 have hw:=wk_pf h hm hk
 intro s hs
 have hb:=hw.sh s hs
 unfold pfC at hs
 split at hs
 ·next h1 =>
  obtain ⟨_,hv,_⟩:n.kind=1∧n.version=nextC C n.name∧fullC C n.name=false:=hm.resolve_right (fun e=>by rcases e.1 with e|e <;> omega)
  obtain ⟨d1,d2,d3,d4⟩:=hn.md h1
  cases hf:fndC C n.name with
  |none =>
   rw[hf] at hs
   rcases List.mem_append.1 hs with hs|hs
   ·exact hC s hs
   ·rw[List.mem_singleton] at hs
    subst hs
    have hv1:n.version=1:=by rw[hv];unfold nextC;rw[hf]
    exact ⟨hn.n1,hn.n0,hn.st,⟨by show 2≤n.version+1;omega,by show n.version+1≤_;omega,Nat.lt_succ_self _⟩,hn.is,by simp,fun p hp=>by rw[List.mem_singleton] at hp;subst hp;exact ⟨by show 1≤n.version;omega,Nat.lt_succ_self _,d1,d2,d3,d4⟩,by simp⟩
  |some s0 =>
   rw[hf] at hs
   rcases zc3 hs with e|⟨hs,_⟩
   ·have h0:=hC s0 (zby hf).1
    have hv1:n.version=s0.next:=by rw[hv];unfold nextC;rw[hf]
    subst e
    refine ⟨h0.n1,h0.n0,h0.st,⟨by show 2≤n.version+1;have:=h0.nx;omega,by have:=hb.2.2.1;show n.version+1≤_;have e:(putS s0 n.version n.ms).next=n.version+1:=rfl;omega,?_⟩,h0.is,by have:=hb.1;omega,fun p hp=>?_,?_⟩
    ·show (if s0.vs.length=0 then n.version else s0.live)<n.version+1
     split
     ·omega
     ·have:=h0.nx;omega
    ·rcases List.mem_append.1 hp with hp|hp
     ·obtain ⟨a1,a2,a3⟩:=h0.vr p hp
      exact ⟨a1,by show p.1<n.version+1;omega,a3⟩
     ·rw[List.mem_singleton] at hp
      subst hp
      exact ⟨by show 1≤n.version;have:=h0.nx;omega,Nat.lt_succ_self _,d1,d2,d3,d4⟩
    ·show ((s0.vs++[(n.version,n.ms)]).map (·.1)).Pairwise (· < ·)
     rw[List.map_append,List.pairwise_append]
     refine ⟨h0.ri,by simp,fun a ha b hb=>?_⟩
     obtain ⟨p,hp,rfl⟩:=List.mem_map.1 ha
     have hb':b=n.version:=by simpa using hb
     have:=(h0.vr p hp).2.1
     omega
   ·exact hC s hs
 ·next h1 =>
  obtain ⟨hkd,hr⟩:=hm.resolve_left (fun e=>h1 e.1)
  obtain ⟨s0,hf,hv⟩:=zo7 hr
  rw[hf] at hs
  have h0:=hC s0 (zby hf).1
  simp only at hs
  split at hs
  ·rcases zc3 hs with e|⟨hs,_⟩
   ·subst e
    obtain ⟨p,hp,hpv⟩:=zc4.1 hv
    have:=(h0.vr p hp).2.1
    exact ⟨h0.n1,h0.n0,h0.st,⟨h0.nx.1,h0.nx.2.1,by show n.version<s0.next;omega⟩,h0.is,h0.vs,h0.vr,h0.ri⟩
   ·exact hC s hs
  ·rcases zc3 hs with e|⟨hs,_⟩
   ·subst e
    refine ⟨h0.n1,h0.n0,h0.st,⟨h0.nx.1,h0.nx.2.1,?_⟩,h0.is,Nat.le_trans (List.length_filter_le _ _) h0.vs,fun p hp=>h0.vr p (List.mem_filter.1 hp).1,?_⟩
    ·show (if _ then 0 else s0.live)<s0.next
     have:=h0.nx
     split
     ·omega
     ·omega
    ·exact h0.ri.sublist ((List.filter_sublist).map _)
   ·exact hC s hs
def con2 (ks:List Kt)(ns:List Nt):Con:=ns.foldl pfC (ks.foldl kpC [])
def BT (w:World)(B g gd room k:Nat)(C:Con):Prop:=∃ (ks:List Kt) (ns:List Nt) (bm:Nat) (A:Option Addr) (c:Nat) (S:St) (f:Int) (L:List Ly),Bz w B g gd bm A c S f L∧S.xs=kl ks++jl ns∧S.room=room∧L.map Ly.s=C∧ChK [] ⟨#[]⟩ ks∧Ch (ks.foldl kpC []) ns∧C.Perm (con2 ks ns)∧Wk k C∧(∀ s∈C,KsOk s)∧S.xs.length≤k*20000
theorem BT.below {w w':World}{B g gd room k:Nat}{C:Con}(h:BT w B g gd room k C)(hb:Below w.heap.size w w'):BT w' B g gd room k C:=by
 obtain ⟨ks,ns,bm,A,c,S,f,L,h1,h2⟩:=h
 exact ⟨ks,ns,bm,A,c,S,f,L,h1.below hb,h2⟩
theorem BT.more {w:World}{B g gd room k:Nat}{C:Con}(h:BT w B g gd room k C):BT w B g gd room (k+1) C:=by
 obtain ⟨ks,ns,bm,A,c,S,f,L,h1,h2,h3,h4,h5,h6,h7,h8,h9,h10⟩:=h
 exact ⟨ks,ns,bm,A,c,S,f,L,h1,h2,h3,h4,h5,h6,h7,h8.mono (Nat.le_succ k),h9,Nat.le_trans h10 (Nat.mul_le_mul_right _ (Nat.le_succ k))⟩
theorem BT.wk {w:World}{B g gd room k:Nat}{C:Con}(h:BT w B g gd room k C):Wk k C:=by
 obtain ⟨ks,ns,bm,A,c,S,f,L,h1,h2,h3,h4,h5,h6,h7,h8,h9,h10⟩:=h
 exact h8
theorem zs7 (ks:List Kt)(ns:List Nt)(n:Nt):con2 ks (ns++[n])=pfC (con2 ks ns) n:=by
 show (ns++[n]).foldl pfC _=_
 rw[List.foldl_append];rfl
theorem img_ok {k:Nat}{L:List Ly}(h:Wk k (L.map Ly.s))(hk:k≤100)(hs:∀ s∈L.map Ly.s,KsOk s):ImgOk L:=by
 have hm:∀ l∈L,l.s∈L.map Ly.s:=fun l hl=>List.mem_map.2 ⟨l,hl,rfl⟩
 refine ⟨by have:=h.len;rw[List.length_map] at this;omega,fun l hl=>(hs _ (hm l hl)).n1,fun l hl=>?_,fun l hl=>?_,fun l hl r hr=>?_,fun l hl=>?_⟩
 ·have:=(hs _ (hm l hl)).nx
  have e1:l.s.next=l.next:=rfl
  have e2:l.s.live=l.live:=rfl
  omega
 ·have h7:=(h.sh _ (hm l hl)).2.2.2.2.2.2
  rw[zeq] at h7
  rcases Nat.eq_zero_or_pos l.V.length with e|e
  ·omega
  ·exact (h7 e).2
 ·have h1:=(hs _ (hm l hl)).vr (r.v,r.ms) (List.mem_map.2 ⟨r,hr,rfl⟩)
  have h2:=(hs _ (hm l hl)).nx.2.1
  obtain ⟨a1,a2,a3,a4,a5,a6⟩:=h1
  exact ⟨by have a2':r.v<l.s.next:=a2;omega,a3,a5⟩
 ·have h1:=(hs _ (hm l hl)).ri
  have e2:l.s.vs.map (·.1)=l.V.map (·.v):=by
   show (l.V.map fun r=>(r.v,r.ms)).map (·.1)=_
   rw[List.map_map]
   rfl
  rw[e2] at h1
  exact zf9 h1
theorem zw4 {w:World}{B g gd room k:Nat}{C:Con}(h:BT w B g gd room k C)(hk:k≤50) :
  Calls Tryz.prog 15 #[.pointer (some ⟨g,0,none⟩)] w fun e w'=>e = .returned (.int .i64 0)∧BT w' B g gd room k C∧BK B w w':=by
 obtain ⟨ks,ns,bm,A,c,S,f,L,h1,h2,h3,h4,h5,h6,h7,h8,h9,h10⟩:=h
 have hio:ImgOk L:=img_ok (by rw[h4];exact h8) (by omega) (by rw[h4];exact h9)
 refine (zuv h1 hio (by omega)).mono ?_
 rintro e w' ⟨rfl,A',c',f',hz,hb⟩
 refine ⟨rfl,?_,hb⟩
 by_cases hlt:S.xs.length<(imageL L).length
 ·have e1:packL S L=kl ks++jl ns:=by unfold packL;rw[if_pos hlt];exact h2
  rw[e1] at hz
  exact ⟨ks,ns,bm,A',c',_,f',L,hz,rfl,h3,h4,h5,h6,h7,h8,h9,by show (kl ks++jl ns).length≤_;rw[← h2];exact h10⟩
 ·have e1:packL S L=imageL L:=by unfold packL;rw[if_neg hlt]
  have e2:imageL L=kl ((srtC C).flatMap knotes):=by
   rw[← h4]
   exact zs4 (zhz h1.bw.bk) (fun s hs=>(h9 s (by rw[← h4];exact hs)).ri)
  obtain ⟨c1,c2⟩:=zw2 h8.nd h9
  rw[e1] at hz
  refine ⟨(srtC C).flatMap knotes,[],bm,A',c',_,f',L,hz,by show imageL L=_;rw[e2];simp[jl],h3,h4,c1,?_,?_,h8,h9,?_⟩
  ·rw[c2]
   exact zs6 (zd9 C).symm (h8.wf (by omega))
  ·show C.Perm (((srtC C).flatMap knotes).foldl kpC [])
   rw[c2]
   exact (zd9 C).symm
  ·show (imageL L).length≤_
   omega
theorem zw5 {w:World}{B g gd room k:Nat}{C:Con}(h:BT w B g gd room k C)(name:ByteArray) :
  Calls Tryz.prog 30 #[.pointer (some ⟨g,0,none⟩),.string name] w fun e w'=>e = .returned (.int .i64 (nextC C name:Int))∧Below w.heap.size w w':=by
 obtain ⟨ks,ns,bm,A,c,S,f,L,h1,h2,h3,h4,_⟩:=h
 rw[← h4,zfm]
 exact zfl h1.bw.bk name
def stepK (C:Con)(n:Nt):Con:=if refC C n.kind n.name n.version=0 then pfC C n else C
theorem zvy {w':World}{B g gd bm room k:Nat}{A':Option Addr}{c':Nat}{S:St}{f':Int}{L':List Ly}{C:Con}{ks:List Kt}{ns:List Nt}{n:Nt}(hz:Bz w' B g gd bm A' c' (addS S (recN n)) f' L')(hc:L'.map Ly.s=pfC C n)(h2:S.xs=kl ks++jl ns)(h3:S.room=room)(h5:ChK [] ⟨#[]⟩ ks)(h6:Ch (ks.foldl kpC []) ns)(h7:C.Perm (con2 ks ns))(h8:Wk k C)(h9:∀ s∈C,KsOk s)(h10:S.xs.length≤k*20000)(hk:k≤100)(hmay:mayC C n)(hn:NtOk n):BT w' B g gd room (k+1) (pfC C n):=by
 have hwk:=wk_pf h8 hmay (by omega)
 have hp:(pfC C n).Perm (con2 ks (ns++[n])):=by rw[zs7];exact zkr h7 h8.nd n
 have hl:=(zkp hn).1
 refine ⟨ks,ns++[n],bm,A',c',_,f',L',hz,?_,h3,hc,h5,zwy ns _ n h6 ((zu2 h7 h8.nd n).1 hmay) hn (zs6 (zkr h7 h8.nd n) (hwk.wf (by omega))),hp,hwk,ks_pf h8 (by omega) h9 hmay hn,?_⟩
 ·show S.xs++recN n=_
  rw[h2,zh4,zno];simp[jl]
 ·show (S.xs++recN n).length≤_
  rw[List.length_append];omega
def DT (w:World)(B gd room k:Nat)(C:Con):Prop:=∃ (ks:List Kt) (ns:List Nt) (A:Option Addr) (c:Nat) (S:St) (f:Int),Blk w gd 93 (pc (.slice A S.xs.length c) S f)∧Own w B (.slice A S.xs.length c) S.xs∧Ok S∧S.fuse=none∧S.dead=false∧S.safe=S.xs.length∧(B≤gd∧B≤w.heap.size)∧S.xs=kl ks++jl ns∧S.room=room∧ChK [] ⟨#[]⟩ ks∧Ch (ks.foldl kpC []) ns∧C.Perm (con2 ks ns)∧Wk k C∧(∀ s∈C,KsOk s)∧S.xs.length≤k*20000
theorem DT.below {w w':World}{B gd room k:Nat}{C:Con}(h:DT w B gd room k C)(hb:Below w.heap.size w w'):DT w' B gd room k C:=by
 obtain ⟨ks,ns,A,c,S,f,h1,h2,h3,h4,h5,h6,h7,h8⟩:=h
 exact ⟨ks,ns,A,c,S,f,zac h1 hb,zar h2 hb,h3,h4,h5,h6,⟨h7.1,Nat.le_trans h7.2 hb.size⟩,h8⟩
theorem BT.dt {w:World}{B g gd room k:Nat}{C:Con}(h:BT w B g gd room k C):DT w B gd room k C:=by
 obtain ⟨ks,ns,bm,A,c,S,f,L,h1,h2,h3,h4,h5,h6,h7,h8,h9,h10⟩:=h
 exact ⟨ks,ns,A,c,S,f,h1.bw.dk,h1.bw.own,h1.bw.ok,h1.bw.fu,h1.bw.up,h1.bw.sf,⟨h1.hg.2.1,h1.bw.b0l⟩,h2,h3,h5,h6,h7,h8,h9,h10⟩
theorem zw6 {k:Nat}{C C':Con}(h:C.Perm C')(hw:Wk k C):Wk k C':=⟨by rw[← h.length_eq];exact hw.len,(h.map _).nodup_iff.1 hw.nd,fun s hs=>hw.sh s (h.mem_iff.2 hs),by rw[← (h.filter _).length_eq];exact hw.num⟩
theorem zs8 {w:World}{B gd room k:Nat}{C:Con}(h:DT w B gd room k C) :
  Calls Tryz.prog 7 #[.pointer (some ⟨gd,0,none⟩)] w fun e w'=>∃ g C',e = .returned (.tuple #[.pointer (some ⟨g,0,none⟩),.int .i64 0])∧C.Perm C'∧BT w' B g gd room k C'∧Below w.heap.size w w':=by
 obtain ⟨ks,ns,A,c,S,f,d1,d2,d3,d4,d5,d6,d7,d8,d9,d10,d11,d12,d13,d14,d15⟩:=h
 refine (zs0 d1 d2 d3 d4 d5 d6 d7 ks ns d8 d10 d11).mono ?_
 rintro e w' ⟨g,bm,L,rfl,hz,hc,hb⟩
 exact ⟨g,con2 ks ns,rfl,d12,⟨ks,ns,bm,A,c,S,f,L,hz,d8,d9,hc,d10,d11,.refl _,zw6 d12 d13,fun s hs=>d14 s (d12.mem_iff.2 hs),d15⟩,hb⟩
theorem zvz (w:World)(n:Nat)(hn:n≤4194304) :
  Calls Tryz.prog 5 #[.int .i64 (n:Int)] w fun e w'=>e = .returned (.pointer (some ⟨w.heap.size,0,none⟩))∧DT w' w.heap.size w.heap.size n 0 []∧Below w.heap.size w w':=by
 refine (zuf n w (by omega) (by omega)).mono ?_
 rintro e w' ⟨rfl,rfl⟩
 refine ⟨rfl,⟨[],[],none,0,⟨[],n,0,none,false⟩,0,Blk.new w _ _,World.ownsRow_nil _ _ _ _,⟨Nat.zero_le _,hn,Nat.le_refl _,fun k h=>by cases h⟩,rfl,rfl,rfl,⟨Nat.le_refl _,by simp⟩,rfl,rfl,trivial,Wk.nil.wf (by omega),.refl _,Wk.nil,(fun _ h=>by cases h),Nat.zero_le _⟩,Below.new1 w _⟩
def placeL:List Int→Int→Nat→Int
 | [],_,_ => -1
 |z :: zs,n,i=>if z=n then (i:Int) else placeL zs n (i+1)
theorem znw {zs:List Int}{n:Int}{i k:Nat}(h:i<zs.length)(hne:zs[i]≠n):placeL (zs.drop i) n k=placeL (zs.drop (i+1)) n (k+1):=by
 rw[List.drop_eq_getElem_cons h,placeL,if_neg hne]
theorem znx {zs:List Int}{n:Int}{i k:Nat}(h:i<zs.length)(he:zs[i]=n):placeL (zs.drop i) n k=(k:Int):=by
 rw[List.drop_eq_getElem_cons h,placeL,if_pos he]
theorem zs9 {w:World}{B L c:Nat}{A:Option Addr}{zs:List Int}(h:IntRow w B (.slice A L c) zs)(hl:zs.length≤100000)(n:Int) :
  Calls Tryz.prog 111 #[.slice A L c,.int .i64 n] w fun e w'=>e = .returned (.int .i64 (placeL zs n 0))∧w'=w:=by
 have hL:L=zs.length:=by
  rcases h.2 with ⟨e,h0⟩|⟨g,cap,cur,e,_⟩
  ·injection e with _ e2 _
   omega
  ·injection e with _ e2 _
 subst hL
 have hcell:∀ j (hj:j<zs.length),∃ g,A=some ⟨g,0,none⟩∧w.cell? ⟨g,j,none⟩=some (.int .i64 zs[j]):=fun j hj=>by
  obtain ⟨g,c',e,_,_,hc⟩:=h.cell (by omega)
  injection e with e1
  exact ⟨g,e1,hc w (fun _=>False) (Alt.refl _ _) (fun h=>h) j hj⟩
 have HC:=hid hcell
 clear h hcell
 go_enter Tryz.func111,Tryz.ntmps111
 go_wp2
 go_loopw [5] (fun v wr=>∃ i:Nat,v = .int .i64 (i:Int)∧i≤zs.length∧wr=w∧Hid (placeL zs n 0=placeL (zs.drop i) n i)) (fun v _=>zs.length - (intOf v).toNat)
 case atStart=>exact ⟨0,rfl,Nat.zero_le _,rfl,hid rfl⟩
 case round =>
  obtain ⟨i,rfl,hi,rfl,hp⟩:=hrel
  rcases (show i=zs.length∨i<zs.length by omega) with e|hlt
  ·have HE:=hid e
   have hge:¬ ((i:Int)<(zs.length:Int)):=by omega
   clear e
   go_wp2
   go_ret
   refine ⟨?_,rfl⟩
   rw[hp.out,HE.out,List.drop_length]
   rfl
  ·have hlt':(i:Int)<(zs.length:Int):=by omega
   obtain ⟨g,rfl,hc⟩:=HC.out i hlt
   obtain ⟨z,hz⟩:∃ z,z=zs[i]:=⟨_,rfl⟩
   rw[← hz] at hc
   have HZ:=hid hz
   clear hz
   by_cases he:z=n
   ·have heq:(z == n)=true:=by simpa using he
    have HE:=hid he
    have HLT:=hid hlt
    clear he
    go_wp2
    go_ret
    refine ⟨?_,rfl⟩
    rw[hp.out,znx HLT.out (HZ.out.symm.trans HE.out)]
    rfl
   ·have heq:(z == n)=false:=by simpa using he
    have HE:=hid he
    have HLT:=hid hlt
    clear he
    go_wp2
    go_roundw
    case rel=>refine ⟨i+1,by simp,by have:=HLT.out;omega,by trivial,hid (by rw[hp.out,znw HLT.out (fun h=>HE.out (HZ.out.trans h))])⟩
    case measure=>simp[intOf];have:=HLT.out;omega
structure On where
 name:ByteArray
 next:Nat
 live:Nat
 vA:Option Addr
 vn:Nat
 vc:Nat
 mA:Option Addr
 mc:Nat
abbrev On.vv (o:On):Value := .slice o.vA o.vn o.vc
abbrev On.mv (o:On):Value := .slice o.mA o.vn o.mc
def cellsO (o:On):List Value:=[.string o.name,.int .i64 (o.next:Int),.int .i64 (o.live:Int),o.vv,o.mv]
def OnRow (w:World)(B:Nat)(v:Value)(os:List On):Prop:=w.ownsRow B 102 5 v os.length (os.map cellsO).flatten
def atL:List On→ByteArray→Nat→Int
 | [],_,_ => -1
 |o :: os,n,i=>if (o.name.toList == n.toList)=true then (i:Int) else atL os n (i+1)
theorem zu3 {os:List On}{n:ByteArray}{i k:Nat}(h:i<os.length)(hne:(os[i].name.toList == n.toList)=false):atL (os.drop i) n k=atL (os.drop (i+1)) n (k+1):=by
 rw[List.drop_eq_getElem_cons h,atL,if_neg (by rw[hne];decide)]
theorem zu4 {os:List On}{n:ByteArray}{i k:Nat}(h:i<os.length)(he:(os[i].name.toList == n.toList)=true):atL (os.drop i) n k=(k:Int):=by
 rw[List.drop_eq_getElem_cons h,atL,if_pos he]
theorem flatO:∀ (os:List On) (i t:Nat) (u:Value),(∃ hi:i<os.length,(cellsO os[i])[t]? = some u)→t<5→((os.map cellsO).flatten)[i*5+t]? = some u
 | [],i,t,u,⟨hi,_⟩,_=>by cases hi
 |p :: ps,0,t,u,⟨_,h⟩,ht=>by
  rw[List.map_cons,List.flatten_cons,Nat.zero_mul,Nat.zero_add,List.getElem?_append_left (by show t<5;exact ht)]
  exact h
 |p :: ps,i+1,t,u,⟨hi,h⟩,ht=>by
  have e:(i+1)*5+t - (cellsO p).length=i*5+t:=by show (i+1)*5+t - 5=_;omega
  rw[List.map_cons,List.flatten_cons,List.getElem?_append_right (by show 5≤_;omega),e]
  exact flatO ps i t u ⟨by simpa using hi,h⟩ ht
theorem OnRow.cell {w:World}{B n c:Nat}{A:Option Addr}{os:List On}(h:OnRow w B (.slice A n c) os){i:Nat}(hi:i<os.length):∃ g,A=some ⟨g,0,none⟩∧B≤g∧g<w.heap.size∧∀ (w':World) (q:Nat→Prop),Alt w w' q→¬ q g→∀ t u,t<5→(cellsO os[i])[t]? = some u→w'.cell? ⟨g,i*5+t,none⟩=some u:=by
 rcases h.2 with ⟨e,h0⟩|⟨g',cap,cur,e,h1,h2,h3,h4,h5,h6⟩
 ·omega
 ·injection e with e1 e2 e3
  refine ⟨g',e1,h1,lt_of_block h2,fun w' q ha hq t u ht hu=>?_⟩
  refine (cell_of_row _ _ (i*5+t) cur 102 _ ((ha.block g' (lt_of_block h2) hq).trans h2)).trans ?_
  have h7:=flatO os i t u ⟨hi,hu⟩ ht
  rw[← h6,List.getElem?_take_of_lt (by omega)] at h7
  simpa using h7
theorem zjn {w:World}{B n c:Nat}{A:Option Addr}{os:List On}(h:OnRow w B (.slice A n c) os)(hl:os.length≤100000)(name:ByteArray) :
  Calls Tryz.prog 37 #[.agg #[.slice A n c],.string name] w fun e w'=>e = .returned (.int .i64 (atL os name 0))∧Below w.heap.size w w':=by
 have H:=hid h
 clear h
 go_enter Tryz.func37,Tryz.ntmps37
 have HB:Hid (Below w.heap.size w (w.alloc (.cells #[.slice A n c] 34))):=hid (Below.new1 w _)
 have HN:Hid (Blk (w.alloc (.cells #[.slice A n c] 34)) w.heap.size 34 #[.slice A n c]):=hid (Blk.new w _ _)
 have hn:n=os.length:=by
  rcases H.out.2 with ⟨e,h0⟩|⟨g,cap,cur,e,_⟩
  ·injection e with _ e2 _
   omega
  ·injection e with _ e2 _
 subst hn
 go_wp2
 generalize w.alloc (.cells #[.slice A os.length c] 34)=W1 at HB HN ⊢
 go_loopw [5] (fun v wr=>∃ i:Nat,v = .int .i64 (i:Int)∧i≤os.length∧wr=W1∧Hid (atL os name 0=atL (os.drop i) name i)) (fun v _=>os.length - (intOf v).toNat)
 case atStart=>exact ⟨0,rfl,Nat.zero_le _,rfl,hid rfl⟩
 case round =>
  obtain ⟨i,rfl,hi,rfl,hp⟩:=hrel
  have c0:=HN.out.cell 0
  rw[show (#[Value.slice A os.length c]:Array Value)[0]? = some (.slice A os.length c) from rfl] at c0
  rcases (show i=os.length∨i<os.length by omega) with e|hlt
  ·have HE:=hid e
   have hge:¬ ((i:Int)<(os.length:Int)):=by omega
   clear e
   go_wp2
   go_ret
   refine ⟨?_,HB.out⟩
   rw[hp.out,HE.out,List.drop_length]
   rfl
  ·have hlt':(i:Int)<(os.length:Int):=by omega
   obtain ⟨g,rfl,_,hg,hc⟩:=H.out.cell hlt
   have hc0:=hc wr (fun _=>False) (alt_of_below HB.out) (fun h=>h) 0 (.string os[i].name) (by omega) rfl
   rw[Nat.add_zero] at hc0
   obtain ⟨z,hz⟩:∃ z,z=os[i].name:=⟨_,rfl⟩
   rw[← hz] at hc0
   have HZ:=hid hz
   have HLT:=hid hlt
   clear hz hc
   cases he:z.toList == name.toList with
   |true =>
    have HE:=hid he
    go_wp2
    go_ret
    refine ⟨?_,HB.out⟩
    rw[hp.out,zu4 HLT.out (by rw[← HZ.out];exact HE.out)]
    rfl
   |false =>
    have HE:=hid he
    go_wp2
    go_roundw
    case rel=>refine ⟨i+1,by simp,by have:=HLT.out;omega,by trivial,hid (by rw[hp.out,zu3 HLT.out (by rw[← HZ.out];exact HE.out)])⟩
    case measure=>simp[intOf];have:=HLT.out;omega
def oth1 (name:ByteArray)(o:On):Bool:=(!(o.name.toList == name.toList)) && decide (0<o.vn)
def othL (os:List On)(name:ByteArray):Nat:=(os.filter (oth1 name)).length
theorem zjo {w:World}{B n c:Nat}{A:Option Addr}{os:List On}(h:OnRow w B (.slice A n c) os)(hl:os.length≤100000)(name:ByteArray) :
  Calls Tryz.prog 52 #[.agg #[.slice A n c],.string name] w fun e w'=>e = .returned (.int .i64 (othL os name:Int))∧Below w.heap.size w w':=by
 have H:=hid h
 clear h
 go_enter Tryz.func52,Tryz.ntmps52
 have HB:Hid (Below w.heap.size w (w.alloc (.cells #[.slice A n c] 34))):=hid (Below.new1 w _)
 have HN:Hid (Blk (w.alloc (.cells #[.slice A n c] 34)) w.heap.size 34 #[.slice A n c]):=hid (Blk.new w _ _)
 have hn:n=os.length:=by
  rcases H.out.2 with ⟨e,h0⟩|⟨g,cap,cur,e,_⟩
  ·injection e with _ e2 _
   omega
  ·injection e with _ e2 _
 subst hn
 go_wp2
 generalize w.alloc (.cells #[.slice A os.length c] 34)=W1 at HB HN ⊢
 go_loopw [5,6] (fun u v wr=>∃ (q i:Nat),u = .int .i64 (q:Int)∧v = .int .i64 (i:Int)∧i≤os.length∧q≤i∧Hid (Below w.heap.size w wr)∧Hid (Blk wr w.heap.size 34 #[.slice A os.length c])∧Hid (othL os name=q+othL (os.drop i) name)) (fun _ v _=>os.length - (intOf v).toNat)
 case atStart=>exact ⟨0,0,rfl,rfl,Nat.zero_le _,Nat.le_refl _,HB,HN,hid (Nat.zero_add _).symm⟩
 case round =>
  obtain ⟨q,i,rfl,rfl,hi,hqi,hb,hN,hp⟩:=hrel
  have c0:=hN.out.cell 0
  rw[show (#[Value.slice A os.length c]:Array Value)[0]? = some (.slice A os.length c) from rfl] at c0
  rcases (show i=os.length∨i<os.length by omega) with e|hlt
  ·have HE:=hid e
   have hge:¬ ((i:Int)<(os.length:Int)):=by omega
   clear e
   go_wp2
   go_ret
   refine ⟨?_,hb.out⟩
   have h0:othL os name=q:=by rw[hp.out,HE.out,List.drop_length];rfl
   rw[h0]
   rfl
  ·have hlt':(i:Int)<(os.length:Int):=by omega
   obtain ⟨g,rfl,_,hg,hc⟩:=H.out.cell hlt
   have hc0:=hc wr (fun _=>False) (alt_of_below hb.out) (fun h=>h) 0 (.string os[i].name) (by omega) rfl
   have hc3:=hc wr (fun _=>False) (alt_of_below hb.out) (fun h=>h) 3 os[i].vv (by omega) rfl
   rw[Nat.add_zero] at hc0
   have HP:Hid (othL os name=q+((if oth1 name os[i]=true then 1 else 0)+othL (os.drop (i+1)) name)):=hid (by
    rw[hp.out,List.drop_eq_getElem_cons hlt]
    unfold othL
    rw[List.filter_cons]
    split
    ·rw[List.length_cons];omega
    ·omega)
   generalize os[i]=o at hc0 hc3 HP
   have hc3:wr.cell? ⟨g,i*5+3,none⟩=some (.slice o.vA o.vn o.vc):=hc3
   have HLT:=hid hlt
   have hq:q≤100000:=by omega
   clear hc hp
   cases he:o.name.toList == name.toList with
   |true =>
    have H1:Hid (oth1 name o=false):=hid (by unfold oth1;rw[he];rfl)
    go_wp2
    go_roundw
    case rel=>refine ⟨q,i+1,rfl,by simp,by have:=HLT.out;omega,by omega,hb,hN,hid (by rw[HP.out,H1.out];simp)⟩
    case measure=>simp[intOf];have:=HLT.out;omega
   |false =>
    rcases (show o.vn=0∨0<o.vn by omega) with hv|hv
    ·have H1:Hid (oth1 name o=false):=hid (by unfold oth1;rw[he,hv];rfl)
     rw[hv] at hc3
     go_wp2
     go_roundw
     case rel=>refine ⟨q,i+1,rfl,by simp,by have:=HLT.out;omega,by omega,hb,hN,hid (by rw[HP.out,H1.out];simp)⟩
     case measure=>simp[intOf];have:=HLT.out;omega
    ·have H1:Hid (oth1 name o=true):=hid (by unfold oth1;rw[he,decide_eq_true hv];rfl)
     have hv':(0:Int)<(o.vn:Int):=by omega
     go_wp2
     go_roundw
     case rel=>refine ⟨q+1,i+1,by simp,by simp,by have:=HLT.out;omega,by omega,hb,hN,hid (by rw[HP.out,H1.out];simp;omega)⟩
     case measure=>simp[intOf];have:=HLT.out;omega
def fndO (os:List On)(name:ByteArray):Option On:=os.find? (fun o=>o.name.toList == name.toList)
theorem zg5 {name:ByteArray}:∀ {os:List On} {i:Nat},fndO os name=none→atL os name i = -1
 | [],_,_=>rfl
 |o :: os,i,h=>by
  unfold fndO at h
  rw[List.find?_cons] at h
  cases he:o.name.toList == name.toList with
  |true=>rw[he] at h;cases h
  |false =>
   rw[he] at h
   rw[atL,if_neg (by rw[he];decide)]
   exact zg5 h
theorem zks {name:ByteArray}:∀ {os:List On} {i:Nat} {o:On},fndO os name=some o→∃ j,∃ hj:j<os.length,atL os name i=((i+j:Nat):Int)∧os[j]=o
 | [],_,_,h=>by cases h
 |x :: os,i,o,h=>by
  unfold fndO at h
  rw[List.find?_cons] at h
  cases he:x.name.toList == name.toList with
  |true =>
   rw[he] at h
   injection h with h
   exact ⟨0,by simp,by rw[atL,if_pos he];rfl,h⟩
  |false =>
   rw[he] at h
   obtain ⟨j,hj,h1,h2⟩:=zks (i:=i+1) h
   exact ⟨j+1,by simpa using hj,by rw[atL,if_neg (by rw[he];decide),h1];congr 1;omega,by simpa using h2⟩
theorem zta {w:World}{B n c:Nat}{A:Option Addr}{os:List On}(h:OnRow w B (.slice A n c) os)(hl:os.length≤100000)(name:ByteArray)(v:Int)(hf:fndO os name=none) :
  Calls Tryz.prog 50 #[.agg #[.slice A n c],.string name,.int .i64 v] w fun e w'=>e = .returned (.tuple #[.int .i64 0,.int .i64 0,.int .i64 11])∧Below w.heap.size w w':=by
 have H:=hid h
 have HF:=hid (zg5 (i:=0) hf)
 have HL:=hid hl
 clear h hf
 go_enter Tryz.func50,Tryz.ntmps50
 go_wp2_with (first
  |(go_at_call 37;refine (zjn (show OnRow (w.alloc _) B (.slice A n c) os from H.out.alloc _) HL.out name).mono ?_;rintro e w2 ⟨rfl,hb⟩;rw[HF.out]))
 go_ret3
 exact ⟨rfl,(Below.new1 w _).trans (hb.mono (by simp))⟩
theorem zql {w:World}{B n c:Nat}{A:Option Addr}{os:List On}(h:OnRow w B (.slice A n c) os)(hl:os.length≤100000)(name:ByteArray)(v:Int){o:On}(hf:fndO os name=some o)(h0:o.vn=0) :
  Calls Tryz.prog 50 #[.agg #[.slice A n c],.string name,.int .i64 v] w fun e w'=>e = .returned (.tuple #[.int .i64 0,.int .i64 0,.int .i64 11])∧Below w.heap.size w w':=by
 obtain ⟨j,hj,hat,ho⟩:=zks (i:=0) hf
 rw[Nat.zero_add] at hat
 obtain ⟨g,rfl,_,hg,hc⟩:=h.cell hj
 have hn:n=os.length:=by
  rcases h.2 with ⟨e,h0⟩|⟨g,cap,cur,e,_⟩
  ·injection e with _ e2 _
   omega
  ·injection e with _ e2 _
 subst hn
 have H:=hid h
 have HF:=hid hat
 have HL:=hid hl
 have HC:Hid (∀ w',Below w.heap.size w w'→w'.cell? ⟨g,j*5+3,none⟩=some (.slice o.vA 0 o.vc)):=hid fun w' hb=>by
  have:=hc w' (fun _=>False) (alt_of_below hb) (fun h=>h) 3 os[j].vv (by omega) rfl
  rw[ho] at this
  rw[this, ← h0]
 have hj':(j:Int)<(os.length:Int):=by omega
 have hjn:¬ ((j:Int)<0):=by omega
 clear h hf hc ho
 go_enter Tryz.func50,Tryz.ntmps50
 go_wp2_with (first
  |(go_at_call 37;refine (zjn (show OnRow (w.alloc _) B _ os from H.out.alloc _) HL.out name).mono ?_;rintro e w2 ⟨rfl,hb⟩;rw[HF.out];have hbw:=(Below.new1 w _).trans (hb.mono (by simp));have c3:=HC.out w2 hbw;have c0:=(zac (Blk.new w 34 #[.slice (some ⟨g,0,none⟩) os.length c]) hb).cell 0;rw[show (#[Value.slice (some ⟨g,0,none⟩) os.length c]:Array Value)[0]? = some (.slice (some ⟨g,0,none⟩) os.length c) from rfl] at c0))
 go_ret3
 exact ⟨rfl,hbw⟩
theorem IntRow.below {w w':World}{B:Nat}{v:Value}{zs:List Int}(h:IntRow w B v zs)(hb:Below w.heap.size w w'):IntRow w' B v zs:=by
 refine ⟨h.1,?_⟩
 rcases h.2 with h2|⟨g,cap,cur,e,h1,h2,h3⟩
 ·exact .inl h2
 ·exact .inr ⟨g,cap,cur,e,h1,(hb.block g (lt_of_block h2)).trans h2,h3⟩
theorem ztb {w:World}{B n c:Nat}{A:Option Addr}{os:List On}(h:OnRow w B (.slice A n c) os)(hl:os.length≤100000)(name:ByteArray)(v:Int){o:On}(hf:fndO os name=some o){Bv:Nat}{zs:List Int}(hz:IntRow w Bv o.vv zs)(h0:0<o.vn)(hzl:zs.length≤100000) :
  Calls Tryz.prog 50 #[.agg #[.slice A n c],.string name,.int .i64 v] w fun e w'=>(∃ j:Nat,∃ hj:j<os.length,os[j]=o∧atL os name 0=(j:Int)∧e = .returned (if placeL zs v 0<0 then .tuple #[.int .i64 0,.int .i64 0,.int .i64 16] else .tuple #[.int .i64 (j:Int),.int .i64 (placeL zs v 0),.int .i64 0]))∧Below w.heap.size w w':=by
 obtain ⟨j,hj,hat,ho⟩:=zks (i:=0) hf
 rw[Nat.zero_add] at hat
 obtain ⟨g,rfl,_,hg,hc⟩:=h.cell hj
 have hn:n=os.length:=by
  rcases h.2 with ⟨e,h0⟩|⟨g,cap,cur,e,_⟩
  ·injection e with _ e2 _
   omega
  ·injection e with _ e2 _
 subst hn
 have H:=hid h
 have HZ:=hid hz
 have HZL:=hid hzl
 have HO:=hid ho
 have hv0:((o.vn:Int) == 0)=false:=by simp;omega
 have HF:=hid hat
 have HL:=hid hl
 have HC:Hid (∀ w',Below w.heap.size w w'→w'.cell? ⟨g,j*5+3,none⟩=some (Value.slice o.vA o.vn o.vc)):=hid fun w' hb=>by
  have:=hc w' (fun _=>False) (alt_of_below hb) (fun h=>h) 3 os[j].vv (by omega) rfl
  rw[ho] at this
  exact this
 have hj':(j:Int)<(os.length:Int):=by omega
 have hjn:¬ ((j:Int)<0):=by omega
 obtain ⟨P,hP⟩:∃ P,P=placeL zs v 0:=⟨_,rfl⟩
 have HP:=hid hP
 clear h hf hc ho hz hzl
 go_enter Tryz.func50,Tryz.ntmps50
 go_wp2_with (first
  |(go_at_call 37;refine (zjn (show OnRow (w.alloc _) B _ os from H.out.alloc _) HL.out name).mono ?_;rintro e w2 ⟨rfl,hb⟩;rw[HF.out];have hbw:=(Below.new1 w _).trans (hb.mono (by simp));have c3:=HC.out w2 hbw;have c0:=(zac (Blk.new w 34 #[.slice (some ⟨g,0,none⟩) os.length c]) hb).cell 0;rw[show (#[Value.slice (some ⟨g,0,none⟩) os.length c]:Array Value)[0]? = some (.slice (some ⟨g,0,none⟩) os.length c) from rfl] at c0)
  |(go_at_call 111;refine (zs9 (show IntRow w2 Bv (.slice o.vA o.vn o.vc) zs from HZ.out.below hbw) HZL.out v).mono ?_;rintro e w3 ⟨rfl,rfl⟩;rw[← HP.out]))
 all_goals
  go_ret3
  refine ⟨⟨j,⟨hj,HO.out⟩,rfl,?_⟩,hbw⟩
  first|rfl|(simp_all)
def isRow (w:World)(t:TypeId)(v:Value):Prop:=∀ g,v.ownBlock=some g→∃ cur,w.heap[g]? = some (.cells cur t (0,0))
theorem On.set_live (o:On)(v:Nat):cellsO { o with live:=v }=(cellsO o).set 2 (.int .i64 (v:Int)):=rfl
theorem zo8:∀ (os:List On) (j t:Nat) (u:Value) (o:On),(hj:j<os.length)→t<5→cellsO o=(cellsO os[j]).set t u→((os.set j o).map cellsO).flatten=((os.map cellsO).flatten).set (j*5+t) u
 | [],j,_,_,_,hj,_,_=>by cases hj
 |x :: os,0,t,u,o,_,ht,he=>by
  simp only[kD,List.map_cons,List.flatten_cons,Nat.zero_mul,Nat.zero_add]
  rw[List.set_append_left _ _ (by show t<5;exact ht),he]
  rfl
 |x :: os,j+1,t,u,o,hj,ht,he=>by
  simp only[kE,List.map_cons,List.flatten_cons]
  have e:(j+1)*5+t - (cellsO x).length=j*5+t:=by show (j+1)*5+t - 5=_;omega
  rw[List.set_append_right _ _ (by show 5≤_;omega),e,zo8 os j t u o (by simpa using hj) ht he]
theorem OnRow.set {w:World}{B g n c:Nat}{os:List On}(h:OnRow w B (.slice (some ⟨g,0,none⟩) n c) os){j t:Nat}(hj:j<os.length)(ht:t<5){u:Value}{o:On}(he:cellsO o=(cellsO os[j]).set t u) :
  OnRow (w.setCell ⟨g,j*5+t,none⟩ u) B (.slice (some ⟨g,0,none⟩) n c) (os.set j o):=by
 have hlen:(os.set j o).length=os.length:=List.length_set
 unfold OnRow
 rw[hlen,zo8 os j t u o hj ht he]
 refine ⟨by rw[List.length_set];exact h.1,?_⟩
 rcases h.2 with ⟨e,_⟩|⟨g',cap,cur,e,h1,h2,h3,h4,h5,h6⟩
 ·cases e
 ·injection e with e1 e2 e3
  injection e1 with e1
  injection e1 with e1
  subst e1
  refine .inr ⟨g,cap,cur.setIfInBounds (j*5+t) u,by rw[e2,e3],h1,heap_setCell_same w g _ cur _ u h2,h3,h4,by simpa using h5,?_⟩
  rw[Array.toList_setIfInBounds,List.take_set,h6]
end Go.Proofs.YtmejdkniafjncaaGreatDoor.Oc
