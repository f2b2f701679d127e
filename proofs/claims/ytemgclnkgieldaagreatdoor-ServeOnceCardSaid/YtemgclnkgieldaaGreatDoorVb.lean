/- readCount: what appendCount has laid is read again. -/
import Derived.Test.YtemgclnkgieldaaGreatDoorVa
import Derived.Deep.WholeRow
set_option maxHeartbeats 4000000
set_option maxRecDepth 100000
namespace Go.Proofs.YtemgclnkgieldaaGreatDoor.Oc
open Go Go.RowKit Dk
theorem zs4 (m:Nat)(h:m<256):bits .and .u8 ((m:Nat):Int) 127=((m % 128:Nat):Int):=by
 have h':∀ r<256,bits .and .u8 ((r:Nat):Int) 127=((r % 128:Nat):Int):=by decide +kernel
 exact h' m h
theorem zxb (a b:Nat)(ha:a<128)(hb:b<128):bits .or .i64 ((a*128:Nat):Int) (b:Int)=((a*128+b:Nat):Int):=by
 have h1:(a*128 ||| b)=a*128+b:=by
  have:=Nat.shiftLeft_add_eq_or_of_lt (i:=7) (b:=b) (by omega) a
  rw[Nat.shiftLeft_eq] at this
  exact this.symm
 have e1:BitVec.ofInt IntKind.i64.bits ((a*128:Nat):Int)=BitVec.ofNat 64 (a*128):=rfl
 have e2:BitVec.ofInt IntKind.i64.bits (b:Int)=BitVec.ofNat 64 b:=rfl
 show IntKind.i64.wrap (((BitVec.ofNat 64 (a*128) ||| BitVec.ofNat 64 b:BitVec 64).toNat:Nat):Int)=_
 rw[BitVec.toNat_or]
 rw[BitVec.toNat_ofNat,BitVec.toNat_ofNat,qM (by omega),qM (by omega),h1,IntKind.wrap_i64]
 omega
theorem zs5 (b:Nat)(hb:b<128):bits .or .i64 0 (b:Int)=(b:Int):=by
 have:=zxb 0 b (by omega) hb
 simpa using this
theorem zyx {w:World}{L c:Nat}{A:Option Addr}{n:Nat}{rest:List Int}(h:Rb w A ((n:Int) :: rest))(hn:n<128)(hL:L=rest.length+1)(hL2:L≤90000000) :
  Calls Tryz.prog 174 #[.slice A L c] w fun e w'=>e = .returned (.tuple #[.int .i64 (n:Int),.int .i64 1,.int .i64 0])∧w=w':=by
 obtain ⟨ad,rfl,_,hc⟩:=h (by simp)
 have c0:=hc 0 _ rfl
 have c0':w.cell? ad=some (.int .u8 (n:Int)):=by
  have e:ad.add 0=ad:=by unfold Addr.add;split <;> simp_all
  rw[← e];exact c0
 have h1:(0:Int)<(L:Int):=by omega
 have h1':0<L:=by omega
 have hd:decide ((128:Int)≤(n:Int))=false:=kQ (by omega)
 have ha:=zs4 n (by omega)
 rw[qM hn] at ha
 have ho:=zs5 n hn
 have hne:((0:Int) == (L:Int))=false:=by simp;omega
 have hLL:=kA hL
 clear h hc hL
 go_enter Tryz.func174,Tryz.ntmps174
 go_wp2
 go_loopw [3] (fun v3 wr=>v3 = .int .i64 0∧w=wr) (fun v3 _=>0)
 case atStart=>exact ⟨rfl,rfl⟩
 case round =>
  obtain ⟨rfl,rfl⟩:=hrel
  go_wp2
  go_loopw [2,5] (fun v2 v5 wr=>((v2 = .int .i64 0∧v5 = .int .i64 0)∨(v2 = .int .i64 (n:Int)∧v5 = .int .i64 (-1)))∧w=wr) (fun _ v5 _=>(intOf v5+1).toNat)
  case atStart=>exact ⟨Or.inl ⟨rfl,rfl⟩,rfl⟩
  case round =>
   obtain ⟨hr,rfl⟩:=hrel
   rcases hr with ⟨rfl,rfl⟩|⟨rfl,rfl⟩
   ·go_wp2
    exact ⟨⟨Or.inr ⟨rfl,rfl⟩,trivial⟩,by simp[intOf]⟩
   ·go_wp2
    go_ret3
    exact ⟨rfl,rfl⟩
theorem zyy {w:World}{L c:Nat}{A:Option Addr}{n:Nat}{rest:List Int}(h:Rb w A (((n % 128+128:Nat):Int) :: ((n / 128:Nat):Int) :: rest))(hn1:128≤n)(hn:n<16384)(hL:L=rest.length+2)(hL2:L≤90000000) :
  Calls Tryz.prog 174 #[.slice A L c] w fun e w'=>e = .returned (.tuple #[.int .i64 (n:Int),.int .i64 2,.int .i64 0])∧w=w':=by
 obtain ⟨ad,rfl,_,hc⟩:=h (by simp)
 have c0:w.cell? ad=some (.int .u8 ((n % 128+128:Nat):Int)):=by
  have e:ad.add 0=ad:=by unfold Addr.add;split <;> simp_all
  rw[← e];exact hc 0 _ rfl
 have c1:w.cell? ⟨ad.block,ad.off+1,none⟩=some (.int .u8 ((n / 128:Nat):Int)):=hc 1 _ rfl
 obtain ⟨b0,hb0⟩:∃ b0,b0=n % 128+128:=⟨_,rfl⟩
 obtain ⟨b1,hb1⟩:∃ b1,b1=n / 128:=⟨_,rfl⟩
 rw[← hb0] at c0
 rw[← hb1] at c1
 have hbb:128≤b0∧b0<256∧0<b1∧b1<128:=by omega
 have h1:(1:Int)<(L:Int):=by omega
 have h1':1<L:=by omega
 have h0:(0:Int)<(L:Int):=by omega
 have h0':0<L:=by omega
 have hd0:decide ((128:Int)≤(b0:Int))=true:=kW (by omega)
 have hd1:decide ((128:Int)≤(b1:Int))=false:=kQ (by omega)
 have ha1:=zs4 b1 (by omega)
 rw[qM hbb.2.2.2] at ha1
 have ha0:=zs4 b0 hbb.2.1
 have hm0:b0 % 128=n % 128:=by omega
 rw[hm0] at ha0
 have hz1:=zs5 b1 hbb.2.2.2
 have hor:=zxb b1 (n % 128) hbb.2.2.2 (Nat.mod_lt _ (by decide))
 have hfin:b1*128+n % 128=n:=by omega
 rw[hfin] at hor
 have hor':bits .or .i64 ((b1:Int)*128) ((n:Int) % 128)=(n:Int):=by simpa using hor
 have hne:((1:Int) == (L:Int))=false:=by simp;omega
 have hnz:((b1:Int) == 0)=false:=by simp;omega
 have hLL:=kA hL
 have HB:=kA hb1
 clear h hc hL hb0 hb1 hm0 hfin
 go_enter Tryz.func174,Tryz.ntmps174
 go_wp2
 go_loopw [3] (fun v3 wr=>(v3 = .int .i64 0∨v3 = .int .i64 1)∧w=wr) (fun v3 _=>(1 - intOf v3).toNat)
 case atStart=>exact ⟨Or.inl rfl,rfl⟩
 case round =>
  obtain ⟨hr,rfl⟩:=hrel
  rcases hr with rfl|rfl
  ·go_wp2
   exact ⟨⟨Or.inr rfl,trivial⟩,by simp[intOf]⟩
  ·go_wp2
   go_loopw [2,5] (fun v2 v5 wr=>((v2 = .int .i64 0∧v5 = .int .i64 1)∨(v2 = .int .i64 (b1:Int)∧v5 = .int .i64 0)∨(v2 = .int .i64 (n:Int)∧v5 = .int .i64 (-1)))∧w=wr) (fun _ v5 _=>(intOf v5+1).toNat)
   case atStart=>exact ⟨Or.inl ⟨rfl,rfl⟩,rfl⟩
   case round =>
    obtain ⟨hr,rfl⟩:=hrel
    rcases hr with ⟨rfl,rfl⟩|⟨rfl,rfl⟩|⟨rfl,rfl⟩
    ·go_wp2
     exact ⟨⟨Or.inr (Or.inl ⟨rfl,rfl⟩),trivial⟩,by simp[intOf]⟩
    ·go_wp2
     exact ⟨⟨Or.inr (Or.inr ⟨by first|rfl|rw[hor'],rfl⟩),trivial⟩,by simp[intOf]⟩
    ·go_wp2
     go_ret3
     exact ⟨rfl,rfl⟩
theorem zgb {w:World}{L c:Nat}{A:Option Addr}{n:Nat}{rest:List Int}(h:Rb w A (cnt n++rest))(hn:n<16384)(hL:L=(cnt n++rest).length)(hL2:L≤90000000) :
  Calls Tryz.prog 174 #[.slice A L c] w fun e w'=>e = .returned (.tuple #[.int .i64 (n:Int),.int .i64 ((cnt n).length:Int),.int .i64 0])∧w=w':=by
 by_cases h1:n<128
 ·have e:cnt n=[(n:Int)]:=kZ h1
  rw[e] at h hL ⊢
  exact zyx h h1 (by simpa using hL) hL2
 ·have e:cnt n=[((n % 128+128:Nat):Int),((n / 128:Nat):Int)]:=kT h1
  rw[e] at h hL ⊢
  exact zyy h (by omega) hn (by simpa using hL) hL2
theorem or_u64 (a b:Nat)(ha:a<72057594037927936)(hb:b<256):bits .or .u64 ((a*256:Nat):Int) (b:Int)=((a*256+b:Nat):Int):=by
 have h1:(a*256 ||| b)=a*256+b:=by
  have:=Nat.shiftLeft_add_eq_or_of_lt (i:=8) (b:=b) (by omega) a
  rw[Nat.shiftLeft_eq] at this
  exact this.symm
 show IntKind.u64.wrap (((BitVec.ofNat 64 (a*256) ||| BitVec.ofNat 64 b:BitVec 64).toNat:Nat):Int)=_
 rw[BitVec.toNat_or]
 rw[BitVec.toNat_ofNat,BitVec.toNat_ofNat,qM (by omega),qM (by omega),h1]
 simp[IntKind.wrap,IntKind.bits,IntKind.signed]
 omega
theorem zlz:∀ (l:List Int) (h:Int),0≤h→h<18446744073709551616→0≤fnv h l∧fnv h l<18446744073709551616
 | [],h,h0,h1=>⟨h0,h1⟩
 |b :: l,h,_,_=>zlz l _ (by simp[IntKind.wrap,IntKind.bits,IntKind.signed];omega) (by simp[IntKind.wrap,IntKind.bits,IntKind.signed];omega)
theorem Rb.drop {w:World}{ad:Addr}{xs:List Int}(h:Rb w (some ad) xs)(k:Nat)(hk:0<k):Rb w (some ⟨ad.block,ad.off+k,none⟩) (xs.drop k):=fun hp=>by
 obtain ⟨ad',e,hl,hc⟩:=h (by rw[List.length_drop] at hp;omega)
 injection e with e
 subst e
 refine ⟨_,rfl,hl,fun j u hu=>?_⟩
 rw[List.map_drop,List.getElem?_drop] at hu
 have:=hc (k+j) u hu
 have e1:ad.add (k+j)=⟨ad.block,ad.off+(k+j),none⟩:=by unfold Addr.add;rw[kT (by omega)]
 rw[e1] at this
 by_cases hj:j=0
 ·subst hj
  have e2:(⟨ad.block,ad.off+k,none⟩:Addr).add 0=⟨ad.block,ad.off+k,none⟩:=by unfold Addr.add;simp
  rw[e2];exact this
 ·have e2:(⟨ad.block,ad.off+k,none⟩:Addr).add j=⟨ad.block,ad.off+k+j,none⟩:=by unfold Addr.add;rw[kT hj]
  rw[e2,Nat.add_assoc];exact this
theorem Rb.pre {w:World}{A:Option Addr}{xs ys:List Int}(h:Rb w A (xs++ys)):Rb w A xs:=fun hp=>by
 obtain ⟨ad,e,hl,hc⟩:=h (by rw[kI];omega)
 refine ⟨ad,e,hl,fun j u hu=>hc j u ?_⟩
 rw[kL]
 rw[qB (by rw[kK] at hu;exact hu.1)]
 exact hu
def sm (h j:Nat):Nat:=if j=0 then 0 else if j=1 then h / 72057594037927936 else if j=2 then h / 281474976710656 else if j=3 then h / 1099511627776 else if j=4 then h / 4294967296 else if j=5 then h / 16777216 else if j=6 then h / 65536 else if j=7 then h / 256 else h
theorem zyz {h:Nat}(hh:h<18446744073709551616){j:Nat}(hj:j<8):∃ b:Nat,(be8 (h:Int))[j]? = some (b:Int)∧b<256∧sm h j<72057594037927936∧sm h j*256+b=sm h (j+1):=by
 have:j=0∨j=1∨j=2∨j=3∨j=4∨j=5∨j=6∨j=7:=by omega
 rcases this with rfl|rfl|rfl|rfl|rfl|rfl|rfl|rfl
 ·exact ⟨h / 72057594037927936 % 256,rfl,by omega,by simp[sm],by simp[sm];omega⟩
 ·exact ⟨h / 281474976710656 % 256,rfl,by omega,by simp[sm];omega,by simp[sm];omega⟩
 ·exact ⟨h / 1099511627776 % 256,rfl,by omega,by simp[sm];omega,by simp[sm];omega⟩
 ·exact ⟨h / 4294967296 % 256,rfl,by omega,by simp[sm];omega,by simp[sm];omega⟩
 ·exact ⟨h / 16777216 % 256,rfl,by omega,by simp[sm];omega,by simp[sm];omega⟩
 ·exact ⟨h / 65536 % 256,rfl,by omega,by simp[sm];omega,by simp[sm];omega⟩
 ·exact ⟨h / 256 % 256,rfl,by omega,by simp[sm];omega,by simp[sm];omega⟩
 ·exact ⟨h % 256,rfl,by omega,by simp[sm];omega,by simp[sm];omega⟩
theorem zl0 {fn:Func}{t u v x:Tmp}(h:fn.results=#[.tmp t,.tmp u,.tmp v,.tmp x])(tmps:Array Value)(P:Program)(w:World) :
  (results fn tmps).run P w = .ok (.tuple #[tmps.getD t undef,tmps.getD u undef,tmps.getD v undef,tmps.getD x undef]) w:=by
 simp[results,h]
theorem zfq (kind:Int)(ys:List Int):(sealL kind ys).length=1+(cnt ys.length).length+ys.length+8:=by
 unfold sealL preL;simp[be8];omega
theorem zo2 {w:World}{L c:Nat}{ad:Addr}{kind:Int}{ys rest:List Int}(h:Rb w (some ad) (sealL kind ys++rest))(hL:L=(sealL kind ys++rest).length)(hc:L≤c)(hL2:L≤90000000)(hk1:1≤kind)(hk2:kind≤255)(hl:ys.length<16384)(hy0:0<ys.length) :
  Calls Tryz.prog 71 #[.slice (some ad) L c] w fun e w'=>∃ A' L' c',e = .returned (.tuple #[.int .i64 kind,.slice A' L' c',.int .i64 ((sealL kind ys).length:Int),.int .i64 0])∧Own w' w.heap.size (.slice A' L' c') ys∧Below w.heap.size w w':=by
 have hsl:=zfq kind ys
 have hcl:=zch ys.length
 obtain ⟨k,hk⟩:∃ k,k=ys.length:=⟨_,rfl⟩
 obtain ⟨G,hG⟩:∃ G,G=(cnt k).length:=⟨_,rfl⟩
 rw[← hk] at hsl hcl hl hy0
 rw[← hG] at hsl hcl
 have hG1:1≤G:=by rw[hG];unfold cnt;split <;> simp
 obtain ⟨S,hS⟩:∃ S,S=1+G:=⟨_,rfl⟩
 obtain ⟨E,hE⟩:∃ E,E=S+k:=⟨_,rfl⟩
 obtain ⟨F,hF⟩:∃ F,F=E+8:=⟨_,rfl⟩
 have hLE:E+8≤L:=by rw[hL,kI,hsl];omega
 have hH:0≤fnv 14695981039346656037 (preL kind ys)∧fnv 14695981039346656037 (preL kind ys)<18446744073709551616:=zlz _ _ (by decide) (by decide)
 obtain ⟨hN,hhN⟩:=Int.eq_ofNat_of_zero_le hH.1
 have hNr:hN<18446744073709551616:=by omega
 have HB8:Hid (be8 (fnv 14695981039346656037 (preL kind ys))=be8 (hN:Int)):=kA (by rw[hhN])
 -- the cells
 have hxs:sealL kind ys++rest=(kind :: (cnt k++ys))++(be8 (hN:Int)++rest):=by unfold sealL;rw[HB8.out];unfold preL;rw[← hk];simp
 rw[hxs] at h
 obtain ⟨ad0,e0,hlt,hcell⟩:=h (by simp)
 injection e0 with e0
 subst e0
 have c0:w.cell? ad=some (.int .u8 kind):=by
  have e:ad.add 0=ad:=by unfold Addr.add;simp
  rw[← e];exact hcell 0 _ rfl
 have HR1:Hid (Rb w (some ⟨ad.block,ad.off+1,none⟩) (cnt k++(ys++(be8 (hN:Int)++rest)))):=kA (by
  have:=Rb.drop h 1 (by decide)
  simpa using this)
 have HRP:Hid (Rb w (some ad) (preL kind ys)):=kA (by
  have:=Rb.pre h
  unfold preL;rw[← hk];exact this)
 have HRY:Hid (Rb w (some ⟨ad.block,ad.off+S,none⟩) ys):=kA (by
  have:=Rb.drop h S (by omega)
  have e:((kind :: (cnt k++ys))++(be8 (hN:Int)++rest)).drop S=ys++(be8 (hN:Int)++rest):=by
   rw[hS,hG,Nat.add_comm]
   simp
  rw[e] at this
  exact Rb.pre this)
 have HR8:Hid (Rb w (some ⟨ad.block,ad.off+E,none⟩) (be8 (hN:Int))):=kA (by
  have:=Rb.drop h E (by omega)
  have e:((kind :: (cnt k++ys))++(be8 (hN:Int)++rest)).drop E=be8 (hN:Int)++rest:=by
   have e2:E=(kind :: (cnt k++ys)).length:=by rw[hE,hS,hG,hk];simp;try omega
   rw[e2]
   exact List.drop_left
  rw[e] at this
  exact Rb.pre this)
 have HLR:Hid (L - 1=(cnt k++(ys++(be8 (hN:Int)++rest))).length):=kA (by rw[hL,hxs];simp)
 have HPE:Hid (E=(preL kind ys).length):=kA (by unfold preL;rw[← hk,hE,hS,hG];simp;omega)
 have HKY:=kA hk
 have HGK:=kA hG
 have HSUM:=kA hhN
 have HSL:=kA hsl
 clear h hcell hxs hH hhN hsl hk hL hG
 have i1:(1:Int)+(G:Int)=(S:Int):=by omega
 have i2:(S:Int)+(k:Int)=(E:Int):=by omega
 have i3:(E:Int)+8=(F:Int):=by omega
 have HKI:Hid (1≤kind∧kind≤255):=kA ⟨hk1,hk2⟩
 have HNR:=kA hNr
 have l1:S≤3∧1≤S:=by omega
 have l2:E≤16400:=by omega
 have l3:(S:Int)≤(E:Int):=by omega
 have l4:(E:Int)≤(L:Int):=by omega
 have l5:(F:Int)≤(c:Int):=by omega
 have l6:(E:Int)≤(F:Int):=by omega
 have l7:(E:Int)≤(c:Int):=by omega
 have l8:S≤E:=by omega
 have HS:=kA hS
 have HE:=kA hE
 have f8:F - E=8:=by omega
 have a1:ad.add E=⟨ad.block,ad.off+E,none⟩:=by unfold Addr.add;rw[kT (by omega)]
 have f9:E - S=k:=by omega
 have a2:ad.add S=⟨ad.block,ad.off+S,none⟩:=by unfold Addr.add;rw[kT (by omega)]
 have HF:=kA hF
 clear hS hE hF hG1 hcl hk1 hk2 hNr hlt
 have j0:(0:Int)<(L:Int):=by omega
 have j1:(1:Int)≤(L:Int):=by omega
 have j0':0<L:=by omega
 have hES:¬ E=S:=by have:=HE.out;omega
 have j2:(L:Int)≤(c:Int):=by omega
 have j3:((L:Int) == 0)=false:=by simp;omega
 have j4:(kind == 0)=false:=by have:=HKI.out;simp;omega
 have j5:decide ((4194304:Int)<(k:Int))=false:=kQ (by omega)
 have j6:decide ((L:Int)<(F:Int))=false:=kQ (by omega)
 go_enter Tryz.func71,Tryz.ntmps71
 go_wp2_with (first
  |(go_at_call 174;refine (zgb HR1.out hl HLR.out (by omega)).mono ?_;rintro e w1 ⟨rfl,rfl⟩;rw[← HGK.out];dsimp only))
 go_loopw [10,48] (fun v10 v48 wr=>∃ (j a:Nat),j≤8∧v48 = .int .i64 (j:Int)∧v10 = .int .u64 (a:Int)∧Hid (a=sm hN j)∧w=wr) (fun _ v48 _=>8 - (intOf v48).toNat)
 case atStart=>exact ⟨0,0,by omega,rfl,rfl,rfl,rfl⟩
 case round =>
  obtain ⟨j,a,hj,rfl,rfl,hsm,rfl⟩:=hrel
  by_cases hgo:j<8
  ·obtain ⟨b,hb1,hb2,hb3,hb4⟩:=zyz HNR.out hgo
   rw[← hsm.out] at hb3 hb4
   obtain ⟨ad',e',_,hc'⟩:=HR8.out (by simp[be8])
   injection e' with e'
   subst e'
   have hx:=hc' j (.int .u8 (b:Int)) (by rw[List.getElem?_map,hb1];rfl)
   have hx':w.cell? ⟨ad.block,ad.off+E+j,none⟩=some (.int .u8 (b:Int)):=by
    by_cases h0:j=0
    ·subst h0;exact hx
    ·unfold Addr.add at hx;rw[kT h0] at hx;exact hx
   have hor:=or_u64 a b hb3 hb2
   have hor':bits .or .u64 ((a:Int)*256) (b:Int)=((a*256+b:Nat):Int):=by simpa using hor
   have HB4:=kA hb4
   clear hc' hb1 hb4
   have g1:(j:Int)<8:=by omega
   have g2:(a:Int)<72057594037927936:=by omega
   have g3:(b:Int)<256:=by omega
   go_wp2
   exact ⟨⟨j+1,a*256+b,hgo,by go_num,by go_num,kA HB4.out,trivial⟩,by simp[intOf];omega⟩
  ·have hj8:j=8:=by omega
   subst hj8
   have ha:a=hN:=hsm.out
   subst ha
   clear hsm hgo
   go_wp2_with (first
    |(go_at_call 115;refine (show Calls _ _ _ _ _ from HPE.out ▸ zsz (c:=c) HRP.out (by rw[← HPE.out];omega)).mono ?_;rintro e w1 ⟨rfl,rfl⟩;rw[HSUM.out]))
   go_region_held3 (fun w'=>w'.cell? ad=some (.int .u8 kind)) (simp[*]) (first
    |(go_at_call 116;refine (show Calls _ _ _ _ _ from HKY.out ▸ zfp (w:=World.drew _) HRY.out (by rw[← HKY.out];omega)).mono ?_;rintro e w5 ⟨A5,L5,c5,rfl,ho5,hb5⟩;replace hb5:=(Below.refl _ _).drew.trans hb5;have HO5:=kA ho5;have HB5:=kA hb5;have c5':w5.cell? ad=some (.int .u8 kind):=(hb5.cell (World.block_lt_of_cell? w _ c0)).trans c0;clear ho5 hb5))
   go_wp2
   have hkk:=HKI.out
   have w1:IntKind.i64.wrap kind=kind:=by rw[IntKind.wrap_i64];omega
   have w2:IntKind.i64.wrap (F:Int)=(F:Int):=by rw[IntKind.wrap_i64];omega
   have w3:(sealL kind ys).length=F:=by rw[HSL.out,HF.out,HE.out,HS.out]
   refine bodyPost_ret (zl0 rfl _ _ _) rfl ⟨A5,L5,c5,?_,HO5.out,HB5.out⟩
   show Ending.returned (.tuple #[.int .i64 (IntKind.i64.wrap kind),.slice A5 L5 c5,.int .i64 (IntKind.i64.wrap (F:Int)),.int .i64 0])=_
   rw[w1,w2,w3]
structure Rdr (w:World)(B g:Nat)(A:Option Addr)(L c:Nat)(xs:List Int):Prop where
 blk:Blk w g 361 #[.slice A L c,.bool false]
 rb:Rb w A xs
 len:L=xs.length
 cap:L≤c
 ne:∀ ad,A=some ad→ad.block≠g
 lo:∀ ad,A=some ad→B≤ad.block
theorem Rb.set_far {w:World}{A:Option Addr}{xs:List Int}(h:Rb w A xs){p:Addr}(hp:∀ ad,A=some ad→ad.block≠p.block)(v:Value):Rb (w.setCell p v) A xs :=
 h.keep (p:=fun k=>k=p.block) (Alt.set_ (p:=fun k=>k=p.block) (a:=p) (Alt.refl w _) rfl v) hp
theorem Rdr.step {w:World}{B g L c L' c':Nat}{A A':Option Addr}{xs ys:List Int}(h:Rdr w B g A L c xs)(hb:Rb w A' ys)(hl:L'=ys.length)(hc:L'≤c')(hn:∀ ad,A'=some ad→ad.block≠g)(hlo:∀ ad,A'=some ad→B≤ad.block) :
  Rdr (w.setCell ⟨g,0,none⟩ (.slice A' L' c')) B g A' L' c' ys :=
 ⟨h.blk.set_ 0 _,Rb.set_far hb hn _,hl,hc,hn,hlo⟩
theorem znm {w:World}{B g L c:Nat}{A:Option Addr}{n:Nat}{ys:List Int}(most:Int)(h:Rdr w B g A L c (cnt n++ys))(hn:n<16384)(hm:(n:Int)≤most)(hL2:L≤90000000) :
  Calls Tryz.prog 358 #[.pointer (some ⟨g,0,none⟩),.int .i64 most] w fun e w'=>e = .returned (.int .i64 (n:Int))∧∃ A' L' c',Rdr w' B g A' L' c' ys∧Alt w w' (fun k=>k=g):=by
 have hcl:1≤(cnt n).length:=by unfold cnt;split <;> simp
 obtain ⟨ad,rfl,hlt,hce⟩:=h.rb (by simp;omega)
 obtain ⟨G,hG⟩:∃ G,G=(cnt n).length:=⟨_,rfl⟩
 have hlen:=h.len
 rw[kI, ← hG] at hlen
 rw[← hG] at hcl
 have hcap:=h.cap
 have HR:=kA h.rb
 have H:=kA h
 have HGE:=kA hG
 have c0:w.cell? ⟨g,0,none⟩=some (.slice (some ad) L c):=h.blk.cell 0
 have c1:w.cell? ⟨g,1,none⟩=some (.bool false):=h.blk.cell 1
 have fz:=h.blk.frozen 0
 have HLN:=kA h.len
 have hd:decide (most<(n:Int))=false:=kQ (by omega)
 have j1:(G:Int)≤(L:Int):=by omega
 have j2:(L:Int)≤(c:Int):=by omega
 have HLY:=kA hlen
 have j3:G≤L:=by omega
 clear h hce hG hlen hm
 have HAD:Hid (ad.add G=⟨ad.block,ad.off+G,none⟩):=kA (by unfold Addr.add;rw[kT (by omega)])
 have HDR:Hid (Rb w (some ⟨ad.block,ad.off+G,none⟩) ys):=kA (by
  have:=Rb.drop HR.out G (by omega)
  rw[HGE.out,List.drop_left] at this
  rw[HGE.out];exact this)
 by_cases hcg:c=G
 ·subst hcg
  have hLc:L=c:=by omega
  subst hLc
  have hy0:ys=[]:=qG (by have:=HLY.out;omega)
  subst hy0
  go_enter Tryz.func358,Tryz.ntmps358
  go_wp2_with (first
   |(go_at_call 174;refine (zgb HR.out hn HLN.out hL2).mono ?_;rintro e w1 ⟨rfl,rfl⟩;rw[← HGE.out];dsimp only))
  go_ret
  refine ⟨rfl,_,_,_,H.out.step (Rb.nil _ _) rfl (by simp) (fun ad' e=>by injection e with e;subst e;exact H.out.ne _ rfl) (fun ad' e=>by injection e with e;subst e;exact H.out.lo _ rfl),Alt.set_ (p:=fun k=>k=g) (a:=⟨g,0,none⟩) (Alt.refl w _) rfl _⟩
 ·have hcg':¬ c - G=0:=by omega
  go_enter Tryz.func358,Tryz.ntmps358
  go_wp2_with (first
   |(go_at_call 174;refine (zgb HR.out hn HLN.out hL2).mono ?_;rintro e w1 ⟨rfl,rfl⟩;rw[← HGE.out];dsimp only))
  go_ret
  refine ⟨rfl,_,_,_,H.out.step (A':=some (ad.add G)) (by rw[HAD.out];exact HDR.out) (by have:=HLY.out;omega) (by omega) (fun ad' e=>by injection e with e;subst e;rw[za8];exact H.out.ne ad rfl) (fun ad' e=>by injection e with e;subst e;rw[za8];exact H.out.lo ad rfl),Alt.set_ (p:=fun k=>k=g) (a:=⟨g,0,none⟩) (Alt.refl w _) rfl _⟩
theorem zqo {w:World}{B g L c:Nat}{A:Option Addr}{xs ys:List Int}(n:Nat)(h:Rdr w B g A L c (xs++ys))(hn:n=xs.length)(h0:0<n)(_hL2:L≤90000000) :
  Calls Tryz.prog 357 #[.pointer (some ⟨g,0,none⟩),.int .i64 (n:Int)] w fun e w'=>∃ A1 c1,e = .returned (.slice A1 n c1)∧Rb w' A1 xs∧(A1=none→n=0)∧∃ A' L' c',Rdr w' B g A' L' c' ys∧Alt w w' (fun k=>k=g):=by
 obtain ⟨ad,rfl,hlt,hce⟩:=h.rb (by simp;omega)
 have hlen:=h.len
 rw[kI, ← hn] at hlen
 have hcap:=h.cap
 have HRX:=kA (Rb.pre h.rb)
 have HR:=kA h.rb
 have H:=kA h
 have c0:w.cell? ⟨g,0,none⟩=some (.slice (some ad) L c):=h.blk.cell 0
 have c1:w.cell? ⟨g,1,none⟩=some (.bool false):=h.blk.cell 1
 have fz:=h.blk.frozen 0
 have hd:decide ((L:Int)<(n:Int))=false:=kQ (by omega)
 have j1:(n:Int)≤(L:Int):=by omega
 have j2:(L:Int)≤(c:Int):=by omega
 have j4:(n:Int)≤(c:Int):=by omega
 have HLY:=kA hlen
 have HN:=kA hn
 have j3:n≤L:=by omega
 have HAD:Hid (ad.add n=⟨ad.block,ad.off+n,none⟩):=kA (by unfold Addr.add;rw[kT (by omega)])
 have HDR:Hid (Rb w (some ⟨ad.block,ad.off+n,none⟩) ys):=kA (by
  have:=Rb.drop HR.out n h0
  rw[HN.out,List.drop_left] at this
  rw[HN.out];exact this)
 have hn0:¬ n=0:=by omega
 clear h hce hn hlen
 by_cases hcg:c=n
 ·subst hcg
  have hLc:L=c:=by omega
  subst hLc
  have hy0:ys=[]:=qG (by have:=HLY.out;omega)
  subst hy0
  go_enter Tryz.func357,Tryz.ntmps357
  go_wp2
  go_ret
  refine ⟨_,_,rfl,Rb.set_far HRX.out (fun ad' e=>by injection e with e;subst e;exact H.out.ne _ rfl) _,fun e=>(by cases e),_,_,_,H.out.step (Rb.nil _ _) rfl (by simp) (fun ad' e=>by injection e with e;subst e;exact H.out.ne _ rfl) (fun ad' e=>by injection e with e;subst e;exact H.out.lo _ rfl),Alt.set_ (p:=fun k=>k=g) (a:=⟨g,0,none⟩) (Alt.refl w _) rfl _⟩
 ·have hcg':¬ c - n=0:=by omega
  go_enter Tryz.func357,Tryz.ntmps357
  go_wp2
  go_ret
  refine ⟨_,_,rfl,Rb.set_far HRX.out (fun ad' e=>by injection e with e;subst e;exact H.out.ne _ rfl) _,fun e=>(by cases e),_,_,_,H.out.step (A':=some (ad.add n)) (by rw[HAD.out];exact HDR.out) (by have:=HLY.out;omega) (by omega) (fun ad' e=>by injection e with e;subst e;rw[za8];exact H.out.ne ad rfl) (fun ad' e=>by injection e with e;subst e;rw[za8];exact H.out.lo ad rfl),Alt.set_ (p:=fun k=>k=g) (a:=⟨g,0,none⟩) (Alt.refl w _) rfl _⟩
theorem zbg {w:World}{B g L c:Nat}{A:Option Addr}{xs ys:List Int}(most:Int)(h:Rdr w B g A L c (textL xs++ys))(h0:0<xs.length)(hn:xs.length<16384)(hm:(xs.length:Int)≤most)(hL2:L≤90000000) :
  Calls Tryz.prog 175 #[.pointer (some ⟨g,0,none⟩),.int .i64 most] w fun e w'=>e = .returned (.string (strOf xs))∧∃ A' L' c',Rdr w' B g A' L' c' ys∧Alt w w' (fun k=>k=g):=by
 have HLL:L=(textL xs++ys).length:=h.len
 have h':Rdr w B g A L c (cnt xs.length++(xs++ys)):=by
  have e:textL xs++ys=cnt xs.length++(xs++ys):=by unfold textL;simp
  rw[← e];exact h
 have H:=kA h'
 have HLH:=kA HLL
 clear h h' HLL
 go_enter Tryz.func175,Tryz.ntmps175
 go_wp2_with (first
  |(go_at_call 358;refine (znm most H.out hn hm hL2).mono ?_;rintro e w1 ⟨rfl,A1,L1,c1,hr1,ha1⟩;have HR1:=kA hr1;have HA1:=kA ha1;clear hr1 ha1)
  |(go_at_call 357;refine (zqo xs.length HR1.out rfl h0 (by have:=HR1.out.len;have:=HLH.out;unfold textL at this;simp at *;omega)).mono ?_;rintro e w2 ⟨A2,c2,rfl,hb2,hnn,A3,L3,c3,hr3,ha3⟩;have hcv:=zg6 (c:=c2) hb2 hnn;have HR3:=kA hr3;have HA3:=kA ha3;clear hr3 ha3 hb2))
 go_ret
 exact ⟨rfl,A3,L3,c3,HR3.out,HA1.out.trans HA3.out (fun _ _ h=>h)⟩
theorem Rdr.below {w w':World}{B g L c:Nat}{A:Option Addr}{xs:List Int}(h:Rdr w B g A L c xs)(hb:Below w.heap.size w w'):Rdr w' B g A L c xs:=by
 refine ⟨(hb.block g h.blk.lt).trans h.blk,?_,h.len,h.cap,h.ne,h.lo⟩
 rcases xs with _|⟨x,l⟩
 ·exact Rb.nil _ _
 ·refine h.rb.keep (p:=fun k=>w.heap.size≤k) ⟨hb.os,hb.tape,hb.output,hb.size,fun k hk _=>hb.block k hk⟩ (fun ad e hk=>?_)
  obtain ⟨ad',e',hl,_⟩:=h.rb (by simp)
  rw[e] at e';injection e' with e';subst e'
  exact absurd hk (by show ¬ w.heap.size≤ad.block;omega)
theorem Rdr.far {w:World}{B g L c:Nat}{A:Option Addr}{xs:List Int}(h:Rdr w B g A L c xs){p:Addr}(h1:p.block<B)(h2:p.block≠g)(v:Value):Rdr (w.setCell p v) B g A L c xs :=
 ⟨h.blk.far (Ne.symm h2) v,Rb.set_far h.rb (fun ad e=>by have:=h.lo ad e;omega) v,h.len,h.cap,h.ne,h.lo⟩
theorem zfr {w:World}{b1 L c:Nat}{A:Option Addr}{xs:List Int}(h:Own w b1 (.slice A L c) xs)(hb:xs.length≤90000000) :
  Calls Tryz.prog 78 #[.slice A L c] w fun e w'=>∃ g A' L' c',e = .returned (.pointer (some ⟨g,0,none⟩))∧Rdr w' w.heap.size g A' L' c' xs∧w.heap.size≤g∧Below w.heap.size w w':=by
 have hl:=ze3 h
 subst hl
 have HR:=kA (Rb.of_own h)
 clear h
 go_enter Tryz.func78,Tryz.ntmps78
 go_wp2_with (first
  |(go_at_call 116;refine (zfp HR.out hb).mono ?_;rintro e w1 ⟨A1,L1,c1,rfl,ho1,hb1⟩;have HO1:=kA ho1;have HB1:=kA hb1;clear ho1 hb1))
 go_ret
 obtain rfl:=ze3 HO1.out
 have hcap:xs.length≤c1:=by
  rcases HO1.out.2 with ⟨e,h0⟩|⟨g,cap,cur,e,_,_,h5,_⟩
  ·omega
  ·injection e with _ _ e;omega
 refine ⟨_,A1,xs.length,c1,rfl,⟨Blk.new _ _ _,Rb.of_own (zam HO1.out (Below.new1 _ _)),rfl,hcap,fun ad e=>?_,fun ad e=>?_⟩,HB1.out.size,HB1.out.alloc HB1.out.size _⟩
 ·rcases HO1.out.2 with ⟨e2,h0⟩|⟨g,cap,cur,e2,_,h4,_⟩
  ·injection e2 with e2;rw[e] at e2;cases e2
  ·injection e2 with e2
   rw[e] at e2;injection e2 with e2
   subst e2
   have:=lt_of_block h4
   show g≠_
   omega
 ·rcases HO1.out.2 with ⟨e2,h0⟩|⟨g,cap,cur,e2,h3,h4,_⟩
  ·injection e2 with e2;rw[e] at e2;cases e2
  ·injection e2 with e2
   rw[e] at e2;injection e2 with e2
   subst e2
   exact h3
theorem zs6 (a y k:Nat)(hy:y<2 ^ k)(hs:a*2 ^ k+y<4611686018427387904):bits .or .i64 ((a*2 ^ k:Nat):Int) (y:Int)=((a*2 ^ k+y:Nat):Int):=by
 have h1:(a*2 ^ k ||| y)=a*2 ^ k+y:=by
  have:=Nat.shiftLeft_add_eq_or_of_lt (i:=k) (b:=y) hy a
  rw[Nat.shiftLeft_eq] at this
  exact this.symm
 show IntKind.i64.wrap (((BitVec.ofNat 64 (a*2 ^ k) ||| BitVec.ofNat 64 y:BitVec 64).toNat:Nat):Int)=_
 rw[BitVec.toNat_or]
 rw[BitVec.toNat_ofNat,BitVec.toNat_ofNat,qM (by omega),qM (by omega),h1,IntKind.wrap_i64]
 omega
theorem zqp {a0 a1 a2 a3:Nat}(h0:a0<128)(h1:a1<256)(h2:a2<256)(h3:a3<256) :
  bits .or .i64 (bits .or .i64 (bits .or .i64 (IntKind.i64.wrap (IntKind.i64.wrap (a0:Int)*16777216)) (IntKind.i64.wrap (IntKind.i64.wrap (a1:Int)*65536))) (IntKind.i64.wrap (IntKind.i64.wrap (a2:Int)*256))) (IntKind.i64.wrap (a3:Int))=((a0*16777216+a1*65536+a2*256+a3:Nat):Int):=by
 have e0:IntKind.i64.wrap (IntKind.i64.wrap (a0:Int)*16777216)=((a0*2 ^ 24:Nat):Int):=by rw[IntKind.wrap_i64,IntKind.wrap_i64];omega
 have e1:IntKind.i64.wrap (IntKind.i64.wrap (a1:Int)*65536)=((a1*65536:Nat):Int):=by rw[IntKind.wrap_i64,IntKind.wrap_i64];omega
 have e2:IntKind.i64.wrap (IntKind.i64.wrap (a2:Int)*256)=((a2*256:Nat):Int):=by rw[IntKind.wrap_i64,IntKind.wrap_i64];omega
 have e3:IntKind.i64.wrap (a3:Int)=(a3:Int):=by rw[IntKind.wrap_i64];omega
 rw[e0,e1,e2,e3]
 clear e0 e1 e2 e3
 rw[zs6 a0 (a1*65536) 24 (by omega) (by omega)]
 have f1:a0*2 ^ 24+a1*65536=(a0*256+a1)*2 ^ 16:=by omega
 rw[f1,zs6 (a0*256+a1) (a2*256) 16 (by omega) (by omega)]
 clear f1
 obtain ⟨m,hm⟩:∃ m,m=(a0*256+a1)*256+a2:=⟨_,rfl⟩
 have f2:(a0*256+a1)*2 ^ 16+a2*256=m*2 ^ 8:=by
  show (a0*256+a1)*65536+a2*256=m*256
  rw[hm,Nat.add_mul ((a0*256+a1)*256) a2 256,Nat.mul_assoc]
 have hmb:m<16777216:=by omega
 rw[f2,zs6 m a3 8 (by omega) (by omega)]
 try (congr 1;omega)
theorem zdj {w:World}(v:Nat)(hv:v<2147483648) :
  Calls Tryz.prog 176 #[.string (strOf (mkL v))] w fun e w'=>e = .returned (.tuple #[.int .i64 (v:Int),.bool true])∧Below w.heap.size w w':=by
 have hs:strOf (mkL v)=⟨#[UInt8.ofNat (v / 16777216),UInt8.ofNat (v / 65536 % 256),UInt8.ofNat (v / 256 % 256),UInt8.ofNat (v % 256)]⟩:=by
  have e:mkL v=[((v / 16777216:Nat):Int),((v / 65536 % 256:Nat):Int),((v / 256 % 256:Nat):Int),((v % 256:Nat):Int)]:=by
   unfold mkL;simp
  rw[e]
  rfl
 rw[hs]
 obtain ⟨a0,ha0⟩:∃ a0,a0=v / 16777216:=⟨_,rfl⟩
 obtain ⟨a1,ha1⟩:∃ a1,a1=v / 65536 % 256:=⟨_,rfl⟩
 obtain ⟨a2,ha2⟩:∃ a2,a2=v / 256 % 256:=⟨_,rfl⟩
 obtain ⟨a3,ha3⟩:∃ a3,a3=v % 256:=⟨_,rfl⟩
 rw[← ha0, ← ha1, ← ha2, ← ha3]
 have HV:Hid (v=a0*16777216+a1*65536+a2*256+a3):=kA (by omega)
 have r0:a0<128:=by omega
 have r1:a1<256:=by omega
 have r2:a2<256:=by omega
 have r3:a3<256:=by omega
 clear hs ha0 ha1 ha2 ha3
 have q0:(UInt8.ofNat a0).toNat=a0:=by rw[UInt8.toNat_ofNat',qM (by omega)]
 have q1:(UInt8.ofNat a1).toNat=a1:=by rw[UInt8.toNat_ofNat',qM (by omega)]
 have q2:(UInt8.ofNat a2).toNat=a2:=by rw[UInt8.toNat_ofNat',qM (by omega)]
 have q3:(UInt8.ofNat a3).toNat=a3:=by rw[UInt8.toNat_ofNat',qM (by omega)]
 generalize UInt8.ofNat a0=u0 at *
 generalize UInt8.ofNat a1=u1 at *
 generalize UInt8.ofNat a2=u2 at *
 generalize UInt8.ofNat a3=u3 at *
 go_enter Tryz.func176,Tryz.ntmps176
 go_wp2
 refine wp_region_held_drew (S:=fun _=>True) (by kernel_rfl) trivial (fun hHeld=>?_)
 refine wpAnyH_take (i:=0) (oi:=_) (v:=?_) rfl (by kernel_rfl) (by kernel_rfl) (by kernel_rfl) (fun _ _ _ h=>h) (Or.inl ⟨by rfl,?_⟩) (by assumption) ?_
 rotate_left
 ·(intro w' hSw;(try dsimp only at hSw);(try simp only[kD,kB]);go_simp;try (with_reducible rfl))
 try simp only[Act.put,kE,kG,kF,kD,kB]
 refine wpAnyH_take (i:=1) (oi:=_) (v:=?_) rfl (by kernel_rfl) (by kernel_rfl) (by kernel_rfl) (fun _ _ _ h=>h) (Or.inl ⟨by rfl,?_⟩) (by assumption) ?_
 rotate_left
 ·(intro w' hSw;(try dsimp only at hSw);(try simp only[kD,kB,kC]);go_simp;try (with_reducible rfl))
 try simp only[Act.put,kE,kG,kF,kD,kB,kC]
 refine wpAnyH_take (i:=2) (oi:=_) (v:=?_) rfl (by kernel_rfl) (by kernel_rfl) (by kernel_rfl) (fun _ _ _ h=>h) (Or.inl ⟨by rfl,?_⟩) (by assumption) ?_
 rotate_left
 ·(intro w' hSw;(try dsimp only at hSw);(try simp only[kD,kB,kC]);go_simp;try (with_reducible rfl))
 try simp only[Act.put,kE,kG,kF,kD,kB,kC]
 refine wpAnyH_take (i:=3) (oi:=_) (v:=?_) rfl (by kernel_rfl) (by kernel_rfl) (by kernel_rfl) (fun _ _ _ h=>h) (Or.inl ⟨by rfl,?_⟩) (by assumption) ?_
 rotate_left
 ·(intro w' hSw;(try dsimp only at hSw);(try simp only[kD,kB,kC]);go_simp;try (with_reducible rfl))
 try simp only[Act.put,kE,kG,kF,kD,kB,kC]
 refine wpAnyH_take (i:=4) (oi:=_) (v:=?_) rfl (by kernel_rfl) (by kernel_rfl) (by kernel_rfl) (fun _ _ _ h=>h) (Or.inl ⟨by rfl,?_⟩) (by assumption) ?_
 rotate_left
 ·(intro w' hSw;(try dsimp only at hSw);(try simp only[kD,kB,kC]);go_simp;try (with_reducible rfl))
 try simp only[Act.put,kE,kG,kF,kD,kB,kC]
 refine wpAnyH_take (i:=5) (oi:=_) (v:=?_) rfl (by kernel_rfl) (by kernel_rfl) (by kernel_rfl) (fun _ _ _ h=>h) (Or.inl ⟨by rfl,?_⟩) (by assumption) ?_
 rotate_left
 ·(intro w' hSw;(try dsimp only at hSw);(try simp only[kD,kB,kC]);go_simp;try (with_reducible rfl))
 try simp only[Act.put,kE,kG,kF,kD,kB,kC]
 refine wpAnyH_take (i:=6) (oi:=_) (v:=?_) rfl (by kernel_rfl) (by kernel_rfl) (by kernel_rfl) (fun _ _ _ h=>h) (Or.inl ⟨by rfl,?_⟩) (by assumption) ?_
 rotate_left
 ·(intro w' hSw;(try dsimp only at hSw);(try simp only[kD,kB,kC]);go_simp;try (with_reducible rfl))
 try simp only[Act.put,kE,kG,kF,kD,kB,kC]
 refine wpAnyH_take (i:=7) (oi:=_) (v:=?_) rfl (by kernel_rfl) (by kernel_rfl) (by kernel_rfl) (fun _ _ _ h=>h) (Or.inl ⟨by rfl,?_⟩) (by assumption) ?_
 rotate_left
 ·(intro w' hSw;(try dsimp only at hSw);(try simp only[kD,kB,kC]);go_simp;try (with_reducible rfl))
 try simp only[Act.put,kE,kG,kF,kD,kB,kC]
 refine wpAnyH_take (i:=8) (oi:=_) (v:=?_) rfl (by kernel_rfl) (by kernel_rfl) (by kernel_rfl) (fun _ _ _ h=>h) (Or.inl ⟨by rfl,?_⟩) (by assumption) ?_
 rotate_left
 ·(intro w' hSw;(try dsimp only at hSw);(try simp only[kD,kB,kC]);go_simp;try (with_reducible rfl))
 try simp only[Act.put,kE,kG,kF,kD,kB,kC]
 refine wpAnyH_take (i:=9) (oi:=_) (v:=?_) rfl (by kernel_rfl) (by kernel_rfl) (by kernel_rfl) (fun _ _ _ h=>h) (Or.inl ⟨by rfl,?_⟩) (by assumption) ?_
 rotate_left
 ·(intro w' hSw;(try dsimp only at hSw);(try simp only[kD,kB,kC]);go_simp;try (with_reducible rfl))
 try simp only[Act.put,kE,kG,kF,kD,kB,kC]
 refine wpAnyH_take (i:=10) (oi:=_) (v:=?_) rfl (by kernel_rfl) (by kernel_rfl) (by kernel_rfl) (fun _ _ _ h=>h) (Or.inl ⟨by rfl,?_⟩) (by assumption) ?_
 rotate_left
 ·(intro w' hSw;(try dsimp only at hSw);(try simp only[kD,kB,kC]);go_simp;try (with_reducible rfl))
 try simp only[Act.put,kE,kG,kF,kD,kB,kC]
 refine wpAnyH_take (i:=11) (oi:=_) (v:=?_) rfl (by kernel_rfl) (by kernel_rfl) (by kernel_rfl) (fun _ _ _ h=>h) (Or.inl ⟨by rfl,?_⟩) (by assumption) ?_
 rotate_left
 ·(intro w' hSw;(try dsimp only at hSw);(try simp only[kD,kB,kC]);go_simp;try (with_reducible rfl))
 try simp only[Act.put,kE,kG,kF,kD,kB,kC]
 refine wpAnyH_take (i:=12) (oi:=_) (v:=?_) rfl (by kernel_rfl) (by kernel_rfl) (by kernel_rfl) (fun _ _ _ h=>h) (Or.inl ⟨by rfl,?_⟩) (by assumption) ?_
 rotate_left
 ·(intro w' hSw;(try dsimp only at hSw);(try simp only[kD,kB,kC]);go_simp;try (with_reducible rfl))
 try simp only[Act.put,kE,kG,kF,kD,kB,kC]
 refine wpAnyH_take (i:=13) (oi:=_) (v:=?_) rfl (by kernel_rfl) (by kernel_rfl) (by kernel_rfl) (fun _ _ _ h=>h) (Or.inl ⟨by rfl,?_⟩) (by assumption) ?_
 rotate_left
 ·(intro w' hSw;(try dsimp only at hSw);(try simp only[kD,kB,kC]);go_simp;try (with_reducible rfl))
 try simp only[Act.put,kE,kG,kF,kD,kB,kC]
 refine wpAnyH_take (i:=14) (oi:=_) (v:=?_) rfl (by kernel_rfl) (by kernel_rfl) (by kernel_rfl) (fun _ _ _ h=>h) (Or.inl ⟨by rfl,?_⟩) (by assumption) ?_
 rotate_left
 ·(intro w' hSw;(try dsimp only at hSw);(try simp only[kD,kB,kC]);go_simp;try (with_reducible rfl))
 try simp only[Act.put,kE,kG,kF,kD,kB,kC]
 refine wpAnyH_take (i:=15) (oi:=_) (v:=?_) rfl (by kernel_rfl) (by kernel_rfl) (by kernel_rfl) (fun _ _ _ h=>h) (Or.inl ⟨by rfl,?_⟩) (by assumption) ?_
 rotate_left
 ·(intro w' hSw;(try dsimp only at hSw);(try simp only[kD,kB,kC]);go_simp;try (with_reducible rfl))
 try simp only[Act.put,kE,kG,kF,kD,kB,kC]
 refine wpAnyH_take (i:=16) (oi:=_) (v:=?_) rfl (by kernel_rfl) (by kernel_rfl) (by kernel_rfl) (fun _ _ _ h=>h) (Or.inl ⟨by rfl,?_⟩) (by assumption) ?_
 rotate_left
 ·(intro w' hSw;(try dsimp only at hSw);(try simp only[kD,kB,kC]);go_simp;try (with_reducible rfl))
 try simp only[Act.put,kE,kG,kF,kD,kB,kC]
 refine wpAnyH_take (i:=17) (oi:=_) (v:=?_) rfl (by kernel_rfl) (by kernel_rfl) (by kernel_rfl) (fun _ _ _ h=>h) (Or.inl ⟨by rfl,?_⟩) (by assumption) ?_
 rotate_left
 ·(intro w' hSw;(try dsimp only at hSw);(try simp only[kD,kB,kC]);go_simp;try (with_reducible rfl))
 try simp only[Act.put,kE,kG,kF,kD,kB,kC]
 refine wpAnyH_take (i:=18) (oi:=_) (v:=?_) rfl (by kernel_rfl) (by kernel_rfl) (by kernel_rfl) (fun _ _ _ h=>h) (Or.inl ⟨by rfl,?_⟩) (by assumption) ?_
 rotate_left
 ·(intro w' hSw;(try dsimp only at hSw);(try simp only[kD,kB,kC]);go_simp;try (with_reducible rfl))
 try simp only[Act.put,kE,kG,kF,kD,kB,kC]
 refine wpAnyH_take (i:=19) (oi:=_) (v:=?_) rfl (by kernel_rfl) (by kernel_rfl) (by kernel_rfl) (fun _ _ _ h=>h) (Or.inl ⟨by rfl,?_⟩) (by assumption) ?_
 rotate_left
 ·(intro w' hSw;(try dsimp only at hSw);(try simp only[kD,kB,kC]);go_simp;try (with_reducible rfl))
 try simp only[Act.put,kE,kG,kF,kD,kB,kC]
 refine wpAnyH_done (by kernel_rfl) ?_ _
 go_wp2
 go_ret2
 refine ⟨?_,(Below.refl _ _).drew⟩
 have hn:=zqp r0 r1 r2 r3
 rw[← HV.out, ← q0, ← q1, ← q2, ← q3] at hn
 exact congrArg (fun z=>Ending.returned (.tuple #[.int .i64 z,.bool true])) hn
theorem zfs {w:World}{B g L c:Nat}{A:Option Addr}{xs:List Int}(h:Rdr w B g A L c xs) :
  Calls Tryz.prog 177 #[.pointer (some ⟨g,0,none⟩)] w fun e w'=>e = .returned (.bool false)∧w=w':=by
 have c1:w.cell? ⟨g,1,none⟩=some (.bool false):=h.blk.cell 1
 clear h
 go_enter Tryz.func177,Tryz.ntmps177
 go_wp2
 go_ret
 exact ⟨rfl,rfl⟩
theorem zem {w:World}{B g L c:Nat}{A:Option Addr}{xs:List Int}(h:Rdr w B g A L c xs) :
  Calls Tryz.prog 178 #[.pointer (some ⟨g,0,none⟩)] w fun e w'=>e = .returned (.int .i64 (L:Int))∧w=w':=by
 have c0:w.cell? ⟨g,0,none⟩=some (.slice A L c):=h.blk.cell 0
 clear h
 go_enter Tryz.func178,Tryz.ntmps178
 go_wp2
 go_ret
 exact ⟨rfl,rfl⟩
theorem za2 {w:World}{g:Nat}{t:TypeId}{a b c d e:Value}(h:Blk w g t #[a,b,c,d,e]) :
  (w.cell? ⟨g,0,none⟩=some a∧w.cell? ⟨g,1,none⟩=some b∧w.cell? ⟨g,2,none⟩=some c∧w.cell? ⟨g,3,none⟩=some d∧w.cell? ⟨g,4,none⟩=some e)∧∀ i,w.frozen? ⟨g,i,none⟩=false :=
 ⟨⟨h.cell 0,h.cell 1,h.cell 2,h.cell 3,h.cell 4⟩,fun i=>h.frozen i⟩
theorem zab {w w':World}{g:Nat}{t:TypeId}{cs:Array Value}(h:Blk w g t cs)(hb:Below w.heap.size w w'):Blk w' g t cs:=(hb.block g h.lt).trans h
theorem zbs {P:Program}{fn:Func}{t u:Tmp}{ty t':TypeId}(h:fn.results=#[.cell t ty,.tmp u])(tmps:Array Value)(w:World)(g:Nat)(cs:Array Value)(fr:Nat×Nat)(d:TypeDesc)(hp:tmps.getD t undef = .pointer (some ⟨g,0,none⟩))
  (hg:w.heap[g]? = some (.cells cs t' fr)) (hu:P.underlying ty=some d) (hd:(match d with | .struct _ | .array _ _=>true|_=>false)=true) (hi:(P.info? ty).map (·.size)=some cs.size):(results fn tmps).run P w = .ok (.tuple #[.agg cs,tmps.getD u undef]) w:=by
 have:=run_loadVar_row w g t' ty cs fr d hg hu hd hi
 have ha:(asAddr (.pointer (some ⟨g,0,none⟩))).run P w = .ok ⟨g,0,none⟩ w:=rfl
 have hp':tmps[t]?.getD undef = .pointer (some ⟨g,0,none⟩):=by simpa using hp
 simp[results,h,hp',ha,this,Sem.run_bind]
theorem zg9:(Tryz.prog.info? 222).map (·.size)=some 5:=by kernel_rfl
theorem zqq {w:World}{b1 L c:Nat}{A:Option Addr}{kind:Int}(name:ByteArray)(vy:Nat)(h:Own w b1 (.slice A L c) (bodyL (nums name) vy []))(hn:name.size≤20)(hn0:0<name.size)(hv:vy<2147483648)(hk:kind=2∨kind=3)(hst:strOf (nums name)=name)
  (hIs:∀ W:World,Calls Tryz.prog 82 #[.string name] W fun e w'=>e = .returned (.bool true)∧Below W.heap.size W w') :
  Calls Tryz.prog 72 #[.int .i64 kind,.slice A L c] w fun e w'=>e = .returned (.tuple #[.agg #[.int .i64 kind,.string name,.int .i64 (vy:Int),.int .i64 0,.slice none 0 0],.bool true])∧Below w.heap.size w w':=by
 have hk1:(kind == 4)=false:=by simp;omega
 have hk2:(kind == 1)=false:=by simp;omega
 have hk3:(kind == 5)=false:=by simp;omega
 have H:=kA h
 have HST:=kA hst
 have HIS:=kA hIs
 clear h hst hIs
 go_enter Tryz.func72,Tryz.ntmps72
 go_upto_region 2 with fail
 have HN:Hid (Blk ((w.alloc (.cells #[.int .i64 0,.string ⟨#[]⟩,.int .i64 0,.int .i64 0,.slice none 0 0] 222)).alloc (.cells #[.int .i64 kind,.string ⟨#[]⟩,.int .i64 0,.int .i64 0,.slice none 0 0] 222)) (w.heap.size+1) 222 #[.int .i64 kind,.string ⟨#[]⟩,.int .i64 0,.int .i64 0,.slice none 0 0]):=kA (by
  have:=Blk.new (w.alloc (.cells #[.int .i64 0,.string ⟨#[]⟩,.int .i64 0,.int .i64 0,.slice none 0 0] 222)) 222 #[.int .i64 kind,.string ⟨#[]⟩,.int .i64 0,.int .i64 0,.slice none 0 0]
  rwa[World.size_alloc] at this)
 have HZ:Hid (Blk ((w.alloc (.cells #[.int .i64 0,.string ⟨#[]⟩,.int .i64 0,.int .i64 0,.slice none 0 0] 222)).alloc (.cells #[.int .i64 kind,.string ⟨#[]⟩,.int .i64 0,.int .i64 0,.slice none 0 0] 222)) w.heap.size 222 #[.int .i64 0,.string ⟨#[]⟩,.int .i64 0,.int .i64 0,.slice none 0 0]):=kA ((Blk.new w _ _).alloc _)
 have HB:Hid (Below w.heap.size w ((w.alloc (.cells #[.int .i64 0,.string ⟨#[]⟩,.int .i64 0,.int .i64 0,.slice none 0 0] 222)).alloc (.cells #[.int .i64 kind,.string ⟨#[]⟩,.int .i64 0,.int .i64 0,.slice none 0 0] 222))):=kA ((Below.new1 w _).alloc (by simp) _)
 have HS:Hid (((w.alloc (.cells #[.int .i64 0,.string ⟨#[]⟩,.int .i64 0,.int .i64 0,.slice none 0 0] 222)).alloc (.cells #[.int .i64 kind,.string ⟨#[]⟩,.int .i64 0,.int .i64 0,.slice none 0 0] 222)).heap.size=w.heap.size+2):=kA (by simp)
 generalize (w.alloc (.cells #[.int .i64 0,.string ⟨#[]⟩,.int .i64 0,.int .i64 0,.slice none 0 0] 222)).alloc (.cells #[.int .i64 kind,.string ⟨#[]⟩,.int .i64 0,.int .i64 0,.slice none 0 0] 222)=W2 at HN HZ HB HS ⊢
 have HLB:Hid ((bodyL (nums name) vy []).length≤2000):=kA (by
  have:=zaj name;have:=zah (nums name);have:=zah (mkL vy);unfold bodyL;simp[mkL] at *;omega)
 go_upto_region 4 with (first
  |(go_at_call 78;refine (zfr (zam H.out HB.out) (by have:=HLB.out;omega)).mono ?_;rintro e w3 ⟨g,A1,L1,c1,rfl,hr,hg,hb⟩;rw[HS.out] at hr hg;have HR:=kA hr;have HG:=kA hg;have HN:=kA (zab HN.out hb);have HZ:=kA (zab HZ.out hb);have HB:=kA (HB.out.trans (hb.mono HB.out.size));clear hr hg hb)
  |(go_at_call 175;(refine (zbg (xs:=nums name) (ys:=textL (mkL vy)++[]) 20 HR.out (by rw[zaj];omega) (by rw[zaj];omega) (by rw[zaj];omega) (by rw[HR.out.len];have:=HLB.out;omega)).mono ?_);rintro e w4 ⟨rfl,A2,L2,c2,hr,ha⟩;rw[HST.out];dsimp only;have hg:=HG.out;have HR:=kA hr;have HN:=kA (HN.out.kept ha (by omega));have HZ:=kA (HZ.out.kept ha (by omega));have HB:=kA (HB.out.trans (ha.below (fun k hk=>by omega) HB.out.size));obtain ⟨⟨k0,k1,k2,k3,k4⟩,fz⟩:=za2 HN.out;clear hr ha hg))
 have hg:=HG.out
 have HR5:=kA (HR.out.far (p:=⟨w.heap.size+1,1,none⟩) (by show w.heap.size+1<w.heap.size+2;omega) (by show w.heap.size+1≠g;omega) (.string name))
 have HN5:=kA (show Blk _ _ _ #[.int .i64 kind,.string name,.int .i64 0,.int .i64 0,.slice none 0 0] from HN.out.set_ 1 (.string name))
 have HZ5:=kA (HZ.out.far (p:=⟨w.heap.size+1,1,none⟩) (by show w.heap.size≠w.heap.size+1;omega) (.string name))
 have HB5:=kA (HB.out.setCell (p:=⟨w.heap.size+1,1,none⟩) (by show w.heap.size≤w.heap.size+1;omega) (.string name))
 clear HR HN HZ HB hg k0 k1 k2 k3 k4 fz
 generalize World.setCell _ _ _=W5 at HR5 HN5 HZ5 HB5 ⊢
 go_upto_region 6 with (first
  |(go_at_call 175;refine (zbg (xs:=mkL vy) (ys:=[]) 4 HR5.out (by simp[mkL]) (by simp[mkL]) (by simp[mkL]) (by rw[HR5.out.len];have:=zah (mkL vy);simp[mkL] at *;omega)).mono ?_;rintro e w6 ⟨rfl,A3,L3,c3,hr,ha⟩;dsimp only;have hg:=HG.out;have HR6:=kA hr;have HN6:=kA (HN5.out.kept ha (by omega));have HZ6:=kA (HZ5.out.kept ha (by omega));have HB6:=kA (HB5.out.trans (ha.below (fun k hk=>by omega) HB5.out.size));clear hr ha hg)
  |(go_at_call 176;refine (zdj vy hv).mono ?_;rintro e w7 ⟨rfl,hb⟩;dsimp only;have HR7:=kA (HR6.out.below hb);have HN7:=kA (zab HN6.out hb);have HZ7:=kA (zab HZ6.out hb);have HB7:=kA (HB6.out.trans (hb.mono HB6.out.size));obtain ⟨⟨k0,k1,k2,k3,k4⟩,fz⟩:=za2 HN7.out;clear hb))
 have hg:=HG.out
 have HR8:=kA (HR7.out.far (p:=⟨w.heap.size+1,2,none⟩) (by show w.heap.size+1<w.heap.size+2;omega) (by show w.heap.size+1≠g;omega) (.int .i64 (vy:Int)))
 have HN8:=kA (show Blk _ _ _ #[.int .i64 kind,.string name,.int .i64 (vy:Int),.int .i64 0,.slice none 0 0] from HN7.out.set_ 2 (.int .i64 (vy:Int)))
 have HZ8:=kA (HZ7.out.far (p:=⟨w.heap.size+1,2,none⟩) (by show w.heap.size≠w.heap.size+1;omega) (.int .i64 (vy:Int)))
 have HB8:=kA (HB7.out.setCell (p:=⟨w.heap.size+1,2,none⟩) (by show w.heap.size≤w.heap.size+1;omega) (.int .i64 (vy:Int)))
 clear HR5 HN5 HZ5 HB5 HR6 HN6 HZ6 HB6 HR7 HN7 HZ7 HB7 hg k0 k1 k2 k3 k4 fz
 generalize World.setCell _ _ _=W8 at HR8 HN8 HZ8 HB8 ⊢
 obtain ⟨⟨k0,k1,k2,k3,k4⟩,fz⟩:=za2 HN8.out
 have hL0:L3=0:=HR8.out.len
 have HL0:=kA hL0
 clear hL0
 go_wp2_with (first
  |(go_at_call 177;refine (zfs HR8.out).mono ?_;rintro e w9 ⟨rfl,rfl⟩)
  |(go_at_call 178;refine (zem HR8.out).mono ?_;rintro e w9 ⟨rfl,rfl⟩;rw[HL0.out];dsimp only)
  |(go_at_call 82;refine (HIS.out _).mono ?_;rintro e w9 ⟨rfl,hb⟩;have HN9:=kA (zab HN8.out hb);have HZ9:=kA (zab HZ8.out hb);have HB9:=kA (HB8.out.trans (hb.mono HB8.out.size));obtain ⟨⟨m0,m1,m2,m3,m4⟩,mz⟩:=za2 HN9.out;obtain ⟨⟨n0,n1,n2,n3,n4⟩,nz⟩:=za2 HZ9.out;clear hb))
 all_goals
  refine bodyPost_ret (zbs rfl _ _ w.heap.size #[.int .i64 kind,.string name,.int .i64 (vy:Int),.int .i64 0,.slice none 0 0] _ _ rfl (show Blk _ _ _ _ from (((((HZ9.out.set_ 0 (.int .i64 kind)).set_ 1 (.string name)).set_ 2 (.int .i64 (vy:Int))).set_ 3 (.int .i64 0)).set_ 4 (.slice none 0 0))) Tryz.underlying222 rfl zg9) rfl ⟨rfl,?_⟩
  exact ((((HB9.out.setCell (p:=⟨w.heap.size,0,none⟩) (kJ _) _).setCell (p:=⟨w.heap.size,1,none⟩) (kJ _) _).setCell (p:=⟨w.heap.size,2,none⟩) (kJ _) _).setCell (p:=⟨w.heap.size,3,none⟩) (kJ _) _).setCell (p:=⟨w.heap.size,4,none⟩) (kJ _) _
theorem zl1:∃ z:Array Value,(∀ W,(zeroValue 90).run Tryz.prog W = .ok (.agg z) W)∧z.size=59:=by
 have h:(match Tryz.prog.info? 90 with
  |some i=>(match i.zero with
   |some (.agg z)=>z.size == 59
   |_=>false)
  |none=>false)=true:=by kernel_rfl
 split at h
 ·rename_i i hi
  split at h
  ·rename_i z hz
   exact ⟨z,fun W=>by simp[zeroValue,typeInfo,hi,hz],by simpa using h⟩
  ·cases h
 ·cases h
theorem zba:(Tryz.prog.info? 90).map (·.size)=some 59:=by kernel_rfl
theorem zev {w:World}{g:Nat}{t:TypeId}{old cs:Array Value}(h:Blk w g t old)(hi:(Tryz.prog.info? t).map (·.size)=some cs.size)(ho:old.size=cs.size)(h1:cs.all (·.oneCell')=true) :
  (storeCells ⟨g,0,none⟩ cs.toList 0).run Tryz.prog w = .ok () (w.setRow g cs):=by
 have:=run_storeVar_row (P:=Tryz.prog) w g t t old cs h hi ho h1
 cases hq:Tryz.prog.info? t with
 |none=>simp[hq] at hi
 |some i =>
  have hs:cs.size=i.size:=by simp[hq] at hi;omega
  simpa [storeVar,sizeOf,typeInfo,hq,Value.cells,hs] using this
theorem _root_.Go.Proofs.YtemgclnkgieldaaGreatDoor.Oc.Rdr.drewR {w:World}{B g L c:Nat}{A:Option Addr}{xs:List Int}(h:Rdr w B g A L c xs):Rdr w.drew B g A L c xs:=⟨h.blk,h.rb,h.len,h.cap,h.ne,h.lo⟩
theorem zgu {w w2:World}{B g:Nat}{cs:Array Value}(h:Below B w w2)(hB:B≤g):Below B w (w2.setRow g cs):=below_setRow h hB cs
def RbB (W:World)(g c:Nat)(ms:List Int):Prop:=∃ (cur:Array Value) (fr:Nat×Nat),W.heap[g]? = some (.cells cur 5 fr)∧cur.size=c∧ms.length≤c∧cur.toList.take ms.length=ms.map (Value.int .u8)
theorem RbB.keep {W W':World}{g c:Nat}{ms:List Int}(h:RbB W g c ms)(hk:W'.heap[g]? = W.heap[g]?):RbB W' g c ms:=by
 obtain ⟨cur,fr,h1,h2⟩:=h
 exact ⟨cur,fr,hk.trans h1,h2⟩
theorem RbB.set_far {W:World}{g c:Nat}{ms:List Int}(h:RbB W g c ms){p:Addr}(hp:g≠p.block)(v:Value):RbB (W.setCell p v) g c ms:=h.keep (Below.heap_setCell W p v g hp)
theorem RbB.below {W W':World}{g c:Nat}{ms:List Int}(h:RbB W g c ms)(hb:Below W.heap.size W W'):RbB W' g c ms:=by
 have h0:=h
 obtain ⟨cur,fr,h1,_⟩:=h0
 exact h.keep (hb.block _ (Array.getElem?_eq_some_iff.1 h1).1)
def ReadOk (ms:List Int):Prop:=∀ (W:World) (g c:Nat),RbB W g c ms→0<ms.length→Calls Tryz.prog 35 #[.slice (some ⟨g,0,none⟩) ms.length c] W fun e w'=>∃ cs:Array Value,e = .returned (.tuple #[.agg cs,.int .i64 0])∧cs.size=59∧cs.all (·.oneCell')=true∧Below W.heap.size W w'
theorem zl2 (w:World)(ms:List Int)(hb:IsB ms):∃ (c:Nat) (X:Obj),(convert 9 31 (.string (strOf ms))).run Tryz.prog w = .ok (.slice (some ⟨w.heap.size,0,none⟩) ms.length c) (w.drew.alloc X)∧ms.length≤c∧Rb (w.drew.alloc X) (some ⟨w.heap.size,0,none⟩) ms∧RbB (w.drew.alloc X) w.heap.size c ms:=by
 have h:=run_bytes_of_string (P:=Tryz.prog) w 9 31 5 (strOf ms) Tryz.underlying9 Tryz.underlying31 Tryz.underlying5
 rw[zbb] at h
 refine ⟨_,_,h,grownCap_ge _ _ _ _,fun hp=>⟨_,rfl,by simp,fun j u hj=>?_⟩,⟨_,_,heap_alloc_new w.drew _,?_,grownCap_ge _ _ _ _,?_⟩⟩
 rotate_left
 ·have h1:=grownCap_ge w ms.length 0 5
  have h2:(strOf ms).data.size=ms.length:=zbb ms
  have h4:(strOf ms).size=ms.length:=zbb ms
  simp[bytesRow,h2,h4]
  omega
 ·have h2:(strOf ms).data.size=ms.length:=zbb ms
  have h3:(strOf ms).data.toList=ms.map fun n=>UInt8.ofNat n.toNat:=zek ms
  unfold bytesRow
  rw[Array.toList_append,List.take_append_of_le_length (by simp[h2]),Array.toList_map,h3,qK,List.take_of_length_le (by simp)]
  refine List.map_congr_left fun y hy=>?_
  obtain ⟨h0,h1⟩:=hb y hy
  have e2:(((UInt8.ofNat y.toNat).toNat:Nat):Int)=y:=by
   rw[UInt8.toNat_ofNat',qM (by omega)]
   omega
  show Value.int .u8 (((UInt8.ofNat y.toNat).toNat:Nat):Int) = .int .u8 y
  rw[e2]
 have e:(⟨w.heap.size,0,none⟩:Addr).add j=⟨w.heap.size,j,none⟩:=by unfold Addr.add;simp;intro h;exact h.symm
 rw[e]
 obtain ⟨c,hc⟩:∃ c,c=grownCap w ms.length 0 5:=⟨_,rfl⟩
 rw[← hc]
 refine (cell_of_row _ w.heap.size j (bytesRow (strOf ms) c) 5 _ (heap_alloc_new w.drew _)).trans ?_
 unfold bytesRow
 have hlt:j<ms.length:=by have:=(kK.1 hj).1;simpa using this
 have hsz:(strOf ms).data.size=ms.length:=zbb ms
 rw[Array.getElem?_append_left (by rw[Array.size_map,hsz];exact hlt), ← Array.getElem?_toList,Array.toList_map,zek]
 rw[qK, ← hj,List.getElem?_map,List.getElem?_map,kV hlt]
 obtain ⟨h0,h1⟩:=hb _ (List.getElem_mem hlt)
 generalize ms[j]=y at h0 h1 ⊢
 have e2:(((UInt8.ofNat y.toNat).toNat:Nat):Int)=y:=by
  rw[UInt8.toNat_ofNat',qM (by omega)]
  omega
 show some (Value.int .u8 (((UInt8.ofNat y.toNat).toNat:Nat):Int))=some (.int .u8 y)
 rw[e2]
theorem zvm {w:World}{b1 L c:Nat}{A:Option Addr}{kind:Int}(name:ByteArray)(vy:Nat){ms:List Int}(h:Own w b1 (.slice A L c) (bodyL (nums name) vy (textL ms)))(hmb:IsB ms)(hm0:0<ms.length)(hml:ms.length≤12000)(hRead:ReadOk ms)(hn:name.size≤20)(hn0:0<name.size)(hv:vy<2147483648)(hk:kind=1)(hst:strOf (nums name)=name)
  (hIs:∀ W:World,Calls Tryz.prog 82 #[.string name] W fun e w'=>e = .returned (.bool true)∧Below W.heap.size W w') :
  Calls Tryz.prog 72 #[.int .i64 kind,.slice A L c] w fun e w'=>∃ gm c',e = .returned (.tuple #[.agg #[.int .i64 kind,.string name,.int .i64 (vy:Int),.int .i64 0,.slice (some ⟨gm,0,none⟩) ms.length c'],.bool true])∧Rb w' (some ⟨gm,0,none⟩) ms∧RbB w' gm c' ms∧w.heap.size≤gm∧Below w.heap.size w w':=by
 have hk1:(kind == 4)=false:=by simp;omega
 have hk2:(kind == 1)=true:=by simp;omega
 clear hk
 have HRD:=kA hRead
 have HMB:=kA hmb
 obtain ⟨zM,hzM,hzs⟩:=zl1
 have HZS:=kA hzs
 obtain ⟨M,hM⟩:∃ M,M=ms.length:=⟨_,rfl⟩
 have HML:=kA hM
 clear hRead hmb hzs
 have H:=kA h
 have HST:=kA hst
 have HIS:=kA hIs
 clear h hst hIs
 go_enter Tryz.func72,Tryz.ntmps72
 go_upto_region 2 with fail
 have HN:Hid (Blk ((w.alloc (.cells #[.int .i64 0,.string ⟨#[]⟩,.int .i64 0,.int .i64 0,.slice none 0 0] 222)).alloc (.cells #[.int .i64 kind,.string ⟨#[]⟩,.int .i64 0,.int .i64 0,.slice none 0 0] 222)) (w.heap.size+1) 222 #[.int .i64 kind,.string ⟨#[]⟩,.int .i64 0,.int .i64 0,.slice none 0 0]):=kA (by
  have:=Blk.new (w.alloc (.cells #[.int .i64 0,.string ⟨#[]⟩,.int .i64 0,.int .i64 0,.slice none 0 0] 222)) 222 #[.int .i64 kind,.string ⟨#[]⟩,.int .i64 0,.int .i64 0,.slice none 0 0]
  rwa[World.size_alloc] at this)
 have HZ:Hid (Blk ((w.alloc (.cells #[.int .i64 0,.string ⟨#[]⟩,.int .i64 0,.int .i64 0,.slice none 0 0] 222)).alloc (.cells #[.int .i64 kind,.string ⟨#[]⟩,.int .i64 0,.int .i64 0,.slice none 0 0] 222)) w.heap.size 222 #[.int .i64 0,.string ⟨#[]⟩,.int .i64 0,.int .i64 0,.slice none 0 0]):=kA ((Blk.new w _ _).alloc _)
 have HB:Hid (Below w.heap.size w ((w.alloc (.cells #[.int .i64 0,.string ⟨#[]⟩,.int .i64 0,.int .i64 0,.slice none 0 0] 222)).alloc (.cells #[.int .i64 kind,.string ⟨#[]⟩,.int .i64 0,.int .i64 0,.slice none 0 0] 222))):=kA ((Below.new1 w _).alloc (by simp) _)
 have HS:Hid (((w.alloc (.cells #[.int .i64 0,.string ⟨#[]⟩,.int .i64 0,.int .i64 0,.slice none 0 0] 222)).alloc (.cells #[.int .i64 kind,.string ⟨#[]⟩,.int .i64 0,.int .i64 0,.slice none 0 0] 222)).heap.size=w.heap.size+2):=kA (by simp)
 generalize (w.alloc (.cells #[.int .i64 0,.string ⟨#[]⟩,.int .i64 0,.int .i64 0,.slice none 0 0] 222)).alloc (.cells #[.int .i64 kind,.string ⟨#[]⟩,.int .i64 0,.int .i64 0,.slice none 0 0] 222)=W2 at HN HZ HB HS ⊢
 have HLB:Hid ((bodyL (nums name) vy (textL ms)).length≤15000):=kA (by
  have:=zaj name;have:=zah (nums name);have:=zah (mkL vy);have:=zah ms;unfold bodyL;simp[mkL] at *;omega)
 go_upto_region 4 with (first
  |(go_at_call 78;refine (zfr (zam H.out HB.out) (by have:=HLB.out;omega)).mono ?_;rintro e w3 ⟨g,A1,L1,c1,rfl,hr,hg,hb⟩;rw[HS.out] at hr hg;have HR:=kA hr;have HG:=kA hg;have HN:=kA (zab HN.out hb);have HZ:=kA (zab HZ.out hb);have HB:=kA (HB.out.trans (hb.mono HB.out.size));clear hr hg hb)
  |(go_at_call 175;(refine (zbg (xs:=nums name) (ys:=textL (mkL vy)++textL ms) 20 HR.out (by rw[zaj];omega) (by rw[zaj];omega) (by rw[zaj];omega) (by rw[HR.out.len];have:=HLB.out;omega)).mono ?_);rintro e w4 ⟨rfl,A2,L2,c2,hr,ha⟩;rw[HST.out];dsimp only;have hg:=HG.out;have HR:=kA hr;have HN:=kA (HN.out.kept ha (by omega));have HZ:=kA (HZ.out.kept ha (by omega));have HB:=kA (HB.out.trans (ha.below (fun k hk=>by omega) HB.out.size));obtain ⟨⟨k0,k1,k2,k3,k4⟩,fz⟩:=za2 HN.out;clear hr ha hg))
 have hg:=HG.out
 have HR5:=kA (HR.out.far (p:=⟨w.heap.size+1,1,none⟩) (by show w.heap.size+1<w.heap.size+2;omega) (by show w.heap.size+1≠g;omega) (.string name))
 have HN5:=kA (show Blk _ _ _ #[.int .i64 kind,.string name,.int .i64 0,.int .i64 0,.slice none 0 0] from HN.out.set_ 1 (.string name))
 have HZ5:=kA (HZ.out.far (p:=⟨w.heap.size+1,1,none⟩) (by show w.heap.size≠w.heap.size+1;omega) (.string name))
 have HB5:=kA (HB.out.setCell (p:=⟨w.heap.size+1,1,none⟩) (by show w.heap.size≤w.heap.size+1;omega) (.string name))
 clear HR HN HZ HB hg k0 k1 k2 k3 k4 fz
 generalize World.setCell _ _ _=W5 at HR5 HN5 HZ5 HB5 ⊢
 go_upto_region 6 with (first
  |(go_at_call 175;refine (zbg (xs:=mkL vy) (ys:=textL ms++[]) 4 (by rw[qI];exact HR5.out) (by simp[mkL]) (by simp[mkL]) (by simp[mkL]) (by rw[HR5.out.len];have:=zah (mkL vy);have:=zah ms;simp[mkL] at *;omega)).mono ?_;rintro e w6 ⟨rfl,A3,L3,c3,hr,ha⟩;dsimp only;have hg:=HG.out;have HR6:=kA hr;have HN6:=kA (HN5.out.kept ha (by omega));have HZ6:=kA (HZ5.out.kept ha (by omega));have HB6:=kA (HB5.out.trans (ha.below (fun k hk=>by omega) HB5.out.size));clear hr ha hg)
  |(go_at_call 176;refine (zdj vy hv).mono ?_;rintro e w7 ⟨rfl,hb⟩;dsimp only;have HR7:=kA (HR6.out.below hb);have HN7:=kA (zab HN6.out hb);have HZ7:=kA (zab HZ6.out hb);have HB7:=kA (HB6.out.trans (hb.mono HB6.out.size));obtain ⟨⟨k0,k1,k2,k3,k4⟩,fz⟩:=za2 HN7.out;clear hb))
 have hg:=HG.out
 have HR8:=kA (HR7.out.far (p:=⟨w.heap.size+1,2,none⟩) (by show w.heap.size+1<w.heap.size+2;omega) (by show w.heap.size+1≠g;omega) (.int .i64 (vy:Int)))
 have HN8:=kA (show Blk _ _ _ #[.int .i64 kind,.string name,.int .i64 (vy:Int),.int .i64 0,.slice none 0 0] from HN7.out.set_ 2 (.int .i64 (vy:Int)))
 have HZ8:=kA (HZ7.out.far (p:=⟨w.heap.size+1,2,none⟩) (by show w.heap.size≠w.heap.size+1;omega) (.int .i64 (vy:Int)))
 have HB8:=kA (HB7.out.setCell (p:=⟨w.heap.size+1,2,none⟩) (by show w.heap.size≤w.heap.size+1;omega) (.int .i64 (vy:Int)))
 clear HR5 HN5 HZ5 HB5 HR6 HN6 HZ6 HB6 HR7 HN7 HZ7 HB7 hg k0 k1 k2 k3 k4 fz
 generalize World.setCell _ _ _=W8 at HR8 HN8 HZ8 HB8 ⊢
 obtain ⟨⟨k0,k1,k2,k3,k4⟩,fz⟩:=za2 HN8.out
 go_upto_region 11 with (first
  |(go_at_call 175;refine (zbg (xs:=ms) (ys:=[]) 4194304 HR8.out hm0 (by omega) (by omega) (by rw[HR8.out.len];have:=zah ms;simp at *;omega)).mono ?_;rintro e w9 ⟨rfl,A4,L4,c4,hr,ha⟩;dsimp only;have hg:=HG.out;have HR9:=kA hr;have HN9:=kA (HN8.out.kept ha (by omega));have HZ9:=kA (HZ8.out.kept ha (by omega));have HB9:=kA (HB8.out.trans (ha.below (fun k hk=>by omega) HB8.out.size));obtain ⟨cm,X,hcv,hcm,hrm,hrb⟩:=zl2 w9 ms HMB.out;have HRB:=kA hrb;clear hrb;have HCM:=kA hcm;have HRM:=kA hrm;obtain ⟨⟨m0,m1,m2,m3,m4⟩,mz⟩:=za2 (show Blk ((w9.alloc X).drew) _ _ _ from HN9.out.alloc X);clear hr ha hg hcm hrm))
 have hg:=HG.out
 have hsz9:w.heap.size+2≤w9.heap.size:=by have h1:=HN9.out.lt;have h2:=HR9.out.blk.lt;omega
 have HR10:=kA (show Rdr (((w9.alloc X).setCell ⟨w.heap.size+1,4,none⟩ (.slice (some ⟨w9.heap.size,0,none⟩) ms.length cm)).drew) _ _ _ _ _ _ from Rdr.far (HR9.out.below (Below.new1 w9 X)).drewR (p:=⟨w.heap.size+1,4,none⟩) (by show w.heap.size+1<w.heap.size+2;omega) (by show w.heap.size+1≠g;omega) _)
 have HN10:=kA (show Blk (((w9.alloc X).setCell ⟨w.heap.size+1,4,none⟩ (.slice (some ⟨w9.heap.size,0,none⟩) ms.length cm)).drew) _ _ #[.int .i64 kind,.string name,.int .i64 (vy:Int),.int .i64 0,.slice (some ⟨w9.heap.size,0,none⟩) ms.length cm] from (show Blk ((w9.alloc X).drew) _ _ _ from HN9.out.alloc X).set_ 4 _)
 have HZ10:=kA (show Blk (((w9.alloc X).setCell ⟨w.heap.size+1,4,none⟩ (.slice (some ⟨w9.heap.size,0,none⟩) ms.length cm)).drew) _ _ _ from (show Blk ((w9.alloc X).drew) _ _ _ from HZ9.out.alloc X).far (p:=⟨w.heap.size+1,4,none⟩) (by show w.heap.size≠w.heap.size+1;omega) _)
 have HB10:=kA (show Below w.heap.size w (((w9.alloc X).setCell ⟨w.heap.size+1,4,none⟩ (.slice (some ⟨w9.heap.size,0,none⟩) ms.length cm)).drew) from (show Below w.heap.size w ((w9.alloc X).drew) from (HB9.out.alloc HB9.out.size X).drew).setCell (p:=⟨w.heap.size+1,4,none⟩) (by show w.heap.size≤w.heap.size+1;omega) (.slice (some ⟨w9.heap.size,0,none⟩) ms.length cm))
 have HM10:=kA (show Rb (((w9.alloc X).setCell ⟨w.heap.size+1,4,none⟩ (.slice (some ⟨w9.heap.size,0,none⟩) ms.length cm)).drew) (some ⟨w9.heap.size,0,none⟩) ms from Rb.set_far (show Rb ((w9.alloc X).drew) (some ⟨w9.heap.size,0,none⟩) ms from HRM.out) (p:=⟨w.heap.size+1,4,none⟩) (fun ad e=>by injection e with e;subst e;show w9.heap.size≠w.heap.size+1;omega) (.slice (some ⟨w9.heap.size,0,none⟩) ms.length cm))
 have HMB10:=kA (show RbB (((w9.alloc X).setCell ⟨w.heap.size+1,4,none⟩ (.slice (some ⟨w9.heap.size,0,none⟩) ms.length cm)).drew) w9.heap.size cm ms from HRB.out.keep (Below.heap_setCell (w9.alloc X) ⟨w.heap.size+1,4,none⟩ _ w9.heap.size (by show w9.heap.size≠w.heap.size+1;omega)))
 clear HR8 HN8 HZ8 HB8 HR9 HN9 HZ9 HB9 k0 k1 k2 k3 k4 fz m0 m1 m2 m3 m4 mz HRM HRB hcv
 generalize ((w9.alloc X).setCell ⟨w.heap.size+1,4,none⟩ (.slice (some ⟨w9.heap.size,0,none⟩) ms.length cm)).drew=W10 at HR10 HN10 HZ10 HB10 HM10 HMB10 ⊢
 obtain ⟨gm,hgm⟩:∃ gm,gm=w9.heap.size:=⟨_,rfl⟩
 rw[← hgm] at HN10 HM10 HMB10 hsz9 ⊢
 clear hgm
 obtain ⟨⟨k0,k1,k2,k3,k4⟩,fz⟩:=za2 HN10.out
 have hL0:L4=0:=HR10.out.len
 have HL0:=kA hL0
 clear hL0
 go_upto_region 12 with (first
  |(go_at_call 35;refine (HRD.out _ _ _ HMB10.out hm0).mono ?_;rintro e w11 ⟨cs,rfl,hcs,hc1,hb⟩;dsimp only;have HN11:=kA (zab HN10.out hb);have HZ11:=kA (zab HZ10.out hb);have HR11:=kA (HR10.out.below hb);have HM11:=kA (HM10.out.below hb);have HMB11:=kA (HMB10.out.below hb);have HB11:=kA (HB10.out.trans (hb.mono HB10.out.size));have hst:=zev (Blk.new w11 90 zM) (hcs.symm ▸ zba) (HZS.out.trans hcs.symm) hc1;have HCS:=kA hcs;clear hb hc1))
 have HBX:=kA (zgu (cs:=cs) (Below.new1 w11 (.cells zM 90)) (kJ _))
 have HR12:=kA (HR11.out.below HBX.out)
 have HN12:=kA (zab HN11.out HBX.out)
 have HZ12:=kA (zab HZ11.out HBX.out)
 have HM12:=kA (HM11.out.below HBX.out)
 have HMB12:=kA (HMB11.out.below HBX.out)
 have HB12:=kA (HB11.out.trans (HBX.out.mono HB11.out.size))
 clear HR10 HN10 HZ10 HB10 HM10 HMB10 HR11 HN11 HZ11 HB11 HM11 HMB11 HBX hst k0 k1 k2 k3 k4 fz
 generalize World.setRow _ _ _=W12 at HR12 HN12 HZ12 HB12 HM12 HMB12 ⊢
 obtain ⟨⟨k0,k1,k2,k3,k4⟩,fz⟩:=za2 HN12.out
 go_wp2_with (first
  |(go_at_call 177;refine (zfs HR12.out).mono ?_;rintro e w13 ⟨rfl,rfl⟩)
  |(go_at_call 178;refine (zem HR12.out).mono ?_;rintro e w13 ⟨rfl,rfl⟩;rw[HL0.out];dsimp only)
  |(go_at_call 82;refine (HIS.out _).mono ?_;rintro e w13 ⟨rfl,hb⟩;have HN13:=kA (zab HN12.out hb);have HZ13:=kA (zab HZ12.out hb);have HM13:=kA (HM12.out.below hb);have HMB13:=kA (HMB12.out.below hb);have HB13:=kA (HB12.out.trans (hb.mono HB12.out.size));obtain ⟨⟨m0,m1,m2,m3,m4⟩,mz⟩:=za2 HN13.out;obtain ⟨⟨n0,n1,n2,n3,n4⟩,nz⟩:=za2 HZ13.out;clear hb))
 refine bodyPost_ret (zbs rfl _ _ w.heap.size #[.int .i64 kind,.string name,.int .i64 (vy:Int),.int .i64 0,.slice (some ⟨gm,0,none⟩) ms.length cm] _ _ rfl (show Blk _ _ _ _ from (((((HZ13.out.set_ 0 (.int .i64 kind)).set_ 1 (.string name)).set_ 2 (.int .i64 (vy:Int))).set_ 3 (.int .i64 0)).set_ 4 (.slice (some ⟨gm,0,none⟩) ms.length cm))) Tryz.underlying222 rfl zg9) rfl ⟨gm,cm,rfl,?_,?_,by omega,?_⟩
 ·have hne:∀ ad:Addr,some (⟨gm,0,none⟩:Addr)=some ad→ad.block≠w.heap.size:=fun ad e=>by injection e with e;subst e;show gm≠w.heap.size;omega
  exact Rb.set_far (p:=⟨w.heap.size,4,none⟩) (Rb.set_far (p:=⟨w.heap.size,3,none⟩) (Rb.set_far (p:=⟨w.heap.size,2,none⟩) (Rb.set_far (p:=⟨w.heap.size,1,none⟩) (Rb.set_far (p:=⟨w.heap.size,0,none⟩) HM13.out hne _) hne _) hne _) hne _) hne _
 ·have hne:gm≠w.heap.size:=by omega
  exact ((((HMB13.out.set_far (p:=⟨w.heap.size,0,none⟩) hne _).set_far (p:=⟨w.heap.size,1,none⟩) hne _).set_far (p:=⟨w.heap.size,2,none⟩) hne _).set_far (p:=⟨w.heap.size,3,none⟩) hne _).set_far (p:=⟨w.heap.size,4,none⟩) hne _
 ·exact ((((HB13.out.setCell (p:=⟨w.heap.size,0,none⟩) (kJ _) _).setCell (p:=⟨w.heap.size,1,none⟩) (kJ _) _).setCell (p:=⟨w.heap.size,2,none⟩) (kJ _) _).setCell (p:=⟨w.heap.size,3,none⟩) (kJ _) _).setCell (p:=⟨w.heap.size,4,none⟩) (kJ _) _
theorem zs7 {w:World}{b1 L c:Nat}{A:Option Addr}{kind:Int}(name:ByteArray)(vy:Nat){ms:List Int}(h:Own w b1 (.slice A L c) (bodyL (nums name) vy (textL ms)))(hmb:IsB ms)(hm0:0<ms.length)(hml:ms.length≤12000)(hRead:ReadOk ms)(hn:name.size≤20)(hn0:0<name.size)(hv:vy<2147483648)(hk:kind=5)(hst:strOf (nums name)=name)
  (hIs:∀ W:World,Calls Tryz.prog 82 #[.string name] W fun e w'=>e = .returned (.bool true)∧Below W.heap.size W w') :
  Calls Tryz.prog 72 #[.int .i64 kind,.slice A L c] w fun e w'=>∃ gm c',e = .returned (.tuple #[.agg #[.int .i64 kind,.string name,.int .i64 (vy:Int),.int .i64 0,.slice (some ⟨gm,0,none⟩) ms.length c'],.bool true])∧Rb w' (some ⟨gm,0,none⟩) ms∧RbB w' gm c' ms∧w.heap.size≤gm∧Below w.heap.size w w':=by
 have hk1:(kind == 4)=false:=by simp;omega
 have hk2:(kind == 1)=false:=by simp;omega
 have hk3:(kind == 5)=true:=by simp;omega
 clear hk
 have HRD:=kA hRead
 have HMB:=kA hmb
 obtain ⟨zM,hzM,hzs⟩:=zl1
 have HZS:=kA hzs
 obtain ⟨M,hM⟩:∃ M,M=ms.length:=⟨_,rfl⟩
 have HML:=kA hM
 clear hRead hmb hzs
 have H:=kA h
 have HST:=kA hst
 have HIS:=kA hIs
 clear h hst hIs
 go_enter Tryz.func72,Tryz.ntmps72
 go_upto_region 2 with fail
 have HN:Hid (Blk ((w.alloc (.cells #[.int .i64 0,.string ⟨#[]⟩,.int .i64 0,.int .i64 0,.slice none 0 0] 222)).alloc (.cells #[.int .i64 kind,.string ⟨#[]⟩,.int .i64 0,.int .i64 0,.slice none 0 0] 222)) (w.heap.size+1) 222 #[.int .i64 kind,.string ⟨#[]⟩,.int .i64 0,.int .i64 0,.slice none 0 0]):=kA (by
  have:=Blk.new (w.alloc (.cells #[.int .i64 0,.string ⟨#[]⟩,.int .i64 0,.int .i64 0,.slice none 0 0] 222)) 222 #[.int .i64 kind,.string ⟨#[]⟩,.int .i64 0,.int .i64 0,.slice none 0 0]
  rwa[World.size_alloc] at this)
 have HZ:Hid (Blk ((w.alloc (.cells #[.int .i64 0,.string ⟨#[]⟩,.int .i64 0,.int .i64 0,.slice none 0 0] 222)).alloc (.cells #[.int .i64 kind,.string ⟨#[]⟩,.int .i64 0,.int .i64 0,.slice none 0 0] 222)) w.heap.size 222 #[.int .i64 0,.string ⟨#[]⟩,.int .i64 0,.int .i64 0,.slice none 0 0]):=kA ((Blk.new w _ _).alloc _)
 have HB:Hid (Below w.heap.size w ((w.alloc (.cells #[.int .i64 0,.string ⟨#[]⟩,.int .i64 0,.int .i64 0,.slice none 0 0] 222)).alloc (.cells #[.int .i64 kind,.string ⟨#[]⟩,.int .i64 0,.int .i64 0,.slice none 0 0] 222))):=kA ((Below.new1 w _).alloc (by simp) _)
 have HS:Hid (((w.alloc (.cells #[.int .i64 0,.string ⟨#[]⟩,.int .i64 0,.int .i64 0,.slice none 0 0] 222)).alloc (.cells #[.int .i64 kind,.string ⟨#[]⟩,.int .i64 0,.int .i64 0,.slice none 0 0] 222)).heap.size=w.heap.size+2):=kA (by simp)
 generalize (w.alloc (.cells #[.int .i64 0,.string ⟨#[]⟩,.int .i64 0,.int .i64 0,.slice none 0 0] 222)).alloc (.cells #[.int .i64 kind,.string ⟨#[]⟩,.int .i64 0,.int .i64 0,.slice none 0 0] 222)=W2 at HN HZ HB HS ⊢
 have HLB:Hid ((bodyL (nums name) vy (textL ms)).length≤15000):=kA (by
  have:=zaj name;have:=zah (nums name);have:=zah (mkL vy);have:=zah ms;unfold bodyL;simp[mkL] at *;omega)
 go_upto_region 4 with (first
  |(go_at_call 78;refine (zfr (zam H.out HB.out) (by have:=HLB.out;omega)).mono ?_;rintro e w3 ⟨g,A1,L1,c1,rfl,hr,hg,hb⟩;rw[HS.out] at hr hg;have HR:=kA hr;have HG:=kA hg;have HN:=kA (zab HN.out hb);have HZ:=kA (zab HZ.out hb);have HB:=kA (HB.out.trans (hb.mono HB.out.size));clear hr hg hb)
  |(go_at_call 175;(refine (zbg (xs:=nums name) (ys:=textL (mkL vy)++textL ms) 20 HR.out (by rw[zaj];omega) (by rw[zaj];omega) (by rw[zaj];omega) (by rw[HR.out.len];have:=HLB.out;omega)).mono ?_);rintro e w4 ⟨rfl,A2,L2,c2,hr,ha⟩;rw[HST.out];dsimp only;have hg:=HG.out;have HR:=kA hr;have HN:=kA (HN.out.kept ha (by omega));have HZ:=kA (HZ.out.kept ha (by omega));have HB:=kA (HB.out.trans (ha.below (fun k hk=>by omega) HB.out.size));obtain ⟨⟨k0,k1,k2,k3,k4⟩,fz⟩:=za2 HN.out;clear hr ha hg))
 have hg:=HG.out
 have HR5:=kA (HR.out.far (p:=⟨w.heap.size+1,1,none⟩) (by show w.heap.size+1<w.heap.size+2;omega) (by show w.heap.size+1≠g;omega) (.string name))
 have HN5:=kA (show Blk _ _ _ #[.int .i64 kind,.string name,.int .i64 0,.int .i64 0,.slice none 0 0] from HN.out.set_ 1 (.string name))
 have HZ5:=kA (HZ.out.far (p:=⟨w.heap.size+1,1,none⟩) (by show w.heap.size≠w.heap.size+1;omega) (.string name))
 have HB5:=kA (HB.out.setCell (p:=⟨w.heap.size+1,1,none⟩) (by show w.heap.size≤w.heap.size+1;omega) (.string name))
 clear HR HN HZ HB hg k0 k1 k2 k3 k4 fz
 generalize World.setCell _ _ _=W5 at HR5 HN5 HZ5 HB5 ⊢
 go_upto_region 6 with (first
  |(go_at_call 175;refine (zbg (xs:=mkL vy) (ys:=textL ms++[]) 4 (by rw[qI];exact HR5.out) (by simp[mkL]) (by simp[mkL]) (by simp[mkL]) (by rw[HR5.out.len];have:=zah (mkL vy);have:=zah ms;simp[mkL] at *;omega)).mono ?_;rintro e w6 ⟨rfl,A3,L3,c3,hr,ha⟩;dsimp only;have hg:=HG.out;have HR6:=kA hr;have HN6:=kA (HN5.out.kept ha (by omega));have HZ6:=kA (HZ5.out.kept ha (by omega));have HB6:=kA (HB5.out.trans (ha.below (fun k hk=>by omega) HB5.out.size));clear hr ha hg)
  |(go_at_call 176;refine (zdj vy hv).mono ?_;rintro e w7 ⟨rfl,hb⟩;dsimp only;have HR7:=kA (HR6.out.below hb);have HN7:=kA (zab HN6.out hb);have HZ7:=kA (zab HZ6.out hb);have HB7:=kA (HB6.out.trans (hb.mono HB6.out.size));obtain ⟨⟨k0,k1,k2,k3,k4⟩,fz⟩:=za2 HN7.out;clear hb))
 have hg:=HG.out
 have HR8:=kA (HR7.out.far (p:=⟨w.heap.size+1,2,none⟩) (by show w.heap.size+1<w.heap.size+2;omega) (by show w.heap.size+1≠g;omega) (.int .i64 (vy:Int)))
 have HN8:=kA (show Blk _ _ _ #[.int .i64 kind,.string name,.int .i64 (vy:Int),.int .i64 0,.slice none 0 0] from HN7.out.set_ 2 (.int .i64 (vy:Int)))
 have HZ8:=kA (HZ7.out.far (p:=⟨w.heap.size+1,2,none⟩) (by show w.heap.size≠w.heap.size+1;omega) (.int .i64 (vy:Int)))
 have HB8:=kA (HB7.out.setCell (p:=⟨w.heap.size+1,2,none⟩) (by show w.heap.size≤w.heap.size+1;omega) (.int .i64 (vy:Int)))
 clear HR5 HN5 HZ5 HB5 HR6 HN6 HZ6 HB6 HR7 HN7 HZ7 HB7 hg k0 k1 k2 k3 k4 fz
 generalize World.setCell _ _ _=W8 at HR8 HN8 HZ8 HB8 ⊢
 obtain ⟨⟨k0,k1,k2,k3,k4⟩,fz⟩:=za2 HN8.out
 go_upto_region 11 with (first
  |(go_at_call 175;refine (zbg (xs:=ms) (ys:=[]) 4194304 HR8.out hm0 (by omega) (by omega) (by rw[HR8.out.len];have:=zah ms;simp at *;omega)).mono ?_;rintro e w9 ⟨rfl,A4,L4,c4,hr,ha⟩;dsimp only;have hg:=HG.out;have HR9:=kA hr;have HN9:=kA (HN8.out.kept ha (by omega));have HZ9:=kA (HZ8.out.kept ha (by omega));have HB9:=kA (HB8.out.trans (ha.below (fun k hk=>by omega) HB8.out.size));obtain ⟨cm,X,hcv,hcm,hrm,hrb⟩:=zl2 w9 ms HMB.out;have HRB:=kA hrb;clear hrb;have HCM:=kA hcm;have HRM:=kA hrm;obtain ⟨⟨m0,m1,m2,m3,m4⟩,mz⟩:=za2 (show Blk ((w9.alloc X).drew) _ _ _ from HN9.out.alloc X);clear hr ha hg hcm hrm))
 have hg:=HG.out
 have hsz9:w.heap.size+2≤w9.heap.size:=by have h1:=HN9.out.lt;have h2:=HR9.out.blk.lt;omega
 have HR10:=kA (show Rdr (((w9.alloc X).setCell ⟨w.heap.size+1,4,none⟩ (.slice (some ⟨w9.heap.size,0,none⟩) ms.length cm)).drew) _ _ _ _ _ _ from Rdr.far (HR9.out.below (Below.new1 w9 X)).drewR (p:=⟨w.heap.size+1,4,none⟩) (by show w.heap.size+1<w.heap.size+2;omega) (by show w.heap.size+1≠g;omega) _)
 have HN10:=kA (show Blk (((w9.alloc X).setCell ⟨w.heap.size+1,4,none⟩ (.slice (some ⟨w9.heap.size,0,none⟩) ms.length cm)).drew) _ _ #[.int .i64 kind,.string name,.int .i64 (vy:Int),.int .i64 0,.slice (some ⟨w9.heap.size,0,none⟩) ms.length cm] from (show Blk ((w9.alloc X).drew) _ _ _ from HN9.out.alloc X).set_ 4 _)
 have HZ10:=kA (show Blk (((w9.alloc X).setCell ⟨w.heap.size+1,4,none⟩ (.slice (some ⟨w9.heap.size,0,none⟩) ms.length cm)).drew) _ _ _ from (show Blk ((w9.alloc X).drew) _ _ _ from HZ9.out.alloc X).far (p:=⟨w.heap.size+1,4,none⟩) (by show w.heap.size≠w.heap.size+1;omega) _)
 have HB10:=kA (show Below w.heap.size w (((w9.alloc X).setCell ⟨w.heap.size+1,4,none⟩ (.slice (some ⟨w9.heap.size,0,none⟩) ms.length cm)).drew) from (show Below w.heap.size w ((w9.alloc X).drew) from (HB9.out.alloc HB9.out.size X).drew).setCell (p:=⟨w.heap.size+1,4,none⟩) (by show w.heap.size≤w.heap.size+1;omega) (.slice (some ⟨w9.heap.size,0,none⟩) ms.length cm))
 have HM10:=kA (show Rb (((w9.alloc X).setCell ⟨w.heap.size+1,4,none⟩ (.slice (some ⟨w9.heap.size,0,none⟩) ms.length cm)).drew) (some ⟨w9.heap.size,0,none⟩) ms from Rb.set_far (show Rb ((w9.alloc X).drew) (some ⟨w9.heap.size,0,none⟩) ms from HRM.out) (p:=⟨w.heap.size+1,4,none⟩) (fun ad e=>by injection e with e;subst e;show w9.heap.size≠w.heap.size+1;omega) (.slice (some ⟨w9.heap.size,0,none⟩) ms.length cm))
 have HMB10:=kA (show RbB (((w9.alloc X).setCell ⟨w.heap.size+1,4,none⟩ (.slice (some ⟨w9.heap.size,0,none⟩) ms.length cm)).drew) w9.heap.size cm ms from HRB.out.keep (Below.heap_setCell (w9.alloc X) ⟨w.heap.size+1,4,none⟩ _ w9.heap.size (by show w9.heap.size≠w.heap.size+1;omega)))
 clear HR8 HN8 HZ8 HB8 HR9 HN9 HZ9 HB9 k0 k1 k2 k3 k4 fz m0 m1 m2 m3 m4 mz HRM HRB hcv
 generalize ((w9.alloc X).setCell ⟨w.heap.size+1,4,none⟩ (.slice (some ⟨w9.heap.size,0,none⟩) ms.length cm)).drew=W10 at HR10 HN10 HZ10 HB10 HM10 HMB10 ⊢
 obtain ⟨gm,hgm⟩:∃ gm,gm=w9.heap.size:=⟨_,rfl⟩
 rw[← hgm] at HN10 HM10 HMB10 hsz9 ⊢
 clear hgm
 obtain ⟨⟨k0,k1,k2,k3,k4⟩,fz⟩:=za2 HN10.out
 have hL0:L4=0:=HR10.out.len
 have HL0:=kA hL0
 clear hL0
 go_upto_region 12 with (first
  |(go_at_call 35;refine (HRD.out _ _ _ HMB10.out hm0).mono ?_;rintro e w11 ⟨cs,rfl,hcs,hc1,hb⟩;dsimp only;have HN11:=kA (zab HN10.out hb);have HZ11:=kA (zab HZ10.out hb);have HR11:=kA (HR10.out.below hb);have HM11:=kA (HM10.out.below hb);have HMB11:=kA (HMB10.out.below hb);have HB11:=kA (HB10.out.trans (hb.mono HB10.out.size));have hst:=zev (Blk.new w11 90 zM) (hcs.symm ▸ zba) (HZS.out.trans hcs.symm) hc1;have HCS:=kA hcs;clear hb hc1))
 have HBX:=kA (zgu (cs:=cs) (Below.new1 w11 (.cells zM 90)) (kJ _))
 have HR12:=kA (HR11.out.below HBX.out)
 have HN12:=kA (zab HN11.out HBX.out)
 have HZ12:=kA (zab HZ11.out HBX.out)
 have HM12:=kA (HM11.out.below HBX.out)
 have HMB12:=kA (HMB11.out.below HBX.out)
 have HB12:=kA (HB11.out.trans (HBX.out.mono HB11.out.size))
 clear HR10 HN10 HZ10 HB10 HM10 HMB10 HR11 HN11 HZ11 HB11 HM11 HMB11 HBX hst k0 k1 k2 k3 k4 fz
 generalize World.setRow _ _ _=W12 at HR12 HN12 HZ12 HB12 HM12 HMB12 ⊢
 obtain ⟨⟨k0,k1,k2,k3,k4⟩,fz⟩:=za2 HN12.out
 go_wp2_with (first
  |(go_at_call 177;refine (zfs HR12.out).mono ?_;rintro e w13 ⟨rfl,rfl⟩)
  |(go_at_call 178;refine (zem HR12.out).mono ?_;rintro e w13 ⟨rfl,rfl⟩;rw[HL0.out];dsimp only)
  |(go_at_call 82;refine (HIS.out _).mono ?_;rintro e w13 ⟨rfl,hb⟩;have HN13:=kA (zab HN12.out hb);have HZ13:=kA (zab HZ12.out hb);have HM13:=kA (HM12.out.below hb);have HMB13:=kA (HMB12.out.below hb);have HB13:=kA (HB12.out.trans (hb.mono HB12.out.size));obtain ⟨⟨m0,m1,m2,m3,m4⟩,mz⟩:=za2 HN13.out;obtain ⟨⟨n0,n1,n2,n3,n4⟩,nz⟩:=za2 HZ13.out;clear hb))
 refine bodyPost_ret (zbs rfl _ _ w.heap.size #[.int .i64 kind,.string name,.int .i64 (vy:Int),.int .i64 0,.slice (some ⟨gm,0,none⟩) ms.length cm] _ _ rfl (show Blk _ _ _ _ from (((((HZ13.out.set_ 0 (.int .i64 kind)).set_ 1 (.string name)).set_ 2 (.int .i64 (vy:Int))).set_ 3 (.int .i64 0)).set_ 4 (.slice (some ⟨gm,0,none⟩) ms.length cm))) Tryz.underlying222 rfl zg9) rfl ⟨gm,cm,rfl,?_,?_,by omega,?_⟩
 ·have hne:∀ ad:Addr,some (⟨gm,0,none⟩:Addr)=some ad→ad.block≠w.heap.size:=fun ad e=>by injection e with e;subst e;show gm≠w.heap.size;omega
  exact Rb.set_far (p:=⟨w.heap.size,4,none⟩) (Rb.set_far (p:=⟨w.heap.size,3,none⟩) (Rb.set_far (p:=⟨w.heap.size,2,none⟩) (Rb.set_far (p:=⟨w.heap.size,1,none⟩) (Rb.set_far (p:=⟨w.heap.size,0,none⟩) HM13.out hne _) hne _) hne _) hne _) hne _
 ·have hne:gm≠w.heap.size:=by omega
  exact ((((HMB13.out.set_far (p:=⟨w.heap.size,0,none⟩) hne _).set_far (p:=⟨w.heap.size,1,none⟩) hne _).set_far (p:=⟨w.heap.size,2,none⟩) hne _).set_far (p:=⟨w.heap.size,3,none⟩) hne _).set_far (p:=⟨w.heap.size,4,none⟩) hne _
 ·exact ((((HB13.out.setCell (p:=⟨w.heap.size,0,none⟩) (kJ _) _).setCell (p:=⟨w.heap.size,1,none⟩) (kJ _) _).setCell (p:=⟨w.heap.size,2,none⟩) (kJ _) _).setCell (p:=⟨w.heap.size,3,none⟩) (kJ _) _).setCell (p:=⟨w.heap.size,4,none⟩) (kJ _) _
end Go.Proofs.YtemgclnkgieldaaGreatDoor.Oc
