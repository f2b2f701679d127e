/- A book's acts where there may be no room. -/
import Derived.Test.YtmejdkniafjncaaGreatDoorNl
set_option maxHeartbeats 4000000
set_option maxRecDepth 100000
namespace Go.Proofs.YtmejdkniafjncaaGreatDoor.Oc
open Go Go.RowKit Dk
def BX (w:World)(B g gd room k:Nat)(C:Con)(ks:List Kt)(ns:List Nt)(bm:Nat)(A:Option Addr)(c:Nat)(S:St)(f:Int)(L:List Ly):Prop :=
 Bz w B g gd bm A c S f L∧S.xs=kl ks++jl ns∧S.room=room∧L.map Ly.s=C∧ChK [] ⟨#[]⟩ ks∧Ch (ks.foldl kpC []) ns∧C.Perm (con2 ks ns)∧Wk k C∧(∀ s∈C,KsOk s)∧S.xs.length≤k*20000
def Fits (S:St)(n:Nt):Prop:=S.xs.length+(recN n).length≤S.room
section
variable {w:World}{B g gd room k:Nat}{C:Con}{ks:List Kt}{ns:List Nt}{bm:Nat}{A:Option Addr}{c:Nat}{S:St}{f:Int}{L:List Ly}
theorem BX.bt (h:BX w B g gd room k C ks ns bm A c S f L):BT w B g gd room k C:=⟨ks,ns,bm,A,c,S,f,L,h⟩
theorem BX.below {w':World}(h:BX w B g gd room k C ks ns bm A c S f L)(hb:Below w.heap.size w w'):BX w' B g gd room k C ks ns bm A c S f L:=⟨h.1.below hb,h.2⟩
theorem zih (h:BX w B g gd room k C ks ns bm A c S f L)(hk:k≤100){n:Nt}(hn:NtOk n)(hkd:n.kind=2∨n.kind=3)(hfit:refC C n.kind n.name n.version=0→Fits S n) :
  Calls Tryz.prog 25 #[.pointer (some ⟨g,0,none⟩),.agg (noteV n.kind n.name n.version 0 (.slice none 0 0))] w fun e w'=>e = .returned (.int .i64 (refC C n.kind n.name n.version))∧BT w' B g gd room (k+1) (stepK C n)∧BK B w w':=by
 have hB:B≤w.heap.size:=h.1.bw.b0l
 have h0:=h.bt
 obtain ⟨h1,h2,h3,h4,h5,h6,h7,h8,h9,h10⟩:=h
 by_cases hr:refC C n.kind n.name n.version=0
 ·rw[stepK,if_pos hr,hr]
  refine (znq h1 (by rw[h4];exact h8.wf (by omega)) hn hkd (by rw[h4];exact hr) (hfit hr)).mono ?_
  rintro e w' ⟨rfl,A',c',f',L',hz,hc,hb⟩
  rw[h4] at hc
  exact ⟨rfl,zvy hz hc h2 h3 h5 h6 h7 h8 h9 h10 hk (.inr ⟨hkd,hr⟩) hn,hb⟩
 ·rw[stepK,if_neg hr]
  refine (zf7 h1 n.kind n.name n.version hkd (by have:=hn.ver;omega) (by rw[h4]) (by simpa using hr)).mono ?_
  rintro e w' ⟨rfl,hb⟩
  exact ⟨rfl,(h0.below hb).more,.of hb hB⟩
theorem zfr (h:BX w B g gd room k C ks ns bm A c S f L){n:Nt}(hn:NtOk n)(hkd:n.kind=2∨n.kind=3)(hr:refC C n.kind n.name n.version=0)(hfit:¬ Fits S n) :
  Calls Tryz.prog 25 #[.pointer (some ⟨g,0,none⟩),.agg (noteV n.kind n.name n.version 0 (.slice none 0 0))] w fun e w'=>e = .returned (.int .i64 14)∧Below w.heap.size w w':=by
 have HBW:=hid h.1
 have HR:Hid (refOf L n.kind n.name n.version=0):=hid (by rw[← zh3,h.2.2.2.1];exact hr)
 have HK:=hid hkd
 have HK1:Hid (∀ (W:World) (far:Nat→Prop) (x:Value),n.kind=1→RowIs W far x n.ms):=hid fun _ _ _ e=>by rw[e] at hkd;rcases hkd with e|e <;> cases e
 have HOK:=hid hn
 have HFIT:Hid (S.room<S.xs.length+(recN n).length):=hid (Nat.not_le.1 hfit)
 have hver:=hn.ver
 clear h hr hkd hn hfit
 go_enter Tryz.func25,Tryz.ntmps25
 unfold noteV
 go_upto_region 1 with fail
 have HN:Hid (Blk (w.alloc (.cells #[.int .i64 n.kind,.string n.name,.int .i64 (n.version:Int),.int .i64 0,.slice none 0 0] 107)) w.heap.size 107 (noteV n.kind n.name n.version 0 (.slice none 0 0))):=hid (Blk.new w _ _)
 have HB:Hid (Below w.heap.size w (w.alloc (.cells #[.int .i64 n.kind,.string n.name,.int .i64 (n.version:Int),.int .i64 0,.slice none 0 0] 107))):=hid (Below.new1 w _)
 generalize w.alloc (.cells #[.int .i64 n.kind,.string n.name,.int .i64 (n.version:Int),.int .i64 0,.slice none 0 0] 107)=W1 at HN HB ⊢
 obtain ⟨⟨n0,n1,n2,n3,n4⟩,nz⟩:=zap HN.out
 go_wp2_with (first
  |(go_at_call 53;refine (zdr (zaf HBW.out.bw.bk HB.out) n.kind n.name n.version 0 (.slice none 0 0) HK.out (by omega) rfl).mono ?_;rintro e w5 ⟨rfl,hb5⟩;rw[HR.out];have HB5:=hid (HB.out.trans (hb5.mono HB.out.size));obtain ⟨⟨m0,m1,m2,m3,m4⟩,mz⟩:=zap (zac HN.out hb5);clear hb5)
  |(go_at_call 33;refine (zh5 (HBW.out.below HB5.out).bw HOK.out 0 (X:=none) (lx:=0) (cx:=0) (far:=fun _=>False) (HK1.out _ _ _) HFIT.out).mono ?_;rintro e w6 ⟨rfl,hb6⟩;have HB6:=hid (HB5.out.trans (hb6.mono HB5.out.size));clear hb6))
 go_ret
 exact ⟨rfl,HB6.out⟩
theorem zkw {name:ByteArray}{v:Nat}{P:Int→World→Prop}(hc:Calls Tryz.prog 25 #[.pointer (some ⟨g,0,none⟩),.agg (noteV 3 name v 0 (.slice none 0 0))] w fun e w'=>∃ r,e = .returned (.int .i64 r)∧P r w') :
  Calls Tryz.prog 14 #[.pointer (some ⟨g,0,none⟩),.string name,.int .i64 (v:Int)] w fun e w'=>∃ r,e = .returned (.int .i64 r)∧P r w':=by
 have HC:=hid hc
 clear hc
 go_enter Tryz.func14,Tryz.ntmps14
 go_wp2_with (first
  |(go_at_call 25;refine HC.out.mono ?_;rintro e w' ⟨r,rfl,h1⟩;have H1:=hid h1;clear h1))
 go_ret
 exact ⟨r,rfl,H1.out⟩
theorem zkx {name:ByteArray}{v:Nat}{P:Int→World→Prop}(hc:Calls Tryz.prog 25 #[.pointer (some ⟨g,0,none⟩),.agg (noteV 2 name v 0 (.slice none 0 0))] w fun e w'=>∃ r,e = .returned (.int .i64 r)∧P r w') :
  Calls Tryz.prog 12 #[.pointer (some ⟨g,0,none⟩),.string name,.int .i64 (v:Int)] w fun e w'=>∃ r,e = .returned (.int .i64 r)∧P r w':=by
 have HC:=hid hc
 clear hc
 go_enter Tryz.func12,Tryz.ntmps12
 go_wp2_with (first
  |(go_at_call 25;refine HC.out.mono ?_;rintro e w' ⟨r,rfl,h1⟩;have H1:=hid h1;clear h1))
 go_ret
 exact ⟨r,rfl,H1.out⟩
end
theorem ztj {w:World}{B g gd bm c:Nat}{A:Option Addr}{S:St}{f:Int}{L:List Ly}(h:Bz w B g gd bm A c S f L)(hw:WF (L.map Ly.s)){name:ByteArray}{v:Nat}{ms:List Int}{cs:Array Value}(hn:NtOk ⟨1,name,v,ms⟩)(hv:v=nextC (L.map Ly.s) name)(hfu:fullC (L.map Ly.s) name=false)(hm:MOk w cs ms)
  (hfit:¬ Fits S ⟨1,name,v,ms⟩) :
  Calls Tryz.prog 16 #[.pointer (some ⟨g,0,none⟩),.string name,.agg cs] w fun e w'=>e = .returned (.tuple #[.int .i64 0,.int .i64 14])∧Below w.heap.size w w':=by
 have HBW:=hid h
 have HFU:Hid (fullOf L name=false):=hid (by rw[← zkn];exact hfu)
 have HNX:Hid (nextOf L name=v):=hid (by rw[← zfm];exact hv.symm)
 have HW:=hid hw
 have HOK:=hid hn
 have HM:=hid hm
 have HLN:Hid (L.length≤100000):=hid (zf6 hw).2.2.1
 have HFIT:Hid (S.room<S.xs.length+(recN ⟨1,name,v,ms⟩).length):=hid (Nat.not_le.1 hfit)
 have hver:v≤100000:=hn.ver
 clear h hfu hv hw hn hm hfit
 go_enter Tryz.func16,Tryz.ntmps16
 have HMC:Hid (Blk (w.alloc (.cells cs 88)) w.heap.size 88 cs):=hid (Blk.new w _ _)
 have HB:Hid (Below w.heap.size w (w.alloc (.cells cs 88))):=hid (Below.new1 w _)
 have HI:Hid ((Tryz.prog.info? 88).map (·.size)=some cs.size):=hid (by rw[HM.out.size];exact zau)
 go_upto_region 1 with fail
 generalize w.alloc (.cells cs 88)=W1 at HMC HB ⊢
 go_upto_region 8 with (first
  |(go_at_call 27;refine (HOK.out.is _).mono ?_;rintro e w1 ⟨rfl,hb1⟩;have HB1:=hid (HB.out.trans (hb1.mono HB.out.size));have HM1:=hid (zac HMC.out hb1);clear hb1)
  |(go_at_call 28;refine (HM.out.check w1 HB1.out).mono ?_;rintro e w2 ⟨rfl,hb2⟩;have HB2:=hid (HB1.out.trans (hb2.mono HB1.out.size));have HM2:=hid (zac HM1.out hb2);clear hb2)
  |(go_at_call 29;refine (zkh (zaf HBW.out.bw.bk HB2.out) HLN.out name).mono ?_;rintro e w3 ⟨rfl,hb3⟩;rw[HFU.out];have HB3:=hid (HB2.out.trans (hb3.mono HB2.out.size));have HM3:=hid (zac HM2.out hb3);clear hb3)
  |(go_at_call 30;refine (zfl (zaf HBW.out.bw.bk HB3.out) name).mono ?_;rintro e w4 ⟨rfl,hb4⟩;rw[HNX.out];have HB4:=hid (HB3.out.trans (hb4.mono HB3.out.size));have HM4:=hid (zac HM3.out hb4);clear hb4)
  |(refine za2 _ rfl 88 _ rfl w.heap.size cs 88 (0,0) _ rfl (by first|exact HM4.out|exact HM3.out|exact HM1.out) Tryz.underlying88 rfl HI.out ?_))
 have HN4:Hid (Blk (w4.alloc (.cells #[.int .i64 1,.string name,.int .i64 (v:Int),.int .i64 0,.slice none 0 0] 107)) w4.heap.size 107 (noteV 1 name v 0 (.slice none 0 0))):=hid (Blk.new w4 _ _)
 have HB5:Hid (Below w.heap.size w (w4.alloc (.cells #[.int .i64 1,.string name,.int .i64 (v:Int),.int .i64 0,.slice none 0 0] 107))):=hid (HB4.out.alloc HB4.out.size _)
 have HM5:Hid (Blk (w4.alloc (.cells #[.int .i64 1,.string name,.int .i64 (v:Int),.int .i64 0,.slice none 0 0] 107)) w.heap.size 88 cs):=hid (HM4.out.alloc _)
 have HW4:Hid (w.heap.size≤w4.heap.size):=hid HB4.out.size
 generalize w4.alloc (.cells #[.int .i64 1,.string name,.int .i64 (v:Int),.int .i64 0,.slice none 0 0] 107)=W5 at HN4 HB5 HM5 ⊢
 have HS5:Hid (w4.heap.size<W5.heap.size):=hid HN4.out.lt
 have HNM:Hid (∀ k,w.heap.size≤k→¬ Mt g gd bm (Value.slice A S.xs.length c).ownBlock L k):=hid fun k hk hm=>by have h1:k<w.heap.size:=HBW.out.mtlt hm;omega
 have HW7F:Hid (∀ (w6:World) (gm:Addr) (cm:Nat),Blk w6 w4.heap.size 107 (noteV 1 name v 0 (.slice none 0 0))→Below w.heap.size w w6→Rb w6 (some gm) ms→RowR w6 gm cm ms→W5.heap.size≤gm.block→Blk (w6.setCell ⟨w4.heap.size,4,none⟩ (.slice (some gm) ms.length cm)) w4.heap.size 107 (noteV 1 name v 0 (.slice (some gm) ms.length cm)) ∧
   Below w.heap.size w (w6.setCell ⟨w4.heap.size,4,none⟩ (.slice (some gm) ms.length cm))∧RowIs (w6.setCell ⟨w4.heap.size,4,none⟩ (.slice (some gm) ms.length cm)) (Mt g gd bm (Value.slice A S.xs.length c).ownBlock L) (.slice (some gm) ms.length cm) ms):=hid fun w6 gm cm h1 h2 h3 h3r h4=>by
  have h5:=HW4.out
  have h6:=HS5.out
  refine ⟨h1.set_ 4 _,h2.setCell (p:=⟨w4.heap.size,4,none⟩) h5 _,⟨_,cm,rfl,(HOK.out.md rfl).2.1,?_,HNM.out gm.block (by omega),h3r.keep (Below.heap_setCell w6 ⟨w4.heap.size,4,none⟩ _ gm.block (by show gm.block≠w4.heap.size;omega))⟩⟩
  exact h3.keep (p:=fun k=>k=w4.heap.size) ((Alt.refl w6 (fun k=>k=w4.heap.size)).set_ (a:=⟨w4.heap.size,4,none⟩) rfl _) (fun ad e hh=>by injection e with e;subst e;omega)
 go_wp2_with (first
  |(refine za2 _ rfl 88 _ rfl w.heap.size cs 88 (0,0) _ rfl (by exact HM5.out) Tryz.underlying88 rfl HI.out ?_)
  |(go_at_call 31;refine (HM.out.lay W5 HB5.out).mono ?_;rintro e w6 ⟨gm,cm,rfl,hr6,hrr6,hg6,hb6⟩;have HR6:=hid hr6;have HRR6:=hid hrr6;have HG6:=hid hg6;have HB6:=hid (HB5.out.trans (hb6.mono HB5.out.size));have HN6:=hid (zac HN4.out hb6);obtain ⟨⟨n0,n1,n2,n3,n4⟩,nz⟩:=zap HN6.out;have HW7:=hid (HW7F.out w6 gm cm HN6.out HB6.out HR6.out HRR6.out HG6.out);clear hr6 hrr6 hg6 hb6)
  |(go_at_call 33;go_loud (refine (zh5 (n:=⟨1,name,v,ms⟩) (HBW.out.below HW7.out.2.1).bw HOK.out 0 (far:=Mt g gd bm (Value.slice A S.xs.length c).ownBlock L) (fun _=>HW7.out.2.2) HFIT.out).mono ?_;rintro e w8 ⟨rfl,hb8⟩;have HB8:=hid (HW7.out.2.1.trans (hb8.mono HW7.out.2.1.size));clear hb8)))
 go_ret2
 exact ⟨rfl,HB8.out⟩
theorem put_no (g:Nat)(name:ByteArray)(cs:Array Value)(w:World)(his:∀ W,Calls Tryz.prog 27 #[.string name] W fun e w'=>e = .returned (.bool false)∧Below W.heap.size W w') :
  Calls Tryz.prog 16 #[.pointer (some ⟨g,0,none⟩),.string name,.agg cs] w fun e w'=>e = .returned (.tuple #[.int .i64 0,.int .i64 11])∧Below w.heap.size w w':=by
 have HIS:=hid his
 clear his
 go_enter Tryz.func16,Tryz.ntmps16
 have HB:Hid (Below w.heap.size w (w.alloc (.cells cs 88))):=hid (Below.new1 w _)
 go_upto_region 1 with fail
 generalize w.alloc (.cells cs 88)=W1 at HB ⊢
 go_wp2_with (first
  |(go_at_call 27;refine (HIS.out _).mono ?_;rintro e w1 ⟨rfl,hb1⟩;have HB1:=hid (HB.out.trans (hb1.mono HB.out.size));clear hb1))
 go_ret2
 exact ⟨rfl,HB1.out⟩
theorem zxb (g:Nat)(name:ByteArray)(cs:Array Value)(hsz:cs.size=59)(w:World)(his:∀ W,Calls Tryz.prog 27 #[.string name] W fun e w'=>e = .returned (.bool true)∧Below W.heap.size W w'){r:Int}(hr:r≠0)(hck:∀ W,Below w.heap.size w W→Calls Tryz.prog 28 #[.agg cs] W fun e w'=>e = .returned (.int .i64 r)∧Below W.heap.size W w') :
  Calls Tryz.prog 16 #[.pointer (some ⟨g,0,none⟩),.string name,.agg cs] w fun e w'=>e = .returned (.tuple #[.int .i64 0,.int .i64 1])∧Below w.heap.size w w':=by
 have HIS:=hid his
 have HCK:=hid hck
 have HI:Hid ((Tryz.prog.info? 88).map (·.size)=some cs.size):=hid (by rw[hsz];exact zau)
 have hr0:(r == 0)=false:=by simpa using hr
 clear his hck hsz
 go_enter Tryz.func16,Tryz.ntmps16
 have HMC:Hid (Blk (w.alloc (.cells cs 88)) w.heap.size 88 cs):=hid (Blk.new w _ _)
 have HB:Hid (Below w.heap.size w (w.alloc (.cells cs 88))):=hid (Below.new1 w _)
 go_upto_region 1 with fail
 generalize w.alloc (.cells cs 88)=W1 at HMC HB ⊢
 go_wp2_with (first
  |(go_at_call 27;refine (HIS.out _).mono ?_;rintro e w1 ⟨rfl,hb1⟩;have HB1:=hid (HB.out.trans (hb1.mono HB.out.size));have HM1:=hid (zac HMC.out hb1);clear hb1)
  |(refine za2 _ rfl 88 _ rfl w.heap.size cs 88 (0,0) _ rfl (by exact HM1.out) Tryz.underlying88 rfl HI.out ?_)
  |(go_at_call 28;refine (HCK.out w1 HB1.out).mono ?_;rintro e w2 ⟨rfl,hb2⟩;have HB2:=hid (HB1.out.trans (hb2.mono HB1.out.size));clear hb2))
 go_ret2
 exact ⟨rfl,HB2.out⟩
section
variable {w:World}{B g gd room k:Nat}{C:Con}{ks:List Kt}{ns:List Nt}{bm:Nat}{A:Option Addr}{c:Nat}{S:St}{f:Int}{L:List Ly}
theorem ztk (h:BX w B g gd room k C ks ns bm A c S f L)(hk:k≤100){name:ByteArray}{v:Nat}{ms:List Int}{cs:Array Value}(hn:NtOk ⟨1,name,v,ms⟩)(hv:v=nextC C name)(hfu:fullC C name=false)(hm:MOk w cs ms)(hfit:Fits S ⟨1,name,v,ms⟩) :
  Calls Tryz.prog 16 #[.pointer (some ⟨g,0,none⟩),.string name,.agg cs] w fun e w'=>e = .returned (.tuple #[.int .i64 (v:Int),.int .i64 0])∧BT w' B g gd room (k+1) (pfC C ⟨1,name,v,ms⟩)∧BK B w w':=by
 obtain ⟨h1,h2,h3,h4,h5,h6,h7,h8,h9,h10⟩:=h
 refine (zuo h1 (by rw[h4];exact h8.wf (by omega)) hn (by rw[h4];exact hv) (by rw[h4];exact hfu) hm hfit).mono ?_
 rintro e w' ⟨rfl,A',c',f',L',hz,hc,hb⟩
 rw[h4] at hc
 exact ⟨rfl,zvy hz hc h2 h3 h5 h6 h7 h8 h9 h10 hk (.inl ⟨rfl,hv,hfu⟩) hn,hb⟩
theorem zv1 (h:BX w B g gd room k C ks ns bm A c S f L)(hk:k≤100){name:ByteArray}{v:Nat}{ms:List Int}{cs:Array Value}(hn:NtOk ⟨1,name,v,ms⟩)(hv:v=nextC C name)(hfu:fullC C name=false)(hm:MOk w cs ms)(hfit:¬ Fits S ⟨1,name,v,ms⟩) :
  Calls Tryz.prog 16 #[.pointer (some ⟨g,0,none⟩),.string name,.agg cs] w fun e w'=>e = .returned (.tuple #[.int .i64 0,.int .i64 14])∧Below w.heap.size w w':=by
 obtain ⟨h1,h2,h3,h4,h5,h6,h7,h8,h9,h10⟩:=h
 exact ztj h1 (by rw[h4];exact h8.wf (by omega)) hn (by rw[h4];exact hv) (by rw[h4];exact hfu) hm hfit
end
theorem zeb (w:World)(i:Nat)(hi:i<4):(w.alloc (.cells #[.string ⟨#[97]⟩,.string ⟨#[98]⟩,.string ⟨#[99]⟩,.string ⟨#[49]⟩] 9)).cell? ⟨w.heap.size,i,none⟩=some (.string (nmOf i)):=by
 rw[(Blk.new w _ _).cell]
 match i,hi with
 | 0,_=>rfl
 | 1,_=>rfl
 | 2,_=>rfl
 | 3,_=>rfl
theorem zdj {w:World}{g:Nat}{t:TypeId}{cs:Array Value}(h:Blk w g t cs)(h1:t≠5)(h2:t≠96)(h3:t≠93)(h4:t≠155):¬ TB w g:=by
 unfold Blk at h
 rintro (⟨es,q,e⟩|⟨cs',t',fr,e,ht⟩)
 ·rw[h] at e;cases e
 ·rw[h] at e
  injection e with e
  injection e with e1 e2
  subst e2
  rcases ht with ht|ht|ht|ht
  ·exact h1 ht
  ·exact h2 ht
  ·exact h3 ht
  ·exact h4 ht
abbrev actV (aK aN aV aM:Int):Value := .agg #[.int .i64 aK,.int .i64 aN,.int .i64 aV,.int .i64 aM]
section
variable {w:World}{g gp:Nat}{aK aN aV aM:Int}{nn vv:Nat}
theorem zpe (hK:aK % 7=4)(hN:aN % 4=(nn:Int))(hV:aV % 6=(vv:Int)){Q1:World→Int→World→Prop}{Q2:World→Int→Int→World→Prop}
  (hb:∀ W,Below w.heap.size w W→Calls Tryz.prog 12 #[.pointer (some ⟨g,0,none⟩),.string (nmOf nn),.int .i64 (vv:Int)] W fun e w'=>∃ r,e = .returned (.int .i64 r)∧Q1 W r w')
  (hp:∀ W W1 r,Below w.heap.size w W→Q1 W r W1→Calls Tryz.prog 22 #[.pointer (some ⟨gp,0,none⟩),.string (nmOf nn),.int .i64 (vv:Int)] W1 fun e w'=>∃ r2,e = .returned (.int .i64 r2)∧Q2 W1 r r2 w') :
  Calls Tryz.prog 11 #[.pointer (some ⟨g,0,none⟩),.pointer (some ⟨gp,0,none⟩),actV aK aN aV aM] w fun e w'=>∃ W W1 r r2,Below w.heap.size w W∧Q1 W r W1∧Q2 W1 r r2 w'∧e = .returned (.bool (r == r2)):=by
 have hn4:nn<4:=by have:=Int.emod_lt_of_pos aN (show (0:Int)<4 by omega);omega
 have HK:=hid hK
 have HN:=hid hN
 have HV:=hid hV
 have HB:=hid hb
 have HP:=hid hp
 clear hK hN hV hb hp
 go_enter Tryz.func11,Tryz.ntmps11
 have HB1:Hid (Below w.heap.size w (w.alloc (.cells #[.int .i64 aK,.int .i64 aN,.int .i64 aV,.int .i64 aM] 41))):=hid (Below.new1 w _)
 have HA:Hid (Blk (w.alloc (.cells #[.int .i64 aK,.int .i64 aN,.int .i64 aV,.int .i64 aM] 41)) w.heap.size 41 #[.int .i64 aK,.int .i64 aN,.int .i64 aV,.int .i64 aM]):=hid (Blk.new w _ _)
 go_upto_region 1 with fail
 generalize w.alloc (.cells #[.int .i64 aK,.int .i64 aN,.int .i64 aV,.int .i64 aM] 41)=W1 at HB1 HA ⊢
 have a1:=HA.out.cell 1
 have a2:=HA.out.cell 2
 have a0:=HA.out.cell 0
 simp only[List.getElem?_toArray,List.getElem?_cons_zero,List.getElem?_cons_succ] at a0 a1 a2
 have HNI:=hid (zeb W1 nn hn4)
 have HC:Hid (∀ o,(W1.alloc o).cell? ⟨w.heap.size,0,none⟩=some (.int .i64 aK)∧(W1.alloc o).cell? ⟨w.heap.size,2,none⟩=some (.int .i64 aV)):=hid fun o=>⟨(World.cell?_alloc_lt W1 o _ HA.out.lt).trans a0,(World.cell?_alloc_lt W1 o _ HA.out.lt).trans a2⟩
 go_upto_region 3 with (first
  |(go_at_call 6;refine (pick_any _ _ _ (by omega) (by omega)).mono ?_;rintro e w' ⟨rfl,hw⟩;rw[← hw,HN.out];clear hw)
  |(go_at_call 13;refine (zdi W1).mono ?_;rintro e w2 ⟨rfl,rfl⟩;have hni:=HNI.out))
 obtain ⟨b0,b2⟩:=HC.out (.cells #[.string ⟨#[97]⟩,.string ⟨#[98]⟩,.string ⟨#[99]⟩,.string ⟨#[49]⟩] 9)
 have HB2:Hid (Below w.heap.size w (W1.alloc (.cells #[.string ⟨#[97]⟩,.string ⟨#[98]⟩,.string ⟨#[99]⟩,.string ⟨#[49]⟩] 9))):=hid (HB1.out.alloc HB1.out.size _)
 clear hni a0 a1 a2 HC HNI
 generalize W1.alloc (.cells #[.string ⟨#[97]⟩,.string ⟨#[98]⟩,.string ⟨#[99]⟩,.string ⟨#[49]⟩] 9)=W2 at b0 b2 HB2 ⊢
 go_wp2_with (first
  |(go_at_call 6;refine (pick_any _ _ _ (by omega) (by omega)).mono ?_;rintro e w' ⟨rfl,hw⟩;rw[← hw];(first|rw[HV.out]|rw[HK.out]);clear hw)
  |(go_at_call 12;refine (HB.out W2 HB2.out).mono ?_;rintro e w3 ⟨r,rfl,h1⟩;have H1:=hid h1;clear h1)
  |(go_at_call 22;refine (HP.out W2 w3 r HB2.out H1.out).mono ?_;rintro e w4 ⟨r2,rfl,h2⟩;have H2:=hid h2;clear h2))
 go_ret
 exact ⟨W2,w3,r,r2,HB2.out,H1.out,H2.out,rfl⟩
theorem ztl (hK:aK % 7=5)(hN:aN % 4=(nn:Int))(hV:aV % 6=(vv:Int)){Q1:World→Int→World→Prop}{Q2:World→Int→Int→World→Prop}
  (hb:∀ W,Below w.heap.size w W→Calls Tryz.prog 14 #[.pointer (some ⟨g,0,none⟩),.string (nmOf nn),.int .i64 (vv:Int)] W fun e w'=>∃ r,e = .returned (.int .i64 r)∧Q1 W r w')
  (hp:∀ W W1 r,Below w.heap.size w W→Q1 W r W1→Calls Tryz.prog 23 #[.pointer (some ⟨gp,0,none⟩),.string (nmOf nn),.int .i64 (vv:Int)] W1 fun e w'=>∃ r2,e = .returned (.int .i64 r2)∧Q2 W1 r r2 w') :
  Calls Tryz.prog 11 #[.pointer (some ⟨g,0,none⟩),.pointer (some ⟨gp,0,none⟩),actV aK aN aV aM] w fun e w'=>∃ W W1 r r2,Below w.heap.size w W∧Q1 W r W1∧Q2 W1 r r2 w'∧e = .returned (.bool (r == r2)):=by
 have hn4:nn<4:=by have:=Int.emod_lt_of_pos aN (show (0:Int)<4 by omega);omega
 have HK:=hid hK
 have HN:=hid hN
 have HV:=hid hV
 have HB:=hid hb
 have HP:=hid hp
 clear hK hN hV hb hp
 go_enter Tryz.func11,Tryz.ntmps11
 have HB1:Hid (Below w.heap.size w (w.alloc (.cells #[.int .i64 aK,.int .i64 aN,.int .i64 aV,.int .i64 aM] 41))):=hid (Below.new1 w _)
 have HA:Hid (Blk (w.alloc (.cells #[.int .i64 aK,.int .i64 aN,.int .i64 aV,.int .i64 aM] 41)) w.heap.size 41 #[.int .i64 aK,.int .i64 aN,.int .i64 aV,.int .i64 aM]):=hid (Blk.new w _ _)
 go_upto_region 1 with fail
 generalize w.alloc (.cells #[.int .i64 aK,.int .i64 aN,.int .i64 aV,.int .i64 aM] 41)=W1 at HB1 HA ⊢
 have a1:=HA.out.cell 1
 have a2:=HA.out.cell 2
 have a0:=HA.out.cell 0
 simp only[List.getElem?_toArray,List.getElem?_cons_zero,List.getElem?_cons_succ] at a0 a1 a2
 have HNI:=hid (zeb W1 nn hn4)
 have HC:Hid (∀ o,(W1.alloc o).cell? ⟨w.heap.size,0,none⟩=some (.int .i64 aK)∧(W1.alloc o).cell? ⟨w.heap.size,2,none⟩=some (.int .i64 aV)):=hid fun o=>⟨(World.cell?_alloc_lt W1 o _ HA.out.lt).trans a0,(World.cell?_alloc_lt W1 o _ HA.out.lt).trans a2⟩
 go_upto_region 3 with (first
  |(go_at_call 6;refine (pick_any _ _ _ (by omega) (by omega)).mono ?_;rintro e w' ⟨rfl,hw⟩;rw[← hw,HN.out];clear hw)
  |(go_at_call 13;refine (zdi W1).mono ?_;rintro e w2 ⟨rfl,rfl⟩;have hni:=HNI.out))
 obtain ⟨b0,b2⟩:=HC.out (.cells #[.string ⟨#[97]⟩,.string ⟨#[98]⟩,.string ⟨#[99]⟩,.string ⟨#[49]⟩] 9)
 have HB2:Hid (Below w.heap.size w (W1.alloc (.cells #[.string ⟨#[97]⟩,.string ⟨#[98]⟩,.string ⟨#[99]⟩,.string ⟨#[49]⟩] 9))):=hid (HB1.out.alloc HB1.out.size _)
 clear hni a0 a1 a2 HC HNI
 generalize W1.alloc (.cells #[.string ⟨#[97]⟩,.string ⟨#[98]⟩,.string ⟨#[99]⟩,.string ⟨#[49]⟩] 9)=W2 at b0 b2 HB2 ⊢
 go_wp2_with (first
  |(go_at_call 6;refine (pick_any _ _ _ (by omega) (by omega)).mono ?_;rintro e w' ⟨rfl,hw⟩;rw[← hw];(first|rw[HV.out]|rw[HK.out]);clear hw)
  |(go_at_call 14;refine (HB.out W2 HB2.out).mono ?_;rintro e w3 ⟨r,rfl,h1⟩;have H1:=hid h1;clear h1)
  |(go_at_call 23;refine (HP.out W2 w3 r HB2.out H1.out).mono ?_;rintro e w4 ⟨r2,rfl,h2⟩;have H2:=hid h2;clear h2))
 go_ret
 exact ⟨W2,w3,r,r2,HB2.out,H1.out,H2.out,rfl⟩
theorem zxc (hK:aK % 7=6)(hN:aN % 4=(nn:Int))(hV:aV % 6=(vv:Int)){Q1:World→World→Prop}
  (hb:∀ W,Below w.heap.size w W→Calls Tryz.prog 15 #[.pointer (some ⟨g,0,none⟩)] W fun e w'=>e = .returned (.int .i64 0)∧Q1 W w') :
  Calls Tryz.prog 11 #[.pointer (some ⟨g,0,none⟩),.pointer (some ⟨gp,0,none⟩),actV aK aN aV aM] w fun e w'=>∃ W,Below w.heap.size w W∧Q1 W w'∧e = .returned (.bool true):=by
 have hn4:nn<4:=by have:=Int.emod_lt_of_pos aN (show (0:Int)<4 by omega);omega
 have HK:=hid hK
 have HN:=hid hN
 have HV:=hid hV
 have HB:=hid hb
 clear hK hN hV hb
 go_enter Tryz.func11,Tryz.ntmps11
 have HB1:Hid (Below w.heap.size w (w.alloc (.cells #[.int .i64 aK,.int .i64 aN,.int .i64 aV,.int .i64 aM] 41))):=hid (Below.new1 w _)
 have HA:Hid (Blk (w.alloc (.cells #[.int .i64 aK,.int .i64 aN,.int .i64 aV,.int .i64 aM] 41)) w.heap.size 41 #[.int .i64 aK,.int .i64 aN,.int .i64 aV,.int .i64 aM]):=hid (Blk.new w _ _)
 go_upto_region 1 with fail
 generalize w.alloc (.cells #[.int .i64 aK,.int .i64 aN,.int .i64 aV,.int .i64 aM] 41)=W1 at HB1 HA ⊢
 have a1:=HA.out.cell 1
 have a2:=HA.out.cell 2
 have a0:=HA.out.cell 0
 simp only[List.getElem?_toArray,List.getElem?_cons_zero,List.getElem?_cons_succ] at a0 a1 a2
 have HNI:=hid (zeb W1 nn hn4)
 have HC:Hid (∀ o,(W1.alloc o).cell? ⟨w.heap.size,0,none⟩=some (.int .i64 aK)∧(W1.alloc o).cell? ⟨w.heap.size,2,none⟩=some (.int .i64 aV)):=hid fun o=>⟨(World.cell?_alloc_lt W1 o _ HA.out.lt).trans a0,(World.cell?_alloc_lt W1 o _ HA.out.lt).trans a2⟩
 go_upto_region 3 with (first
  |(go_at_call 6;refine (pick_any _ _ _ (by omega) (by omega)).mono ?_;rintro e w' ⟨rfl,hw⟩;rw[← hw,HN.out];clear hw)
  |(go_at_call 13;refine (zdi W1).mono ?_;rintro e w2 ⟨rfl,rfl⟩;have hni:=HNI.out))
 obtain ⟨b0,b2⟩:=HC.out (.cells #[.string ⟨#[97]⟩,.string ⟨#[98]⟩,.string ⟨#[99]⟩,.string ⟨#[49]⟩] 9)
 have HB2:Hid (Below w.heap.size w (W1.alloc (.cells #[.string ⟨#[97]⟩,.string ⟨#[98]⟩,.string ⟨#[99]⟩,.string ⟨#[49]⟩] 9))):=hid (HB1.out.alloc HB1.out.size _)
 clear hni a0 a1 a2 HC HNI
 generalize W1.alloc (.cells #[.string ⟨#[97]⟩,.string ⟨#[98]⟩,.string ⟨#[99]⟩,.string ⟨#[49]⟩] 9)=W2 at b0 b2 HB2 ⊢
 go_wp2_with (first
  |(go_at_call 6;refine (pick_any _ _ _ (by omega) (by omega)).mono ?_;rintro e w' ⟨rfl,hw⟩;rw[← hw];(first|rw[HV.out]|rw[HK.out]);clear hw)
  |(go_at_call 15;refine (HB.out W2 HB2.out).mono ?_;rintro e w3 ⟨rfl,h1⟩;have H1:=hid h1;clear h1))
 go_ret
 exact ⟨W2,HB2.out,H1.out,rfl⟩
theorem zpf (hK:aK % 7=0∨aK % 7=1∨aK % 7=2∨aK % 7=3)(hN:aN % 4=(nn:Int))(hV:aV % 6=(vv:Int)){QM:World→Array Value→World→Prop}{Q1:World→Array Value→World→Int→Int→World→Prop}{Q2:World→Array Value→World→Int→Int→Int→Int→World→Prop}
  (hm:∀ W,Calls Tryz.prog 17 #[.int .i64 aM] W fun e w'=>∃ cs,e = .returned (.agg cs)∧QM W cs w')
  (hb:∀ W cs W1,Below w.heap.size w W→QM W cs W1→Calls Tryz.prog 16 #[.pointer (some ⟨g,0,none⟩),.string (nmOf nn),.agg cs] W1 fun e w'=>∃ x r,e = .returned (.tuple #[.int .i64 x,.int .i64 r])∧Q1 W cs W1 x r w')
  (hqm:∀ W cs W1,QM W cs W1→Below W.heap.size W W1) (hq1:∀ W cs W1 x r W2,Q1 W cs W1 x r W2→Kb W1 W2)
  (hp:∀ W cs W1 x r W2 cs2 W3,Below w.heap.size w W→QM W cs W1→Q1 W cs W1 x r W2→QM W2 cs2 W3→Calls Tryz.prog 24 #[.pointer (some ⟨gp,0,none⟩),.string (nmOf nn),.bool (decide ((nn:Int)<3)),.agg cs2] W3 fun e w'=>∃ x2 r2,e = .returned (.tuple #[.int .i64 x2,.int .i64 r2])∧Q2 W2 cs2 W3 x r x2 r2 w') :
  Calls Tryz.prog 11 #[.pointer (some ⟨g,0,none⟩),.pointer (some ⟨gp,0,none⟩),actV aK aN aV aM] w fun e w'=>∃ W cs W1 x r W2 cs2 W3 x2 r2,Below w.heap.size w W∧QM W cs W1∧Q1 W cs W1 x r W2∧QM W2 cs2 W3∧Q2 W2 cs2 W3 x r x2 r2 w'∧e = .returned (.bool (x == x2 && r == r2)):=by
 have hn4:nn<4:=by have:=Int.emod_lt_of_pos aN (show (0:Int)<4 by omega);omega
 obtain ⟨kk,HK⟩:∃ kk,Hid (aK % 7=kk):=⟨_,hid rfl⟩
 rw[HK.out] at hK
 have hk4:(kk == 4)=false:=by rw[beq_eq_false_iff_ne];omega
 have hk5:(kk == 5)=false:=by rw[beq_eq_false_iff_ne];omega
 have hk6:(kk == 6)=false:=by rw[beq_eq_false_iff_ne];omega
 clear hK
 have HN:=hid hN
 have HV:=hid hV
 have HB:=hid hb
 have HP:=hid hp
 have HM:=hid hm
 have HQM:=hid hqm
 have HQ1:=hid hq1
 clear hN hV hb hp hm hqm hq1
 go_enter Tryz.func11,Tryz.ntmps11
 have HB1:Hid (Below w.heap.size w (w.alloc (.cells #[.int .i64 aK,.int .i64 aN,.int .i64 aV,.int .i64 aM] 41))):=hid (Below.new1 w _)
 have HA:Hid (Blk (w.alloc (.cells #[.int .i64 aK,.int .i64 aN,.int .i64 aV,.int .i64 aM] 41)) w.heap.size 41 #[.int .i64 aK,.int .i64 aN,.int .i64 aV,.int .i64 aM]):=hid (Blk.new w _ _)
 go_upto_region 1 with fail
 generalize w.alloc (.cells #[.int .i64 aK,.int .i64 aN,.int .i64 aV,.int .i64 aM] 41)=W1 at HB1 HA ⊢
 have a1:=HA.out.cell 1
 have a2:=HA.out.cell 2
 have a0:=HA.out.cell 0
 have a3:=HA.out.cell 3
 simp only[List.getElem?_toArray,List.getElem?_cons_zero,List.getElem?_cons_succ] at a0 a1 a2 a3
 have HNI:=hid (zeb W1 nn hn4)
 have HC:Hid (∀ o,(W1.alloc o).cell? ⟨w.heap.size,0,none⟩=some (.int .i64 aK)∧(W1.alloc o).cell? ⟨w.heap.size,2,none⟩=some (.int .i64 aV)∧Blk (W1.alloc o) w.heap.size 41 #[.int .i64 aK,.int .i64 aN,.int .i64 aV,.int .i64 aM]):=hid fun o=>⟨(World.cell?_alloc_lt W1 o _ HA.out.lt).trans a0,(World.cell?_alloc_lt W1 o _ HA.out.lt).trans a2,HA.out.alloc o⟩
 go_upto_region 3 with (first
  |(go_at_call 6;refine (pick_any _ _ _ (by omega) (by omega)).mono ?_;rintro e w' ⟨rfl,hw⟩;rw[← hw,HN.out];clear hw)
  |(go_at_call 13;refine (zdi W1).mono ?_;rintro e w2 ⟨rfl,rfl⟩;have hni:=HNI.out))
 obtain ⟨b0,b2,hab⟩:=HC.out (.cells #[.string ⟨#[97]⟩,.string ⟨#[98]⟩,.string ⟨#[99]⟩,.string ⟨#[49]⟩] 9)
 have HB2:Hid (Below w.heap.size w (W1.alloc (.cells #[.string ⟨#[97]⟩,.string ⟨#[98]⟩,.string ⟨#[99]⟩,.string ⟨#[49]⟩] 9))):=hid (HB1.out.alloc HB1.out.size _)
 have HAB:=hid hab
 have b3:=hab.cell 3
 simp only[List.getElem?_toArray,List.getElem?_cons_zero,List.getElem?_cons_succ] at b3
 clear hni a0 a1 a2 a3 HC HNI hab
 generalize W1.alloc (.cells #[.string ⟨#[97]⟩,.string ⟨#[98]⟩,.string ⟨#[99]⟩,.string ⟨#[49]⟩] 9)=W2 at b0 b2 b3 HAB HB2 ⊢
 go_wp2_with (first
  |(go_at_call 6;refine (pick_any _ _ _ (by omega) (by omega)).mono ?_;rintro e w' ⟨rfl,hw⟩;rw[← hw];(first|rw[HV.out]|rw[HK.out]);clear hw)
  |(go_at_call 17;refine (HM.out w4).mono ?_;rintro e w5 ⟨cs2,rfl,h3⟩;have H3:=hid h3;clear h3)
  |(go_at_call 17;refine (HM.out W2).mono ?_;rintro e w3 ⟨cs,rfl,h1⟩;have H1:=hid h1;have HAB3:=hid (zac HAB.out (HQM.out _ _ _ h1));clear h1)
  |(go_at_call 16;refine (HB.out W2 cs w3 HB2.out H1.out).mono ?_;rintro e w4 ⟨x,r,rfl,h2⟩;have H2:=hid h2;have c3:=(HAB3.out.kept (HQ1.out _ _ _ _ _ _ h2) (zdj HAB3.out (by decide) (by decide) (by decide) (by decide))).cell 3;simp only[List.getElem?_toArray,List.getElem?_cons_zero,List.getElem?_cons_succ] at c3;clear h2)
  |(go_at_call 24;refine (HP.out W2 cs w3 x r w4 cs2 w5 HB2.out H1.out H2.out H3.out).mono ?_;rintro e w6 ⟨x2,r2,rfl,h4⟩;have H4:=hid h4;clear h4))
 all_goals
  go_ret
  refine ⟨W2,cs,w3,x,r,w4,cs2,w5,x2,r2,HB2.out,H1.out,H2.out,H3.out,H4.out,?_⟩
  first|rfl|simp_all
end
structure MdlOk (PM:PMod)(M:List Int→Prop)(n:Int)(ms:List Int):Prop where
 b:IsB ms∧0<ms.length∧ms.length≤12000∧ReadOk ms
 m:M ms
 make:∀ W,Calls Tryz.prog 17 #[.int .i64 n] W fun e w'=>∃ cs,e = .returned (.agg cs)∧MOk w' cs ms∧(cs.size=59∧AllOne cs∧PM w' (fun k=>k<W.heap.size) ms cs)∧(∀ W',Below w'.heap.size w' W'→Calls Tryz.prog 51 #[.agg cs] W' fun e w''=>e = .returned (.int .i64 0)∧Below W'.heap.size W' w'')∧Below W.heap.size W w'
def MdlBad (n:Int):Prop:=∀ W,Calls Tryz.prog 17 #[.int .i64 n] W fun e w'=>∃ cs,e = .returned (.agg cs)∧cs.size=59∧(∃ r:Int,r≠0∧∀ W',Below w'.heap.size w' W'→Calls Tryz.prog 28 #[.agg cs] W' fun e w''=>e = .returned (.int .i64 r)∧Below W'.heap.size W' w'')∧(∃ r:Int,r≠0∧∀ W',Below w'.heap.size w' W'→Calls Tryz.prog 51 #[.agg cs] W' fun e w''=>e = .returned (.int .i64 r)∧Below W'.heap.size W' w'')∧Below W.heap.size W w'
structure LawH (PM:PMod)(PR:Nat→World→List Int→Array Value→Prop)(M:List Int→Prop):Prop where
 mt:MT PM PR M
 is:∀ n,n<3→IsOk (nmOf n)
 no:∀ W:World,Calls Tryz.prog 27 #[.string nm1] W fun e w'=>e = .returned (.bool false)∧Below W.heap.size W w'
 md:∀ n:Int,(∃ ms,MdlOk PM M n ms)∨MdlBad n
 know:Know
structure Iv (M:List Int→Prop)(C:Con):Prop where
 nm:∀ s∈C,s.name=nmA∨s.name=nmB∨s.name=nmC
 kn:∀ s∈C,∀ x∈s.vs,M x.2
theorem Iv.perm {M:List Int→Prop}{C C':Con}(h:Iv M C)(hp:C.Perm C'):Iv M C':=⟨fun s hs=>h.nm s (hp.mem_iff.2 hs),fun s hs=>h.kn s (hp.mem_iff.2 hs)⟩
theorem ztm {w:World}{B n sz:Nat}{t:TypeId}{v:Value}{xs:List Value}(h:w.ownsRow B t sz v n xs)(h1:t≠5)(h2:t≠96)(h3:t≠93)(h4:t≠155):∀ k,v.ownBlock=some k→¬ TB w k:=fun k hk=>by
 rcases h.2 with ⟨rfl,_⟩|⟨g',cap,cur,rfl,_,hh,_⟩
 ·cases hk
 ·have e:g'=k:=by simpa [Value.ownBlock] using hk
  subst e
  exact zdj (show Blk w g' t cur from hh) h1 h2 h3 h4
section
variable {PM:PMod}(hst:Stays PM){w:World}{B gp:Nat}{far:Nat→Prop}{v:Value}{ps:List Pe}
theorem zn2 (h:SP PM w B far gp v ps):∀ k,So gp v ps k→¬ TB w k:=by
 rintro k (e|e|⟨p,hp,e|e⟩)
 ·rw[e];exact zdj h.pt (by decide) (by decide) (by decide) (by decide)
 ·exact ztm h.ps.row (by decide) (by decide) (by decide) (by decide) k e
 ·exact ztm (h.ps.each p hp).vr (by decide) (by decide) (by decide) (by decide) k e
 ·exact ztm (h.ps.each p hp).mr (by decide) (by decide) (by decide) (by decide) k e
include hst
theorem SP.kb {w':World}(h:SP PM w B far gp v ps)(hk:Kb w w'):SP PM w' B far gp v ps:=by
 have hno:=zn2 h
 refine ⟨h.pt.kept hk (hno gp (.inl rfl)),⟨zan h.ps.row hk (fun k e=>hno k (.inr (.inl e))),fun p hp=>?_,h.ps.ap,h.ps.fo,h.ps.fp⟩,h.bg,h.fg⟩
 exact (h.ps.each p hp).alt hst hk (fun k _ e => .inr e) (fun k e=>hno k (.inr (.inr ⟨p,hp,e⟩))) (fun _ _ h=>h)
end
theorem BX.alt {w w':World}{B g gd room k:Nat}{C:Con}{ks:List Kt}{ns:List Nt}{bm:Nat}{A:Option Addr}{c:Nat}{S:St}{f:Int}{L:List Ly}(h:BX w B g gd room k C ks ns bm A c S f L){p:Nat→Prop}(ha:Alt w w' p)(hp:∀ q,q<w.heap.size→p q→¬ TB w q):BX w' B g gd room k C ks ns bm A c S f L:=by
 refine ⟨?_,h.2⟩
 have hz:=h.1
 have hno:∀ q,Mt g gd bm (Value.slice A S.xs.length c).ownBlock L q→q<w.heap.size→¬ p q:=fun q hq hlt hpq=>hp q hlt hpq (hz.tb hq)
 have hbk:=hz.bw.bk
 have hmp:∀ {K:Type} {kv:KeyV K} {b:Nat} {m:List (K×Value)},MapIs w kv b m→¬ p b:=fun hm hpb=>by
  obtain ⟨es,n,hb,_⟩:=hm
  exact hp _ (Array.getElem?_eq_some_iff.1 hb).1 hpb (.inl ⟨es,n,hb⟩)
 have hb8:∀ {q:Nat} {t:TypeId} {cs:Array Value},Blk w q t cs→(t=5∨t=96∨t=93∨t=155)→¬ p q:=fun hq ht hpq=>hp _ hq.lt hpq (.inr ⟨_,_,_,hq,ht⟩)
 refine ⟨⟨⟨hbk.blk.kept ha (hb8 hbk.blk (.inr (.inl rfl))),hbk.map.alt ha (hmp hbk.map),fun l hl=>?_,hbk.gs,hbk.bs,hbk.sm⟩,hz.bw.dk.kept ha (hb8 hz.bw.dk (.inr (.inr (.inl rfl)))),hz.bw.own.keep ha (fun q hq=>?_),hz.bw.ok,hz.bw.fu,hz.bw.up,hz.bw.sf,Nat.le_trans hz.bw.b0l ha.size⟩,hz.hg,hz.hl⟩
 ·obtain ⟨h1,h2,h3⟩:=hbk.sh l hl
  refine ⟨h1.kept ha (hb8 h1 (.inr (.inr (.inr rfl)))),h2.alt ha (hmp h2),fun r hr=>?_⟩
  obtain ⟨ad,c',e,h0,hrb,hn,hrr⟩:=h3 r hr
  obtain ⟨ad',e',hlt,_⟩:=hrb h0
  injection e' with e'
  subst e'
  have hpa:¬ p ad.block:=by
   obtain ⟨_,cur,fr,hh,_⟩:=hrr
   exact fun hpq=>hp _ hlt hpq (.inr ⟨_,_,_,hh,.inl rfl⟩)
  exact ⟨ad,c',e,h0,hrb.keep ha (fun ad' e' hpp=>by injection e' with e';subst e';exact hpa hpp),hn,hrr.keep (ha.block _ hlt hpa)⟩
 ·obtain ⟨_,h2⟩:=hz.D q hq
  exact hno q (.inr (.inr (.inl hq.symm))) h2
theorem BT.alt {w w':World}{B g gd room k:Nat}{C:Con}(h:BT w B g gd room k C){p:Nat→Prop}(ha:Alt w w' p)(hp:∀ q,q<w.heap.size→p q→¬ TB w q):BT w' B g gd room k C:=by
 obtain ⟨ks,ns,bm,A,c,S,f,L,h1⟩:=h
 exact BX.bt (BX.alt h1 ha hp)
theorem zfs {k:Nat}{C':Con}{ps:List Pe}(hw:Wk k C')(hk:k≤900)(hks:∀ s∈C',KsOk s)(hp:(ps.map Pe.s).Perm C') :
  Small ps∧((ps.map Pe.s).map Sh.name).Nodup∧(∀ p∈ps,(p.ts.map (·.v)).Pairwise (· < ·))∧(∀ p∈ps,0<p.ts.length→hasV p.s p.o.live=true):=by
 have hm:∀ p∈ps,p.s∈C':=fun p h=>hp.mem_iff.1 (List.mem_map.2 ⟨p,h,rfl⟩)
 have hvl:∀ p:Pe,p.s.vs.length=p.ts.length:=fun p=>List.length_map _
 refine ⟨⟨?_,fun p h=>?_⟩,(hp.map Sh.name).nodup_iff.2 hw.nd,fun p h=>?_,fun p h h0=>?_⟩
 ·have:=hp.length_eq
  rw[List.length_map] at this
  have:=hw.len
  omega
 ·obtain ⟨h1,h2,h3,h4,h5,h6,h7⟩:=hw.sh _ (hm p h)
  rw[hvl] at h1
  have e1:p.s.next=p.o.next:=rfl
  have e2:p.s.live=p.o.live:=rfl
  omega
 ·have:=(hks _ (hm p h)).ri
  have e:p.s.vs.map (·.1)=p.ts.map (·.v):=by
   show (p.ts.map fun t=>(t.v,t.ms)).map (·.1)=_
   rw[List.map_map];rfl
  rw[e] at this
  exact this
 ·obtain ⟨h1,h2,h3,h4,h5,h6,h7⟩:=hw.sh _ (hm p h)
  exact (h7 (by rw[hvl];exact h0)).1
end Go.Proofs.YtmejdkniafjncaaGreatDoor.Oc
