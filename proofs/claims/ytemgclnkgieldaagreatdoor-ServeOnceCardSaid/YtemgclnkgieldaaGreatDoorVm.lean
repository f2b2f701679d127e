/- ServeOnce: the walk. -/
import Derived.Test.YtemgclnkgieldaaGreatDoorVl
set_option maxHeartbeats 40000000
set_option maxRecDepth 100000
namespace Go.Proofs.YtemgclnkgieldaaGreatDoor.Oc
open Go Go.RowKit Dk
def th1 (v:Nat):Bool:=decide (v≠0)
theorem zuv (th:Nat→Bool)(v:Nat)(h:v<4):(thA th)[v]? = some (.bool (th v)):=by
 have:v=0∨v=1∨v=2∨v=3:=by omega
 rcases this with rfl|rfl|rfl|rfl <;> rfl
theorem zb0 {sv:Value}{g n c N k:Nat}(h:sv.ownBlock=some g∨g=N+1)(hk:(Value.slice (some ⟨g,0,none⟩) n c).ownBlock=some k):sv.ownBlock=some k∨N≤k:=by
 have e3:g=k:=by simpa [Value.ownBlock] using hk
 rw[← e3]
 rcases h with h|h
 ·exact .inl h
 ·exact .inr (by omega)
theorem OW.below {PR:SMod}{M:List Int→Prop}{Cq:List Value→Prop}{P:Nat→List Int}{w wz w':World}{E:OE}{s:OS}(hst:StaysS PR)(h:OW PR M Cq P w wz E s)(hb:Below wz.heap.size wz w'):OW PR M Cq P w w' E s :=
 ⟨h.sv.below hst hb,h.bt.below hb,h.lv,zab h.pa hb,zab h.ta hb,zad h.r7 hb,zad h.r8 hb,zad h.r9 hb,h.a1,h.a2,h.be.trans (hb.mono h.be.size),h.tb⟩
theorem zbk {w w':World}{B B' n:Nat}{v sv:Value}{ts:List Td}{xs:List Value}(h:TRow w B v ts)(hr:w.ownsRow B' 3 1 sv n xs)(ha:Alt w w' (fun k=>sv.ownBlock=some k)):TRow w' B v ts :=
 zas h ha fun k hk e=>zjj h (by decide) k hk (zfx hr k e)
section
variable {PR:SMod}{M:List Int→Prop}{Cq:List Value→Prop}{ans:List Int→List Value→List Value×Int}{P:Nat→List Int}{qc:Int→List Value}(oh:OnceH PR M Cq ans P qc)
include oh
theorem once_walk (L:Option Addr)(n cl:Nat)(most wait:Int)(w:World)(hL:Raws w L n)(hn:n≤cl)(hn2:n≤9223372036854775807)(hLn:L=none→n=0) :
  Calls Tryz.prog 3 #[.slice L n cl,.int .i64 most,.int .i64 wait] w (OncePost w):=by
 have OH:=kA oh
 have HL:=kA hL
 have HFEW:=kA (fun V=>zul L n cl 24 V hn hn2 hLn (by decide))
 obtain ⟨m,hm⟩:∃ m,m=min n 24:=⟨_,rfl⟩
 rw[← hm] at HFEW
 have HM:=kA hm
 have hm24:m≤24:=by omega
 obtain ⟨W,hW,hW6⟩:=zfw wait 6 (by decide)
 obtain ⟨Mo,hMo,hMo4⟩:=zfw most 4 (by decide)
 have HPW:Hid (∀ V,Calls Tryz.prog 4 #[.int .i64 wait,.int .i64 6] V fun e w'=>e = .returned (.int .i64 (W:Int))∧V=w'):=kA (fun V=>by have h:=pick_any wait 6 V (by decide) (by decide);rw[show wait % 6=(W:Int) from hW] at h;exact h)
 have HPM:Hid (∀ V,Calls Tryz.prog 4 #[.int .i64 most,.int .i64 4] V fun e w'=>e = .returned (.int .i64 (Mo:Int))∧V=w'):=kA (fun V=>by have h:=pick_any most 4 V (by decide) (by decide);rw[show most % 4=(Mo:Int) from hMo] at h;exact h)
 have HFR:Hid (∀ V,Calls Tryz.prog 5 #[.int .i64 ((Mo:Int)+1),.int .i64 (W:Int)] V fun e w'=>∃ sp xp g gd,e = .returned (.tuple #[.pointer (some ⟨sp,0,none⟩),.pointer (some ⟨xp,0,none⟩),.bool true])∧SVw PR M Cq w' V.heap.size sp g (Mo+1) W 0 none 0 []∧BT w' V.heap.size g gd 4194304 0 []∧Below V.heap.size V w'):=kA (fun V=>zmr (Mo+1) W (by omega) (by omega) (by omega) V)
 have hwr1:IntKind.i64.wrap ((Mo:Int)+1)=(Mo:Int)+1:=qR _ (by omega)
 clear oh hL hn hn2 hLn hm hW hMo
 go_enter Tryz.func3,Tryz.ntmps3
 go_upto_region 2 with (first|(go_at_call 4;refine (HPW.out w).mono ?_;rintro e w1 ⟨rfl,rfl⟩))
 go_upto_region 3 with (first
  |(go_at_call 4;refine (HPM.out w).mono ?_;rintro e w1 ⟨rfl,rfl⟩)
  |(go_at_call 5;refine (HFR.out w).mono ?_;rintro e w2 ⟨sp,xp,g,gd,rfl,hsv,hbt,hb⟩;have HSV:=kA hsv;have HBT:=kA hbt;have HB:=kA hb;clear hsv hbt hb))
 clear HPW HPM HFR hwr1
 go_upto_region 6 with fail
 have HPA:Hid (Blk (w2.alloc (.cells #[.int .i64 1,.int .i64 3,.int .i64 5] 28)) w2.heap.size 28 #[.int .i64 1,.int .i64 3,.int .i64 5]):=kA (Blk.new w2 _ _)
 have HB3:Hid (Below w.heap.size w (w2.alloc (.cells #[.int .i64 1,.int .i64 3,.int .i64 5] 28))):=kA (HB.out.alloc HB.out.size _)
 have HSV3:Hid (SVw PR M Cq (w2.alloc (.cells #[.int .i64 1,.int .i64 3,.int .i64 5] 28)) w.heap.size sp g (Mo+1) W 0 none 0 []):=kA (HSV.out.below OH.out.sv.an.st (Below.new1 w2 _))
 have HBT3:Hid (BT (w2.alloc (.cells #[.int .i64 1,.int .i64 3,.int .i64 5] 28)) w.heap.size g gd 4194304 0 []):=kA (HBT.out.below (Below.new1 w2 _))
 have HPL:Hid (w.heap.size≤w2.heap.size):=kA HB.out.size
 obtain ⟨pa,hpa⟩:∃ pa,pa=w2.heap.size:=⟨_,rfl⟩
 rw[← hpa] at HPA HPL ⊢
 clear hpa HB HSV HBT
 generalize w2.alloc (.cells #[.int .i64 1,.int .i64 3,.int .i64 5] 28)=w3 at HPA HB3 HSV3 HBT3 ⊢
 go_wp2_with fail
 go_loopw [12] (fun v12 wz=>∃ (i:Nat) (gA:Option Addr) (gc:Nat),i≤3∧v12 = .int .i64 (i:Int)∧Hid (SVw PR M Cq wz w.heap.size sp g (Mo+1) W 0 gA gc []∧BT wz w.heap.size g gd 4194304 i (conP P i)∧Blk wz pa 28 #[.int .i64 1,.int .i64 3,.int .i64 5]∧Below w.heap.size w wz)) (fun v12 _=>3 - (intOf v12).toNat)
 case atStart=>exact ⟨0,none,0,by omega,rfl,kA ⟨HSV3.out,HBT3.out,HPA.out,HB3.out⟩⟩
 case round =>
  obtain ⟨i,gA,gc,hi,rfl,hx⟩:=hrel
  by_cases hlt:i<3
  ·have HX:=kA hx.out
   have hlt':(i:Int)<3:=by omega
   have y0:wr.cell? ⟨pa,i,none⟩=some (.int .i64 ((2*i+1:Nat):Int)):=(HX.out.2.2.1.cell i).trans (zuu i hlt)
   have HBY:Hid (∀ V,Calls Tryz.prog 7 #[.int .i64 ((2*i+1:Nat):Int)] V fun e w'=>∃ ad c,e = .returned (.slice (some ad) (P (i+1)).length c)∧RowR w' ad c (P (i+1))∧Below V.heap.size V w'):=kA (fun V=>zuj (OH.out.md i hlt) V)
   have HDO:Hid (∀ V,Below wr.heap.size wr V→∀ ad c,RowR V ad c (P (i+1))→Calls Tryz.prog 6 #[.pointer (some ⟨sp,0,none⟩),.agg #[.int .i64 1,.int .i64 99999,.int .i64 0,.int .i64 0,.string ⟨#[97]⟩,.slice (some ad) (P (i+1)).length c,.slice none 0 0]] V fun e w'=>∃ b c' gA' gc',e = .returned (.slice (some ⟨b,0,none⟩) 1 c')∧w'.cell? ⟨b,1,none⟩=some (.int .i64 ((i+1:Nat):Int))∧SVw PR M Cq w' w.heap.size sp g (Mo+1) W 0 gA' gc' []∧BT w' w.heap.size g gd 4194304 (i+1) (conP P (i+1))∧Kf V w'∧Below w.heap.size V w'):=kA (fun V hV ad c hr =>
    zum OH.out hlt (HX.out.1.below OH.out.sv.an.st hV) (HX.out.2.1.below hV) (kH HX.out.2.2.2.size hV.size) (by omega) hr)
   generalize (2*i+1:Nat)=j at y0 HBY
   generalize (P (i+1)).length=pl at HBY HDO
   clear hx
   go_upto_region 10 with (first
    |(go_at_call 7;refine (HBY.out wr).mono ?_;rintro e w4 ⟨ad,c,rfl,hr4,hb4⟩;have HR4:=kA hr4;have HB4:=kA hb4;clear hr4 hb4)
    |(go_at_call 6;refine (HDO.out w4 HB4.out ad c HR4.out).mono ?_;rintro e w5 ⟨b5,c5,gA5,gc5,rfl,y1,hs5,hb5,hk5,hl5⟩;have HS5:=kA hs5;have HB5:=kA hb5;have HK5:=kA hk5;have HL5:=kA hl5;clear hs5 hb5 hk5 hl5))
   have hwr:IntKind.i64.wrap ((i:Int)+1)=((i+1:Nat):Int):=(qR _ (by omega)).trans (by omega)
   have hwr2:IntKind.i64.wrap ((i:Int)+1)=(i:Int)+1:=qR _ (by omega)
   have HPA5:Hid (Blk w5 pa 28 #[.int .i64 1,.int .i64 3,.int .i64 5]):=kA ((zab HX.out.2.2.1 HB4.out).kept HK5.out (fun e=>zb4 (zab HX.out.2.2.1 HB4.out) (by decide) (by decide) (by decide) (by decide) (by decide) (by decide) (by decide) (by decide) e.1))
   go_wp2_with fail
   go_roundw
   case rel=>exact ⟨i+1,gA5,gc5,by omega,by first|rfl|go_num,kA ⟨HS5.out,HB5.out,HPA5.out,(HX.out.2.2.2.trans (HB4.out.mono HX.out.2.2.2.size)).trans HL5.out⟩⟩
   case measure=>simp[intOf];omega
  ·have hi3:i=3:=by omega
   subst hi3
   have HX:=kA hx.out
   clear hx
   go_upto_region 14 with fail
   have HX0:Hid (OW PR M Cq P w (wr.alloc (.cells #[.bool false,.bool true,.bool true,.bool true] 48)) ⟨sp,g,gd,Mo+1,W,pa,wr.heap.size⟩ ⟨1,0,3,gc,th1,.slice none 0 0,.slice none 0 0,.slice none 0 0,[],[],[],gA,[]⟩):=kA (by
    have hb:=Below.new1 wr (.cells #[.bool false,.bool true,.bool true,.bool true] 48)
    exact ⟨HX.out.1.below OH.out.sv.an.st hb,HX.out.2.1.below hb,⟨(kJ 1:1≤1),(by decide:(1:Nat)≤3),rfl,rfl⟩,zab HX.out.2.2.1 hb,Blk.new wr _ _,World.ownsRow_nil _ _ _ _,World.ownsRow_nil _ _ _ _,World.ownsRow_nil _ _ _ _,(fun _ h=>by cases h),(fun _ h=>by cases h),HX.out.2.2.2.trans (hb.mono HX.out.2.2.2.size),HX.out.2.2.2.size⟩)
   obtain ⟨ta,hta⟩:∃ ta,ta=wr.heap.size:=⟨_,rfl⟩
   rw[← hta] at HX0 ⊢
   clear hta HX
   generalize wr.alloc (.cells #[.bool false,.bool true,.bool true,.bool true] 48)=W0 at HX0 ⊢
   obtain ⟨E,hE⟩:∃ E:OE,E=⟨sp,g,gd,Mo+1,W,pa,ta⟩:=⟨_,rfl⟩
   rw[← hE] at HX0
   have HE:=kA hE
   have HPE:Hid (E.sp=sp∧E.ta=ta∧E.Mo=Mo+1∧E.W=W∧E.pa=pa):=kA (by rw[hE];exact ⟨rfl,rfl,rfl,rfl,rfl⟩)
   clear hE
   go_upto_region 18 with (first|(go_at_call 8;refine (HFEW.out W0).mono ?_;rintro e w7 ⟨rfl,rfl⟩))
   go_wp2_with fail
   go_loopw [14,15,17,18,19,20,21] (fun v14 v15 v17 v18 v19 v20 v21 wz=>∃ (i now:Nat) (s:OS) (got:List Td),i≤m∧v21 = .int .i64 (i:Int)∧v15 = .int .i64 (now:Int)∧v14 = .int .i64 (s.live:Int)∧v17=s.v17∧v18=s.v18∧v19=s.v19∧Hid (OL PR M Cq ans P qc w wz E s got i now∧TRow wz w.heap.size v20 got∧now≤2*i∧got.length≤1100*i)) (fun _ _ _ _ _ _ v21 _=>m - (intOf v21).toNat)
   case atStart=>exact ⟨0,0,_,[],kX _,rfl,rfl,rfl,rfl,rfl,rfl,kA ⟨⟨HX0.out,LI.start (by rw[HPE.out.2.2.1];omega),(kJ 3:3≤0+3),kJ _,kJ _,⟨fun _ h=>(by cases h),fun _ h=>(by cases h)⟩⟩,World.ownsRow_nil _ _ _ _,kJ _,kJ _⟩⟩
   case round =>
    obtain ⟨i,now,s,got,hi,rfl,rfl,rfl,rfl,rfl,rfl,hx⟩:=hrel
    by_cases hlt:i<m
    ·have HX:=kA hx.out
     obtain ⟨ad,rfl,hab,hcells⟩:=HL.out (by have:=HM.out;omega)
     obtain ⟨rK,hK⟩:=hcells i (by have:=HM.out;omega) 0 (by decide)
     obtain ⟨rV,hV⟩:=hcells i (by have:=HM.out;omega) 2 (by decide)
     obtain ⟨rT,hT⟩:=hcells i (by have:=HM.out;omega) 3 (by decide)
     obtain ⟨rN,hN⟩:=hcells i (by have:=HM.out;omega) 5 (by decide)
     have HCEL:Hid (∀ V,Below w.heap.size w V→V.cell? (ad.add (i*7))=some (.int .i64 rK)∧V.cell? ⟨(ad.add (i*7)).block,(ad.add (i*7)).off+2,none⟩=some (.int .i64 rV)∧V.cell? ⟨(ad.add (i*7)).block,(ad.add (i*7)).off+3,none⟩=some (.int .i64 rT)∧V.cell? ⟨(ad.add (i*7)).block,(ad.add (i*7)).off+5,none⟩=some (.int .i64 rN)):=kA (fun V hV'=>by
      rw[zib ad (i*7) 2 (by decide),zib ad (i*7) 3 (by decide),zib ad (i*7) 5 (by decide)]
      exact ⟨(hV'.cell (by rw[za8];exact hab)).trans hK,(hV'.cell (by rw[za8];exact hab)).trans hV,(hV'.cell (by rw[za8];exact hab)).trans hT,(hV'.cell (by rw[za8];exact hab)).trans hN⟩)
     obtain ⟨d,hd,hd3⟩:=zfw rT 3 (by decide)
     obtain ⟨v,hv,hv4⟩:=zfw rV 4 (by decide)
     obtain ⟨kd,hkd,hkd8⟩:=zfw rK 8 (by decide)
     have HPT:Hid (∀ V,Calls Tryz.prog 4 #[.int .i64 rT,.int .i64 3] V fun e w'=>e = .returned (.int .i64 (d:Int))∧V=w'):=kA (fun V=>by have h:=pick_any rT 3 V (by decide) (by decide);rw[show rT % 3=(d:Int) from hd] at h;exact h)
     have HPV:Hid (∀ V,Calls Tryz.prog 4 #[.int .i64 rV,.int .i64 4] V fun e w'=>e = .returned (.int .i64 (v:Int))∧V=w'):=kA (fun V=>by have h:=pick_any rV 4 V (by decide) (by decide);rw[show rV % 4=(v:Int) from hv] at h;exact h)
     have HPK:Hid (∀ V,Calls Tryz.prog 4 #[.int .i64 rK,.int .i64 8] V fun e w'=>e = .returned (.int .i64 (kd:Int))∧V=w'):=kA (fun V=>by have h:=pick_any rK 8 V (by decide) (by decide);rw[show rK % 8=(kd:Int) from hkd] at h;exact h)
     obtain ⟨c0,c2,c3,c5⟩:=HCEL.out wr HX.out.1.ow.be
     have hlt':(i:Int)<(m:Int):=by omega
     have hnow:now≤2*i:=HX.out.2.2.1
     have hwr:IntKind.i64.wrap ((now:Int)+(d:Int))=((now+d:Nat):Int):=(qR _ (by omega)).trans (by omega)
     clear hcells hK hV hT hN hd hv hkd hx
     go_upto_region 22 with (first
      |(go_at_call 4;refine (HPT.out wr).mono ?_;rintro e w1 ⟨rfl,rfl⟩))
     go_upto_region 24 with (first
      |(go_at_call 4;refine (HPV.out wr).mono ?_;rintro e w1 ⟨rfl,rfl⟩))
     go_upto_block 4 with (first
      |(go_at_call 4;refine (HPK.out wr).mono ?_;rintro e w1 ⟨rfl,rfl⟩))
     obtain ⟨nw,hnw⟩:∃ nw,nw=now+d:=⟨_,rfl⟩
     have hnwe:((now:Int)+(d:Int))=(nw:Int):=by omega
     have hle:now≤nw:=by omega
     have hnw9:nw≤2*(i+1):=by omega
     rw[hnwe]
     have htv:wr.cell? ⟨ta,v,none⟩=some (.bool (s.th v)):=by rw[← HPE.out.2.1];exact (HX.out.1.ow.ta.cell v).trans (zuv s.th v hv4)
     obtain ⟨b,hb⟩:∃ b,b=s.th v:=⟨_,rfl⟩
     rw[← hb] at htv
     have HBV:=kA hb
     have HJ:Hid (i≤40∧E.Mo≤5∧E.W≤10∧1≤E.Mo):=kA (by obtain ⟨_,_,h3,h4,_⟩:=HPE.out;rw[h3,h4];exact ⟨by omega,by omega,by omega,by omega⟩)
     clear hnwe hwr hnw hb c0 c2 c3
     go_cut [14,17,18,19,23] from 96 to 188 (fun v14 v17 v18 v19 v23 wx=>∃ (s':OS),v14 = .int .i64 (s'.live:Int)∧v17=s'.v17∧v18=s'.v18∧v19=s'.v19∧Hid (∃ ts,OL PR M Cq ans P qc w wx E s' (got++ts) (i+1) nw∧TRow wx w.heap.size u20 got∧TRow wx w.heap.size v23 ts∧ts.length≤1100))
     case first =>
      by_cases k2:kd=2
      ·subst k2
       have HDO:Hid (Calls Tryz.prog 6 #[.pointer (some ⟨sp,0,none⟩),.agg #[.int .i64 6,.int .i64 99999,.int .i64 0,.int .i64 (nw:Int),.string ⟨#[]⟩,.slice none 0 0,.slice none 0 0]] wr fun e w'=>∃ vv ts s',e = .returned vv∧TRow w' wr.heap.size vv ts∧OL PR M Cq ans P qc w w' E s' (got++ts) (i+1) nw∧Kf wr w'∧s'.live=s.live∧s'.th=s.th∧s'.v17=s.v17∧s'.v18=s.v18∧s'.v19=s.v19∧ts.length≤i+1):=kA (by
        have h1:=zun OH.out HX.out.1 HJ.out.1 HJ.out.2.1 HJ.out.2.2.1 hle (by have:=HJ.out.1;omega)
        rw[HPE.out.1] at h1
        exact h1)
       cases b <;> rcases Nat.eq_zero_or_pos v with h0|h0
       all_goals
        (try subst h0)
        go_wp2_with (first|(go_at_call 6;refine HDO.out.mono ?_;rintro e w8 ⟨vv,ts,s',rfl,htr,hol,hkf,e1,e2,e3,e4,e5,hl⟩;have HT8:=kA htr;have HO8:=kA hol;have HK8:=kA hkf;have HEE:=kA (And.intro e1 (And.intro e3 (And.intro e4 (And.intro e5 hl))));clear htr hol hkf e1 e2 e3 e4 e5 hl))
        go_meet
        exact ⟨s',by rw[HEE.out.1],HEE.out.2.1.symm,HEE.out.2.2.1.symm,HEE.out.2.2.2.1.symm,kA ⟨ts,HO8.out,HX.out.2.1.kf HK8.out,zau HT8.out HX.out.1.ow.be.size,by have:=HEE.out.2.2.2.2;have:=HJ.out.1;omega⟩⟩
      ·by_cases hP:kd=0∧0<v∧b=true
       ·obtain ⟨k0,hv0,hbt⟩:=hP
        subst k0
        subst hbt
        have HDO:Hid (Calls Tryz.prog 6 #[.pointer (some ⟨sp,0,none⟩),.agg #[.int .i64 2,.int .i64 99999,.int .i64 (v:Int),.int .i64 (nw:Int),.string ⟨#[97]⟩,.slice none 0 0,.slice none 0 0]] wr fun e w'=>∃ vv ts s',e = .returned vv∧TRow w' wr.heap.size vv ts∧OL PR M Cq ans P qc w w' E s' (got++ts) (i+1) nw∧Kf wr w'∧s'.live=v∧s'.th=s.th∧s'.v17=s.v17∧s'.v18=s.v18∧s'.v19=s.v19∧ts.length≤i+1):=kA (by
         have h1:=zrc OH.out HX.out.1 HJ.out.1 HJ.out.2.1 HJ.out.2.2.1 hle (by have:=HJ.out.1;omega) hv0 (by omega) HBV.out.symm
         rw[HPE.out.1] at h1
         exact h1)
        have hvp:decide ((0:Int)<(v:Int))=true:=kW (by omega)
        go_wp2_with (first|(go_at_call 6;refine HDO.out.mono ?_;rintro e w8 ⟨vv,ts,s',rfl,htr,hol,hkf,e1,e2,e3,e4,e5,hl⟩;have HT8:=kA htr;have HO8:=kA hol;have HK8:=kA hkf;have HEE:=kA (And.intro e1 (And.intro e3 (And.intro e4 (And.intro e5 hl))));clear htr hol hkf e1 e2 e3 e4 e5 hl))
        go_meet
        exact ⟨s',by rw[HEE.out.1],HEE.out.2.1.symm,HEE.out.2.2.1.symm,HEE.out.2.2.2.1.symm,kA ⟨ts,HO8.out,HX.out.2.1.kf HK8.out,zau HT8.out HX.out.1.ow.be.size,by have:=HEE.out.2.2.2.2;have:=HJ.out.1;omega⟩⟩
       ·by_cases hD:kd=1∧0<v∧b=true∧v≠s.live
        ·obtain ⟨k1,hv0,hbt,hvl⟩:=hD
         subst k1
         subst hbt
         have HDO:Hid (Calls Tryz.prog 6 #[.pointer (some ⟨sp,0,none⟩),.agg #[.int .i64 3,.int .i64 99999,.int .i64 (v:Int),.int .i64 (nw:Int),.string ⟨#[97]⟩,.slice none 0 0,.slice none 0 0]] wr fun e w'=>∃ vv ts s',e = .returned vv∧Blk w' ta 48 (thA s.th)∧TRow (w'.setCell ⟨ta,v,none⟩ (.bool false)) wr.heap.size vv ts∧OL PR M Cq ans P qc w (w'.setCell ⟨ta,v,none⟩ (.bool false)) E s' (got++ts) (i+1) nw∧(∀ B v0 ts0,TRow wr B v0 ts0→TRow (w'.setCell ⟨ta,v,none⟩ (.bool false)) B v0 ts0)∧s'.live=s.live∧s'.v17=s.v17∧s'.v18=s.v18∧s'.v19=s.v19∧ts.length≤i+1):=kA (by
          have h1:=zuo OH.out HX.out.1 HJ.out.1 HJ.out.2.1 HJ.out.2.2.1 hle (by have:=HJ.out.1;omega) hv0 (by omega) HBV.out.symm hvl
          rw[HPE.out.1,HPE.out.2.1] at h1
          exact h1)
         have hvp:decide ((0:Int)<(v:Int))=true:=kW (by omega)
         have hvq:((v:Int) == (s.live:Int))=false:=by rw[kS];omega
         have hv4':(v:Int)<4:=by omega
         clear hvl
         go_wp2_with (first|(go_at_call 6;refine HDO.out.mono ?_;rintro e w8 ⟨vv,ts,s',rfl,hbk,htr,hol,hkf,e1,e3,e4,e5,hl⟩;have z1:w8.cell? ⟨ta,v,none⟩=some (.bool (s.th v)):=(hbk.cell v).trans (zuv s.th v hv4);have zf:w8.frozen? ⟨ta,v,none⟩=false:=hbk.frozen v;have HT8:=kA htr;have HO8:=kA hol;have HK8:=kA hkf;have HEE:=kA (And.intro e1 (And.intro e3 (And.intro e4 (And.intro e5 hl))));clear hbk htr hol hkf e1 e3 e4 e5 hl))
         go_meet
         exact ⟨s',by rw[HEE.out.1],HEE.out.2.1.symm,HEE.out.2.2.1.symm,HEE.out.2.2.2.1.symm,kA ⟨ts,HO8.out,HK8.out _ _ _ HX.out.2.1,zau HT8.out HX.out.1.ow.be.size,by have:=HEE.out.2.2.2.2;have:=HJ.out.1;omega⟩⟩
        ·by_cases hS:0<v∧b=false
         ·obtain ⟨hv0,hbt⟩:=hS
          subst hbt
          have hvp:decide ((0:Int)<(v:Int))=true:=kW (by omega)
          have hvz:((v:Int) == 0)=false:=by rw[kS];omega
          clear hP hD
          have hk2:((kd:Int) == 2)=false:=by rw[kS];omega
          clear k2
          rcases (show kd=0∨kd=1∨(kd≠0∧kd≠1) by omega) with k0|k0|k0
          ·subst k0
           go_wp2_with fail
           go_meet
           exact ⟨s,rfl,rfl,rfl,rfl,kA ⟨[],HX.out.1.later hle,HX.out.2.1,World.ownsRow_nil _ _ _ _,kX _⟩⟩
          ·subst k0
           go_wp2_with fail
           go_meet
           exact ⟨s,rfl,rfl,rfl,rfl,kA ⟨[],HX.out.1.later hle,HX.out.2.1,World.ownsRow_nil _ _ _ _,kX _⟩⟩
          ·have hk0:((kd:Int) == 0)=false:=by rw[kS];omega
           have hk1:((kd:Int) == 1)=false:=by rw[kS];omega
           clear k0
           go_wp2_with fail
           go_meet
           exact ⟨s,rfl,rfl,rfl,rfl,kA ⟨[],HX.out.1.later hle,HX.out.2.1,World.ownsRow_nil _ _ _ _,kX _⟩⟩
         ·obtain ⟨iI,hi0,hz0,hz1,hz2⟩:=info_parts ztn
          have HII:=kA hi0
          have HI0:=kA hz0
          have HI1:=kA hz1
          have HI2:=kA hz2
          clear hi0 hz0 hz1 hz2
          rcases Nat.eq_zero_or_pos v with hv0|hv0
          ·subst hv0
           have hk2:((kd:Int) == 2)=false:=by rw[kS];omega
           clear k2 hP hD hS
           rcases (show kd=0∨kd=1∨(kd≠0∧kd≠1) by omega) with k0|k0|k0
           ·subst k0
            have HOW:=kA HX.out.1.ow
            have hal:=HX.out.1.al
            have hi40:=HJ.out.1
            obtain ⟨la,hla⟩:∃ x,x=s.at_.length:=⟨_,rfl⟩
            have hlo:s.of_.length=la:=by rw[hla];exact HX.out.1.li.l1
            have hlx:s.x.length=la:=by rw[hla];exact HX.out.1.li.l2
            go_upto_region 37 with (at_builtin;go_loud (refine wpList_append_lies (wr.alloc (.cells #[.int .i64 (s.live:Int)] 3)) rfl _ _ 49 rfl w.heap.size 3 iI (.int .i64 0) 1 8 Tryz.underlying49 HII.out HI0.out HI1.out HI2.out rfl (by decide) s.v18 s.of_.length _ rfl (zad HOW.out.r8 (Below.new1 wr _)) ⟨wr.heap.size,0,none⟩ 1 1 [.int .i64 (s.live:Int)] rfl rfl (za3 wr _ #[.int .i64 (s.live:Int)]) (fun u hu=>by rw[kP.1 hu];rfl) (by decide) (by unfold maxLen;omega) (by omega) (by have:=HOW.out.be.size;simp;omega) (wr.heap.size+1) (by simp) ?_;intro wag wac wa wao war wal wat;have hawa:=Alt.trans (alt_of_below (p:=fun k=>s.v18.ownBlock=some k) (Below.new1 wr _)) (Alt.grow war) (fun _ _ h=>h);have Hwa:=kA (OW.app8 OH.out.sti HOW.out wao hawa (fun k hk=>zb0 wal hk));have HTwa:=kA (zbk HX.out.2.1 HOW.out.r8 hawa);clear hawa wao war wal wat))
            go_upto_region 38 with (at_builtin;go_loud (refine wpList_append_lies (wa.alloc (.cells #[.int .i64 (nw:Int)] 3)) rfl _ _ 49 rfl w.heap.size 3 iI (.int .i64 0) 1 8 Tryz.underlying49 HII.out HI0.out HI1.out HI2.out rfl (by decide) s.v17 s.at_.length _ rfl (zad Hwa.out.r7 (Below.new1 wa _)) ⟨wa.heap.size,0,none⟩ 1 1 [.int .i64 (nw:Int)] rfl rfl (za3 wa _ #[.int .i64 (nw:Int)]) (fun u hu=>by rw[kP.1 hu];rfl) (by decide) (by unfold maxLen;omega) (by omega) (by have:=Hwa.out.be.size;simp;omega) (wa.heap.size+1) (by simp) ?_;intro wbg wbc wb wbo wbr wbl wbt;have hawb:=Alt.trans (alt_of_below (p:=fun k=>s.v17.ownBlock=some k) (Below.new1 wa _)) (Alt.grow wbr) (fun _ _ h=>h);have Hwb:=kA (OW.app7 OH.out.sti Hwa.out wbo hawb (fun k hk=>zb0 wbl hk));have HTwb:=kA (zbk HTwa.out Hwa.out.r7 hawb);clear hawb wbo wbr wbl wbt))
            obtain ⟨_,_,_,c5b⟩:=HCEL.out wb Hwb.out.be
            go_upto_region 39 with (at_builtin;go_loud (refine wpList_append_lies (wb.alloc (.cells #[.int .i64 rN] 3)) rfl _ _ 49 rfl w.heap.size 3 iI (.int .i64 0) 1 8 Tryz.underlying49 HII.out HI0.out HI1.out HI2.out rfl (by decide) s.v19 s.x.length _ rfl (zad Hwb.out.r9 (Below.new1 wb _)) ⟨wb.heap.size,0,none⟩ 1 1 [.int .i64 rN] rfl rfl (za3 wb _ #[.int .i64 rN]) (fun u hu=>by rw[kP.1 hu];rfl) (by decide) (by unfold maxLen;omega) (by omega) (by have:=Hwb.out.be.size;simp;omega) (wb.heap.size+1) (by simp) ?_;intro wdg wdc wd wdo wdr wdl wdt;have hawd:=Alt.trans (alt_of_below (p:=fun k=>s.v19.ownBlock=some k) (Below.new1 wb _)) (Alt.grow wdr) (fun _ _ h=>h);have Hwd:=kA (OW.app9 OH.out.sti Hwb.out wdo hawd (fun k hk=>zb0 wdl hk));have HTwd:=kA (zbk HTwb.out Hwb.out.r9 hawd);clear hawd wdo wdr wdl wdt))
            obtain ⟨_,_,_,c5d⟩:=HCEL.out wd Hwd.out.be
            have hwl:IntKind.i64.wrap (((s.at_.length:Int)+1) - 1)=(s.at_.length:Int):=(qR _ (by omega)).trans (by omega)
            have hwl2:IntKind.i64.wrap (((s.at_.length+1:Nat):Int) - 1)=(s.at_.length:Int):=(qR _ (by omega)).trans (by omega)
            have HCC:=kA (zdl OH.out.q rN wd)
            have HDO:Hid (∀ V,Below wd.heap.size wd V→∀ cb,V.ownsRow 0 124 7 (.slice (some ⟨cb,0,none⟩) 2 2) 2 (cxOf qc rN)→Calls Tryz.prog 6 #[.pointer (some ⟨sp,0,none⟩),.agg #[.int .i64 4,.int .i64 (s.at_.length:Int),.int .i64 0,.int .i64 (nw:Int),.string ⟨#[97]⟩,.slice none 0 0,.slice (some ⟨cb,0,none⟩) 2 2]] V fun e w'=>∃ vv ts s',e = .returned vv∧TRow w' V.heap.size vv ts∧OL PR M Cq ans P qc w w' E s' (got++ts) (i+1) nw∧Kf V w'∧s'.live=s.live∧s'.th=s.th∧s'.v17 = .slice (some ⟨wbg,0,none⟩) (s.at_.length+1) wbc∧s'.v18 = .slice (some ⟨wag,0,none⟩) (s.of_.length+1) wac∧s'.v19 = .slice (some ⟨wdg,0,none⟩) (s.x.length+1) wdc∧ts.length≤1100):=kA (fun V hV cb hcb=>by
             have h1:=zfy OH.out HX.out.1 HJ.out.1 HJ.out.2.2.2 HJ.out.2.1 HJ.out.2.2.1 hle (by have:=HJ.out.1;omega) (v:=0) (kv:=s.live) (by rfl) (by omega) (by exact .inl rfl) (Hwd.out.below OH.out.sv.an.st hV) hcb
             rw[HPE.out.1] at h1
             exact h1)
            go_wp2_with (first|(go_at_call 9;refine HCC.out.mono ?_;rintro e we ⟨cb,rfl,hcr,hbe⟩;have HCR:=kA (zau hcr (kX _));have HBE:=kA hbe;clear hcr hbe)|(go_at_call 6;refine (HDO.out we HBE.out cb HCR.out).mono ?_;rintro e w8 ⟨vv,ts,s',rfl,htr,hol,hkf,e1,e2,e3,e4,e5,hl⟩;have HT8:=kA htr;have HO8:=kA hol;have HK8:=kA hkf;have HEE:=kA (And.intro e1 (And.intro e3 (And.intro e4 (And.intro e5 hl))));clear htr hol hkf e1 e2 e3 e4 e5 hl))
            go_meet
            exact ⟨s',by rw[HEE.out.1],HEE.out.2.1.symm,(by have h:=HEE.out.2.2.1;rw[show s.of_.length=s.at_.length from hlo.trans hla] at h;exact h.symm),(by have h:=HEE.out.2.2.2.1;rw[show s.x.length=s.at_.length from hlx.trans hla] at h;exact h.symm),kA ⟨ts,HO8.out,TRow.kf (zad HTwd.out HBE.out) HK8.out,zau HT8.out (kH Hwd.out.be.size HBE.out.size),HEE.out.2.2.2.2⟩⟩
           ·subst k0
            have HOW:=kA HX.out.1.ow
            have hal:=HX.out.1.al
            have hi40:=HJ.out.1
            obtain ⟨la,hla⟩:∃ x,x=s.at_.length:=⟨_,rfl⟩
            have hlo:s.of_.length=la:=by rw[hla];exact HX.out.1.li.l1
            have hlx:s.x.length=la:=by rw[hla];exact HX.out.1.li.l2
            go_upto_region 37 with (at_builtin;go_loud (refine wpList_append_lies (wr.alloc (.cells #[.int .i64 (s.live:Int)] 3)) rfl _ _ 49 rfl w.heap.size 3 iI (.int .i64 0) 1 8 Tryz.underlying49 HII.out HI0.out HI1.out HI2.out rfl (by decide) s.v18 s.of_.length _ rfl (zad HOW.out.r8 (Below.new1 wr _)) ⟨wr.heap.size,0,none⟩ 1 1 [.int .i64 (s.live:Int)] rfl rfl (za3 wr _ #[.int .i64 (s.live:Int)]) (fun u hu=>by rw[kP.1 hu];rfl) (by decide) (by unfold maxLen;omega) (by omega) (by have:=HOW.out.be.size;simp;omega) (wr.heap.size+1) (by simp) ?_;intro wag wac wa wao war wal wat;have hawa:=Alt.trans (alt_of_below (p:=fun k=>s.v18.ownBlock=some k) (Below.new1 wr _)) (Alt.grow war) (fun _ _ h=>h);have Hwa:=kA (OW.app8 OH.out.sti HOW.out wao hawa (fun k hk=>zb0 wal hk));have HTwa:=kA (zbk HX.out.2.1 HOW.out.r8 hawa);clear hawa wao war wal wat))
            go_upto_region 38 with (at_builtin;go_loud (refine wpList_append_lies (wa.alloc (.cells #[.int .i64 (nw:Int)] 3)) rfl _ _ 49 rfl w.heap.size 3 iI (.int .i64 0) 1 8 Tryz.underlying49 HII.out HI0.out HI1.out HI2.out rfl (by decide) s.v17 s.at_.length _ rfl (zad Hwa.out.r7 (Below.new1 wa _)) ⟨wa.heap.size,0,none⟩ 1 1 [.int .i64 (nw:Int)] rfl rfl (za3 wa _ #[.int .i64 (nw:Int)]) (fun u hu=>by rw[kP.1 hu];rfl) (by decide) (by unfold maxLen;omega) (by omega) (by have:=Hwa.out.be.size;simp;omega) (wa.heap.size+1) (by simp) ?_;intro wbg wbc wb wbo wbr wbl wbt;have hawb:=Alt.trans (alt_of_below (p:=fun k=>s.v17.ownBlock=some k) (Below.new1 wa _)) (Alt.grow wbr) (fun _ _ h=>h);have Hwb:=kA (OW.app7 OH.out.sti Hwa.out wbo hawb (fun k hk=>zb0 wbl hk));have HTwb:=kA (zbk HTwa.out Hwa.out.r7 hawb);clear hawb wbo wbr wbl wbt))
            obtain ⟨_,_,_,c5b⟩:=HCEL.out wb Hwb.out.be
            go_upto_region 39 with (at_builtin;go_loud (refine wpList_append_lies (wb.alloc (.cells #[.int .i64 rN] 3)) rfl _ _ 49 rfl w.heap.size 3 iI (.int .i64 0) 1 8 Tryz.underlying49 HII.out HI0.out HI1.out HI2.out rfl (by decide) s.v19 s.x.length _ rfl (zad Hwb.out.r9 (Below.new1 wb _)) ⟨wb.heap.size,0,none⟩ 1 1 [.int .i64 rN] rfl rfl (za3 wb _ #[.int .i64 rN]) (fun u hu=>by rw[kP.1 hu];rfl) (by decide) (by unfold maxLen;omega) (by omega) (by have:=Hwb.out.be.size;simp;omega) (wb.heap.size+1) (by simp) ?_;intro wdg wdc wd wdo wdr wdl wdt;have hawd:=Alt.trans (alt_of_below (p:=fun k=>s.v19.ownBlock=some k) (Below.new1 wb _)) (Alt.grow wdr) (fun _ _ h=>h);have Hwd:=kA (OW.app9 OH.out.sti Hwb.out wdo hawd (fun k hk=>zb0 wdl hk));have HTwd:=kA (zbk HTwb.out Hwb.out.r9 hawd);clear hawd wdo wdr wdl wdt))
            obtain ⟨_,_,_,c5d⟩:=HCEL.out wd Hwd.out.be
            have hwl:IntKind.i64.wrap (((s.at_.length:Int)+1) - 1)=(s.at_.length:Int):=(qR _ (by omega)).trans (by omega)
            have hwl2:IntKind.i64.wrap (((s.at_.length+1:Nat):Int) - 1)=(s.at_.length:Int):=(qR _ (by omega)).trans (by omega)
            have HCC:=kA (zdl OH.out.q rN wd)
            have HDO:Hid (∀ V,Below wd.heap.size wd V→∀ cb,V.ownsRow 0 124 7 (.slice (some ⟨cb,0,none⟩) 2 2) 2 (cxOf qc rN)→Calls Tryz.prog 6 #[.pointer (some ⟨sp,0,none⟩),.agg #[.int .i64 4,.int .i64 (s.at_.length:Int),.int .i64 0,.int .i64 (nw:Int),.string ⟨#[97]⟩,.slice none 0 0,.slice (some ⟨cb,0,none⟩) 2 2]] V fun e w'=>∃ vv ts s',e = .returned vv∧TRow w' V.heap.size vv ts∧OL PR M Cq ans P qc w w' E s' (got++ts) (i+1) nw∧Kf V w'∧s'.live=s.live∧s'.th=s.th∧s'.v17 = .slice (some ⟨wbg,0,none⟩) (s.at_.length+1) wbc∧s'.v18 = .slice (some ⟨wag,0,none⟩) (s.of_.length+1) wac∧s'.v19 = .slice (some ⟨wdg,0,none⟩) (s.x.length+1) wdc∧ts.length≤1100):=kA (fun V hV cb hcb=>by
             have h1:=zfy OH.out HX.out.1 HJ.out.1 HJ.out.2.2.2 HJ.out.2.1 HJ.out.2.2.1 hle (by have:=HJ.out.1;omega) (v:=0) (kv:=s.live) (by rfl) (by omega) (by exact .inl rfl) (Hwd.out.below OH.out.sv.an.st hV) hcb
             rw[HPE.out.1] at h1
             exact h1)
            go_wp2_with (first|(go_at_call 9;refine HCC.out.mono ?_;rintro e we ⟨cb,rfl,hcr,hbe⟩;have HCR:=kA (zau hcr (kX _));have HBE:=kA hbe;clear hcr hbe)|(go_at_call 6;refine (HDO.out we HBE.out cb HCR.out).mono ?_;rintro e w8 ⟨vv,ts,s',rfl,htr,hol,hkf,e1,e2,e3,e4,e5,hl⟩;have HT8:=kA htr;have HO8:=kA hol;have HK8:=kA hkf;have HEE:=kA (And.intro e1 (And.intro e3 (And.intro e4 (And.intro e5 hl))));clear htr hol hkf e1 e2 e3 e4 e5 hl))
            go_meet
            exact ⟨s',by rw[HEE.out.1],HEE.out.2.1.symm,(by have h:=HEE.out.2.2.1;rw[show s.of_.length=s.at_.length from hlo.trans hla] at h;exact h.symm),(by have h:=HEE.out.2.2.2.1;rw[show s.x.length=s.at_.length from hlx.trans hla] at h;exact h.symm),kA ⟨ts,HO8.out,TRow.kf (zad HTwd.out HBE.out) HK8.out,zau HT8.out (kH Hwd.out.be.size HBE.out.size),HEE.out.2.2.2.2⟩⟩
           ·have hk0:((kd:Int) == 0)=false:=by rw[kS];omega
            have hk1:((kd:Int) == 1)=false:=by rw[kS];omega
            clear k0
            have HOW:=kA HX.out.1.ow
            have hal:=HX.out.1.al
            have hi40:=HJ.out.1
            obtain ⟨la,hla⟩:∃ x,x=s.at_.length:=⟨_,rfl⟩
            have hlo:s.of_.length=la:=by rw[hla];exact HX.out.1.li.l1
            have hlx:s.x.length=la:=by rw[hla];exact HX.out.1.li.l2
            go_upto_region 37 with (at_builtin;go_loud (refine wpList_append_lies (wr.alloc (.cells #[.int .i64 (s.live:Int)] 3)) rfl _ _ 49 rfl w.heap.size 3 iI (.int .i64 0) 1 8 Tryz.underlying49 HII.out HI0.out HI1.out HI2.out rfl (by decide) s.v18 s.of_.length _ rfl (zad HOW.out.r8 (Below.new1 wr _)) ⟨wr.heap.size,0,none⟩ 1 1 [.int .i64 (s.live:Int)] rfl rfl (za3 wr _ #[.int .i64 (s.live:Int)]) (fun u hu=>by rw[kP.1 hu];rfl) (by decide) (by unfold maxLen;omega) (by omega) (by have:=HOW.out.be.size;simp;omega) (wr.heap.size+1) (by simp) ?_;intro wag wac wa wao war wal wat;have hawa:=Alt.trans (alt_of_below (p:=fun k=>s.v18.ownBlock=some k) (Below.new1 wr _)) (Alt.grow war) (fun _ _ h=>h);have Hwa:=kA (OW.app8 OH.out.sti HOW.out wao hawa (fun k hk=>zb0 wal hk));have HTwa:=kA (zbk HX.out.2.1 HOW.out.r8 hawa);clear hawa wao war wal wat))
            go_upto_region 38 with (at_builtin;go_loud (refine wpList_append_lies (wa.alloc (.cells #[.int .i64 (nw:Int)] 3)) rfl _ _ 49 rfl w.heap.size 3 iI (.int .i64 0) 1 8 Tryz.underlying49 HII.out HI0.out HI1.out HI2.out rfl (by decide) s.v17 s.at_.length _ rfl (zad Hwa.out.r7 (Below.new1 wa _)) ⟨wa.heap.size,0,none⟩ 1 1 [.int .i64 (nw:Int)] rfl rfl (za3 wa _ #[.int .i64 (nw:Int)]) (fun u hu=>by rw[kP.1 hu];rfl) (by decide) (by unfold maxLen;omega) (by omega) (by have:=Hwa.out.be.size;simp;omega) (wa.heap.size+1) (by simp) ?_;intro wbg wbc wb wbo wbr wbl wbt;have hawb:=Alt.trans (alt_of_below (p:=fun k=>s.v17.ownBlock=some k) (Below.new1 wa _)) (Alt.grow wbr) (fun _ _ h=>h);have Hwb:=kA (OW.app7 OH.out.sti Hwa.out wbo hawb (fun k hk=>zb0 wbl hk));have HTwb:=kA (zbk HTwa.out Hwa.out.r7 hawb);clear hawb wbo wbr wbl wbt))
            obtain ⟨_,_,_,c5b⟩:=HCEL.out wb Hwb.out.be
            go_upto_region 39 with (at_builtin;go_loud (refine wpList_append_lies (wb.alloc (.cells #[.int .i64 rN] 3)) rfl _ _ 49 rfl w.heap.size 3 iI (.int .i64 0) 1 8 Tryz.underlying49 HII.out HI0.out HI1.out HI2.out rfl (by decide) s.v19 s.x.length _ rfl (zad Hwb.out.r9 (Below.new1 wb _)) ⟨wb.heap.size,0,none⟩ 1 1 [.int .i64 rN] rfl rfl (za3 wb _ #[.int .i64 rN]) (fun u hu=>by rw[kP.1 hu];rfl) (by decide) (by unfold maxLen;omega) (by omega) (by have:=Hwb.out.be.size;simp;omega) (wb.heap.size+1) (by simp) ?_;intro wdg wdc wd wdo wdr wdl wdt;have hawd:=Alt.trans (alt_of_below (p:=fun k=>s.v19.ownBlock=some k) (Below.new1 wb _)) (Alt.grow wdr) (fun _ _ h=>h);have Hwd:=kA (OW.app9 OH.out.sti Hwb.out wdo hawd (fun k hk=>zb0 wdl hk));have HTwd:=kA (zbk HTwb.out Hwb.out.r9 hawd);clear hawd wdo wdr wdl wdt))
            obtain ⟨_,_,_,c5d⟩:=HCEL.out wd Hwd.out.be
            have hwl:IntKind.i64.wrap (((s.at_.length:Int)+1) - 1)=(s.at_.length:Int):=(qR _ (by omega)).trans (by omega)
            have hwl2:IntKind.i64.wrap (((s.at_.length+1:Nat):Int) - 1)=(s.at_.length:Int):=(qR _ (by omega)).trans (by omega)
            have HCC:=kA (zdl OH.out.q rN wd)
            have HDO:Hid (∀ V,Below wd.heap.size wd V→∀ cb,V.ownsRow 0 124 7 (.slice (some ⟨cb,0,none⟩) 2 2) 2 (cxOf qc rN)→Calls Tryz.prog 6 #[.pointer (some ⟨sp,0,none⟩),.agg #[.int .i64 4,.int .i64 (s.at_.length:Int),.int .i64 0,.int .i64 (nw:Int),.string ⟨#[97]⟩,.slice none 0 0,.slice (some ⟨cb,0,none⟩) 2 2]] V fun e w'=>∃ vv ts s',e = .returned vv∧TRow w' V.heap.size vv ts∧OL PR M Cq ans P qc w w' E s' (got++ts) (i+1) nw∧Kf V w'∧s'.live=s.live∧s'.th=s.th∧s'.v17 = .slice (some ⟨wbg,0,none⟩) (s.at_.length+1) wbc∧s'.v18 = .slice (some ⟨wag,0,none⟩) (s.of_.length+1) wac∧s'.v19 = .slice (some ⟨wdg,0,none⟩) (s.x.length+1) wdc∧ts.length≤1100):=kA (fun V hV cb hcb=>by
             have h1:=zfy OH.out HX.out.1 HJ.out.1 HJ.out.2.2.2 HJ.out.2.1 HJ.out.2.2.1 hle (by have:=HJ.out.1;omega) (v:=0) (kv:=s.live) (by rfl) (by omega) (by exact .inl rfl) (Hwd.out.below OH.out.sv.an.st hV) hcb
             rw[HPE.out.1] at h1
             exact h1)
            go_wp2_with (first|(go_at_call 9;refine HCC.out.mono ?_;rintro e we ⟨cb,rfl,hcr,hbe⟩;have HCR:=kA (zau hcr (kX _));have HBE:=kA hbe;clear hcr hbe)|(go_at_call 6;refine (HDO.out we HBE.out cb HCR.out).mono ?_;rintro e w8 ⟨vv,ts,s',rfl,htr,hol,hkf,e1,e2,e3,e4,e5,hl⟩;have HT8:=kA htr;have HO8:=kA hol;have HK8:=kA hkf;have HEE:=kA (And.intro e1 (And.intro e3 (And.intro e4 (And.intro e5 hl))));clear htr hol hkf e1 e2 e3 e4 e5 hl))
            go_meet
            exact ⟨s',by rw[HEE.out.1],HEE.out.2.1.symm,(by have h:=HEE.out.2.2.1;rw[show s.of_.length=s.at_.length from hlo.trans hla] at h;exact h.symm),(by have h:=HEE.out.2.2.2.1;rw[show s.x.length=s.at_.length from hlx.trans hla] at h;exact h.symm),kA ⟨ts,HO8.out,TRow.kf (zad HTwd.out HBE.out) HK8.out,zau HT8.out (kH Hwd.out.be.size HBE.out.size),HEE.out.2.2.2.2⟩⟩
          ·have hbt:b=true:=by cases b with
            |true=>rfl
            |false=>exact absurd ⟨hv0,rfl⟩ hS
           subst hbt
           have hvz:((v:Int) == 0)=false:=by rw[kS];omega
           have hvp:decide ((0:Int)<(v:Int))=true:=kW (by omega)
           have hv4':(v:Int)<4:=by omega
           have hk2:((kd:Int) == 2)=false:=by rw[kS];omega
           have hk0n:kd≠0:=fun e=>hP ⟨e,hv0,rfl⟩
           have hkl:kd=1→v=s.live:=fun e=>Classical.byContradiction fun e2=>hD ⟨e,hv0,rfl,e2⟩
           clear k2 hP hD hS
           rcases (show kd=1∨kd≠1 by omega) with k0|k0
           ·have hvl:=hkl k0
            subst k0
            have hvq:((v:Int) == (s.live:Int))=true:=by rw[hvl];simp
            clear hkl hvl hk0n
            have HOW:=kA HX.out.1.ow
            have hal:=HX.out.1.al
            have hi40:=HJ.out.1
            obtain ⟨la,hla⟩:∃ x,x=s.at_.length:=⟨_,rfl⟩
            have hlo:s.of_.length=la:=by rw[hla];exact HX.out.1.li.l1
            have hlx:s.x.length=la:=by rw[hla];exact HX.out.1.li.l2
            go_upto_region 37 with (at_builtin;go_loud (refine wpList_append_lies (wr.alloc (.cells #[.int .i64 (v:Int)] 3)) rfl _ _ 49 rfl w.heap.size 3 iI (.int .i64 0) 1 8 Tryz.underlying49 HII.out HI0.out HI1.out HI2.out rfl (by decide) s.v18 s.of_.length _ rfl (zad HOW.out.r8 (Below.new1 wr _)) ⟨wr.heap.size,0,none⟩ 1 1 [.int .i64 (v:Int)] rfl rfl (za3 wr _ #[.int .i64 (v:Int)]) (fun u hu=>by rw[kP.1 hu];rfl) (by decide) (by unfold maxLen;omega) (by omega) (by have:=HOW.out.be.size;simp;omega) (wr.heap.size+1) (by simp) ?_;intro wag wac wa wao war wal wat;have hawa:=Alt.trans (alt_of_below (p:=fun k=>s.v18.ownBlock=some k) (Below.new1 wr _)) (Alt.grow war) (fun _ _ h=>h);have Hwa:=kA (OW.app8 OH.out.sti HOW.out wao hawa (fun k hk=>zb0 wal hk));have HTwa:=kA (zbk HX.out.2.1 HOW.out.r8 hawa);clear hawa wao war wal wat))
            go_upto_region 38 with (at_builtin;go_loud (refine wpList_append_lies (wa.alloc (.cells #[.int .i64 (nw:Int)] 3)) rfl _ _ 49 rfl w.heap.size 3 iI (.int .i64 0) 1 8 Tryz.underlying49 HII.out HI0.out HI1.out HI2.out rfl (by decide) s.v17 s.at_.length _ rfl (zad Hwa.out.r7 (Below.new1 wa _)) ⟨wa.heap.size,0,none⟩ 1 1 [.int .i64 (nw:Int)] rfl rfl (za3 wa _ #[.int .i64 (nw:Int)]) (fun u hu=>by rw[kP.1 hu];rfl) (by decide) (by unfold maxLen;omega) (by omega) (by have:=Hwa.out.be.size;simp;omega) (wa.heap.size+1) (by simp) ?_;intro wbg wbc wb wbo wbr wbl wbt;have hawb:=Alt.trans (alt_of_below (p:=fun k=>s.v17.ownBlock=some k) (Below.new1 wa _)) (Alt.grow wbr) (fun _ _ h=>h);have Hwb:=kA (OW.app7 OH.out.sti Hwa.out wbo hawb (fun k hk=>zb0 wbl hk));have HTwb:=kA (zbk HTwa.out Hwa.out.r7 hawb);clear hawb wbo wbr wbl wbt))
            obtain ⟨_,_,_,c5b⟩:=HCEL.out wb Hwb.out.be
            go_upto_region 39 with (at_builtin;go_loud (refine wpList_append_lies (wb.alloc (.cells #[.int .i64 rN] 3)) rfl _ _ 49 rfl w.heap.size 3 iI (.int .i64 0) 1 8 Tryz.underlying49 HII.out HI0.out HI1.out HI2.out rfl (by decide) s.v19 s.x.length _ rfl (zad Hwb.out.r9 (Below.new1 wb _)) ⟨wb.heap.size,0,none⟩ 1 1 [.int .i64 rN] rfl rfl (za3 wb _ #[.int .i64 rN]) (fun u hu=>by rw[kP.1 hu];rfl) (by decide) (by unfold maxLen;omega) (by omega) (by have:=Hwb.out.be.size;simp;omega) (wb.heap.size+1) (by simp) ?_;intro wdg wdc wd wdo wdr wdl wdt;have hawd:=Alt.trans (alt_of_below (p:=fun k=>s.v19.ownBlock=some k) (Below.new1 wb _)) (Alt.grow wdr) (fun _ _ h=>h);have Hwd:=kA (OW.app9 OH.out.sti Hwb.out wdo hawd (fun k hk=>zb0 wdl hk));have HTwd:=kA (zbk HTwb.out Hwb.out.r9 hawd);clear hawd wdo wdr wdl wdt))
            obtain ⟨_,_,_,c5d⟩:=HCEL.out wd Hwd.out.be
            have hwl:IntKind.i64.wrap (((s.at_.length:Int)+1) - 1)=(s.at_.length:Int):=(qR _ (by omega)).trans (by omega)
            have hwl2:IntKind.i64.wrap (((s.at_.length+1:Nat):Int) - 1)=(s.at_.length:Int):=(qR _ (by omega)).trans (by omega)
            have HCC:=kA (zdl OH.out.q rN wd)
            have HDO:Hid (∀ V,Below wd.heap.size wd V→∀ cb,V.ownsRow 0 124 7 (.slice (some ⟨cb,0,none⟩) 2 2) 2 (cxOf qc rN)→Calls Tryz.prog 6 #[.pointer (some ⟨sp,0,none⟩),.agg #[.int .i64 4,.int .i64 (s.at_.length:Int),.int .i64 (v:Int),.int .i64 (nw:Int),.string ⟨#[97]⟩,.slice none 0 0,.slice (some ⟨cb,0,none⟩) 2 2]] V fun e w'=>∃ vv ts s',e = .returned vv∧TRow w' V.heap.size vv ts∧OL PR M Cq ans P qc w w' E s' (got++ts) (i+1) nw∧Kf V w'∧s'.live=s.live∧s'.th=s.th∧s'.v17 = .slice (some ⟨wbg,0,none⟩) (s.at_.length+1) wbc∧s'.v18 = .slice (some ⟨wag,0,none⟩) (s.of_.length+1) wac∧s'.v19 = .slice (some ⟨wdg,0,none⟩) (s.x.length+1) wdc∧ts.length≤1100):=kA (fun V hV cb hcb=>by
             have h1:=zfy OH.out HX.out.1 HJ.out.1 HJ.out.2.2.2 HJ.out.2.1 HJ.out.2.2.1 hle (by have:=HJ.out.1;omega) (v:=v) (kv:=v) (by rw[kT (by omega)]) (by omega) (by exact .inr HBV.out.symm) (Hwd.out.below OH.out.sv.an.st hV) hcb
             rw[HPE.out.1] at h1
             exact h1)
            go_wp2_with (first|(go_at_call 9;refine HCC.out.mono ?_;rintro e we ⟨cb,rfl,hcr,hbe⟩;have HCR:=kA (zau hcr (kX _));have HBE:=kA hbe;clear hcr hbe)|(go_at_call 6;refine (HDO.out we HBE.out cb HCR.out).mono ?_;rintro e w8 ⟨vv,ts,s',rfl,htr,hol,hkf,e1,e2,e3,e4,e5,hl⟩;have HT8:=kA htr;have HO8:=kA hol;have HK8:=kA hkf;have HEE:=kA (And.intro e1 (And.intro e3 (And.intro e4 (And.intro e5 hl))));clear htr hol hkf e1 e2 e3 e4 e5 hl))
            go_meet
            exact ⟨s',by rw[HEE.out.1],HEE.out.2.1.symm,(by have h:=HEE.out.2.2.1;rw[show s.of_.length=s.at_.length from hlo.trans hla] at h;exact h.symm),(by have h:=HEE.out.2.2.2.1;rw[show s.x.length=s.at_.length from hlx.trans hla] at h;exact h.symm),kA ⟨ts,HO8.out,TRow.kf (zad HTwd.out HBE.out) HK8.out,zau HT8.out (kH Hwd.out.be.size HBE.out.size),HEE.out.2.2.2.2⟩⟩
           ·have hk0:((kd:Int) == 0)=false:=by rw[kS];omega
            have hk1:((kd:Int) == 1)=false:=by rw[kS];omega
            clear k0 hkl hk0n
            have HOW:=kA HX.out.1.ow
            have hal:=HX.out.1.al
            have hi40:=HJ.out.1
            obtain ⟨la,hla⟩:∃ x,x=s.at_.length:=⟨_,rfl⟩
            have hlo:s.of_.length=la:=by rw[hla];exact HX.out.1.li.l1
            have hlx:s.x.length=la:=by rw[hla];exact HX.out.1.li.l2
            go_upto_region 37 with (at_builtin;go_loud (refine wpList_append_lies (wr.alloc (.cells #[.int .i64 (v:Int)] 3)) rfl _ _ 49 rfl w.heap.size 3 iI (.int .i64 0) 1 8 Tryz.underlying49 HII.out HI0.out HI1.out HI2.out rfl (by decide) s.v18 s.of_.length _ rfl (zad HOW.out.r8 (Below.new1 wr _)) ⟨wr.heap.size,0,none⟩ 1 1 [.int .i64 (v:Int)] rfl rfl (za3 wr _ #[.int .i64 (v:Int)]) (fun u hu=>by rw[kP.1 hu];rfl) (by decide) (by unfold maxLen;omega) (by omega) (by have:=HOW.out.be.size;simp;omega) (wr.heap.size+1) (by simp) ?_;intro wag wac wa wao war wal wat;have hawa:=Alt.trans (alt_of_below (p:=fun k=>s.v18.ownBlock=some k) (Below.new1 wr _)) (Alt.grow war) (fun _ _ h=>h);have Hwa:=kA (OW.app8 OH.out.sti HOW.out wao hawa (fun k hk=>zb0 wal hk));have HTwa:=kA (zbk HX.out.2.1 HOW.out.r8 hawa);clear hawa wao war wal wat))
            go_upto_region 38 with (at_builtin;go_loud (refine wpList_append_lies (wa.alloc (.cells #[.int .i64 (nw:Int)] 3)) rfl _ _ 49 rfl w.heap.size 3 iI (.int .i64 0) 1 8 Tryz.underlying49 HII.out HI0.out HI1.out HI2.out rfl (by decide) s.v17 s.at_.length _ rfl (zad Hwa.out.r7 (Below.new1 wa _)) ⟨wa.heap.size,0,none⟩ 1 1 [.int .i64 (nw:Int)] rfl rfl (za3 wa _ #[.int .i64 (nw:Int)]) (fun u hu=>by rw[kP.1 hu];rfl) (by decide) (by unfold maxLen;omega) (by omega) (by have:=Hwa.out.be.size;simp;omega) (wa.heap.size+1) (by simp) ?_;intro wbg wbc wb wbo wbr wbl wbt;have hawb:=Alt.trans (alt_of_below (p:=fun k=>s.v17.ownBlock=some k) (Below.new1 wa _)) (Alt.grow wbr) (fun _ _ h=>h);have Hwb:=kA (OW.app7 OH.out.sti Hwa.out wbo hawb (fun k hk=>zb0 wbl hk));have HTwb:=kA (zbk HTwa.out Hwa.out.r7 hawb);clear hawb wbo wbr wbl wbt))
            obtain ⟨_,_,_,c5b⟩:=HCEL.out wb Hwb.out.be
            go_upto_region 39 with (at_builtin;go_loud (refine wpList_append_lies (wb.alloc (.cells #[.int .i64 rN] 3)) rfl _ _ 49 rfl w.heap.size 3 iI (.int .i64 0) 1 8 Tryz.underlying49 HII.out HI0.out HI1.out HI2.out rfl (by decide) s.v19 s.x.length _ rfl (zad Hwb.out.r9 (Below.new1 wb _)) ⟨wb.heap.size,0,none⟩ 1 1 [.int .i64 rN] rfl rfl (za3 wb _ #[.int .i64 rN]) (fun u hu=>by rw[kP.1 hu];rfl) (by decide) (by unfold maxLen;omega) (by omega) (by have:=Hwb.out.be.size;simp;omega) (wb.heap.size+1) (by simp) ?_;intro wdg wdc wd wdo wdr wdl wdt;have hawd:=Alt.trans (alt_of_below (p:=fun k=>s.v19.ownBlock=some k) (Below.new1 wb _)) (Alt.grow wdr) (fun _ _ h=>h);have Hwd:=kA (OW.app9 OH.out.sti Hwb.out wdo hawd (fun k hk=>zb0 wdl hk));have HTwd:=kA (zbk HTwb.out Hwb.out.r9 hawd);clear hawd wdo wdr wdl wdt))
            obtain ⟨_,_,_,c5d⟩:=HCEL.out wd Hwd.out.be
            have hwl:IntKind.i64.wrap (((s.at_.length:Int)+1) - 1)=(s.at_.length:Int):=(qR _ (by omega)).trans (by omega)
            have hwl2:IntKind.i64.wrap (((s.at_.length+1:Nat):Int) - 1)=(s.at_.length:Int):=(qR _ (by omega)).trans (by omega)
            have HCC:=kA (zdl OH.out.q rN wd)
            have HDO:Hid (∀ V,Below wd.heap.size wd V→∀ cb,V.ownsRow 0 124 7 (.slice (some ⟨cb,0,none⟩) 2 2) 2 (cxOf qc rN)→Calls Tryz.prog 6 #[.pointer (some ⟨sp,0,none⟩),.agg #[.int .i64 4,.int .i64 (s.at_.length:Int),.int .i64 (v:Int),.int .i64 (nw:Int),.string ⟨#[97]⟩,.slice none 0 0,.slice (some ⟨cb,0,none⟩) 2 2]] V fun e w'=>∃ vv ts s',e = .returned vv∧TRow w' V.heap.size vv ts∧OL PR M Cq ans P qc w w' E s' (got++ts) (i+1) nw∧Kf V w'∧s'.live=s.live∧s'.th=s.th∧s'.v17 = .slice (some ⟨wbg,0,none⟩) (s.at_.length+1) wbc∧s'.v18 = .slice (some ⟨wag,0,none⟩) (s.of_.length+1) wac∧s'.v19 = .slice (some ⟨wdg,0,none⟩) (s.x.length+1) wdc∧ts.length≤1100):=kA (fun V hV cb hcb=>by
             have h1:=zfy OH.out HX.out.1 HJ.out.1 HJ.out.2.2.2 HJ.out.2.1 HJ.out.2.2.1 hle (by have:=HJ.out.1;omega) (v:=v) (kv:=v) (by rw[kT (by omega)]) (by omega) (by exact .inr HBV.out.symm) (Hwd.out.below OH.out.sv.an.st hV) hcb
             rw[HPE.out.1] at h1
             exact h1)
            go_wp2_with (first|(go_at_call 9;refine HCC.out.mono ?_;rintro e we ⟨cb,rfl,hcr,hbe⟩;have HCR:=kA (zau hcr (kX _));have HBE:=kA hbe;clear hcr hbe)|(go_at_call 6;refine (HDO.out we HBE.out cb HCR.out).mono ?_;rintro e w8 ⟨vv,ts,s',rfl,htr,hol,hkf,e1,e2,e3,e4,e5,hl⟩;have HT8:=kA htr;have HO8:=kA hol;have HK8:=kA hkf;have HEE:=kA (And.intro e1 (And.intro e3 (And.intro e4 (And.intro e5 hl))));clear htr hol hkf e1 e2 e3 e4 e5 hl))
            go_meet
            exact ⟨s',by rw[HEE.out.1],HEE.out.2.1.symm,(by have h:=HEE.out.2.2.1;rw[show s.of_.length=s.at_.length from hlo.trans hla] at h;exact h.symm),(by have h:=HEE.out.2.2.2.1;rw[show s.x.length=s.at_.length from hlx.trans hla] at h;exact h.symm),kA ⟨ts,HO8.out,TRow.kf (zad HTwd.out HBE.out) HK8.out,zau HT8.out (kH Hwd.out.be.size HBE.out.size),HEE.out.2.2.2.2⟩⟩
     case rest =>
      obtain ⟨s',rfl,rfl,rfl,rfl,hmid⟩:=hcut
      obtain ⟨ts,hol,ht20,ht23,hts⟩:=hmid.out
      have HOL:=kA hol
      have HONE:Hid (∀ u∈(ts.map cellsT).flatten,u.oneCell'=true):=kA (zdw fun x hx=>hol.li.one (fun v n=>OH.out.sv.one _ _ (OH.out.ma v)) x (List.mem_append_right _ hx))
      have HT20:Hid (wc.ownsRow w.heap.size 47 10 u20 got.length (got.map cellsT).flatten):=kA ht20
      have HT23:Hid (wc.ownsRow w.heap.size 47 10 u23 ts.length (ts.map cellsT).flatten):=kA ht23
      have hgl:got.length≤1100*i:=HX.out.2.2.2
      obtain ⟨iT,hi0,hz0,hz1,hz2⟩:=info_parts zdv
      have HIT:=kA hi0
      obtain ⟨zT,hzT⟩:∃ z,z=Value.agg #[.int .i64 0,.int .i64 0,.int .i64 0,.int .i64 0,.int .i64 0,.bool false,.int .u64 0,.string ⟨#[]⟩,.int .u64 0,.string ⟨#[]⟩]:=⟨_,rfl⟩
      rw[← hzT] at hz0
      have HZ0T:=kA hz0
      have HZ1T:=kA hz1
      have HZ2T:=kA hz2
      have HZ3T:Hid (zT.cells.size=10):=kA (by rw[hzT];rfl)
      obtain ⟨gl,hgle⟩:∃ x,x=got.length:=⟨_,rfl⟩
      obtain ⟨tl,htle⟩:∃ x,x=ts.length:=⟨_,rfl⟩
      rw[← hgle] at HT20 hgl
      rw[← htle] at HT23 hts
      have HGL:=kA (And.intro hgle htle)
      clear hmid hol ht20 ht23 hi0 hz0 hz1 hz2 hzT hgle htle
      go_wp2_with (at_builtin;go_loud (refine zck wc rfl _ _ 29 rfl w.heap.size 47 iT zT 10 96 Tryz.underlying29 HIT.out HZ0T.out HZ1T.out HZ2T.out HZ3T.out (by decide) u20 gl _ rfl HT20.out _ u23 tl _ rfl HT23.out HONE.out (by unfold maxLen;omega) (by omega) HOL.out.ow.be.size ?_;intro v8 w8 hown8 hal8;have HO8:=kA hown8;have HA8:=kA hal8;clear hown8 hal8))
      have hol8:OL PR M Cq ans P qc w w8 E s' (got++ts) (i+1) nw:=HOL.out.told OH.out.sv.an.st HA8.out HT20.out
      have htr8:TRow w8 w.heap.size v8 (got++ts):=by
       have h1:=HO8.out
       unfold TRow
       rw[kI,kL,qQ, ← HGL.out.1, ← HGL.out.2]
       exact h1
      go_roundw
      case rel=>exact ⟨i+1,nw,s',got++ts,by omega,by first|rfl|go_num,rfl,rfl,rfl,rfl,rfl,kA ⟨hol8,htr8,hnw9,by rw[kI, ← HGL.out.1, ← HGL.out.2];omega⟩⟩
      case measure=>simp[intOf];omega
    ·have HX:=kA hx.out
     clear hx
     obtain ⟨te,hte⟩:∃ te,te=now+W:=⟨_,rfl⟩
     have hnow:now≤2*i:=HX.out.2.2.1
     have hwt:IntKind.i64.wrap ((now:Int)+(W:Int))=(te:Int):=(qR _ (by omega)).trans (by omega)
     have hi40:i≤40:=by omega
     have HTK:Hid (Calls Tryz.prog 6 #[.pointer (some ⟨sp,0,none⟩),.agg #[.int .i64 5,.int .i64 0,.int .i64 0,.int .i64 (te:Int),.string ⟨#[]⟩,.slice none 0 0,.slice none 0 0]] wr fun e w'=>∃ vv ts s',e = .returned vv∧TRow w' wr.heap.size vv ts∧OL PR M Cq ans P qc w w' E s' (got++ts) (i+1) te∧s'.gs=[]∧Kf wr w'∧s'.live=s.live∧s'.at_=s.at_∧s'.of_=s.of_∧s'.x=s.x∧s'.v17=s.v17∧s'.v18=s.v18∧s'.v19=s.v19∧ts.length≤1100):=kA (by
      obtain ⟨q1,q2,q3,q4,q5⟩:=HPE.out
      have h1:=zup OH.out HX.out.1 hi40 (by rw[q3];omega) (by rw[q4];omega) (by omega)
      rw[q1,show now+E.W=te by rw[q4,hte]] at h1
      exact h1)
     obtain ⟨iT,hi0,hz0,hz1,hz2⟩:=info_parts zdv
     have HIT:=kA hi0
     obtain ⟨zT,hzT⟩:∃ z,z=Value.agg #[.int .i64 0,.int .i64 0,.int .i64 0,.int .i64 0,.int .i64 0,.bool false,.int .u64 0,.string ⟨#[]⟩,.int .u64 0,.string ⟨#[]⟩]:=⟨_,rfl⟩
     rw[← hzT] at hz0
     have HZ0T:=kA hz0
     have HZ1T:=kA hz1
     have HZ2T:=kA hz2
     have HZ3T:Hid (zT.cells.size=10):=kA (by rw[hzT];rfl)
     obtain ⟨iB,hb0,hbz,hb1,hb2⟩:=info_parts zwt
     obtain ⟨nA_,hnA⟩:∃ x,x=s.at_.length:=⟨_,rfl⟩
     have hal:nA_≤i:=by rw[hnA];exact HX.out.1.al
     have HMK:Hid (∀ V,(Instr.makeSlice 54 (.int .i64 (nA_:Int)) (.int .i64 (nA_:Int))).run Tryz.prog V = .ok (.slice (some ⟨V.heap.size,0,none⟩) nA_ nA_) (V.alloc (.cells (seenA nA_ []) 4))):=kA fun V=>by
      have hr:=run_make (P:=Tryz.prog) (w:=V) 54 4 iB _ Tryz.underlying54 hb0 hbz .i64 .i64 (nA_:Int) (nA_:Int) (by omega) (Int.le_refl _) (by rw[hb2];omega) (by omega)
      rw[hr,hb1, ← zrf]
      simp[Value.cells]
     obtain ⟨gl,hgle⟩:∃ x,x=got.length:=⟨_,rfl⟩
     have hgl:gl≤1100*i:=by rw[hgle];exact HX.out.2.2.2
     have HT20w:Hid (∀ V,Kf wr V→V.ownsRow w.heap.size 47 10 u20 gl (got.map cellsT).flatten):=kA fun V hk=>by rw[hgle];exact TRow.kf HX.out.2.1 hk
     have HGL:=kA hgle
     have HWB:=kA HX.out.1.ow.be.size
     obtain ⟨A17,c17,h17⟩:=zfu HX.out.1.ow.r7
     rw[← hnA] at h17
     have HA17:=kA h17
     have HNA:=kA hnA
     rw[h17]
     clear hi0 hz0 hz1 hz2 hzT hb0 hbz hb1 hb2 hgle hte hnA h17
     go_upto_region 42 with (first
      |(go_at_call 6;refine HTK.out.mono ?_;rintro e w8 ⟨vv,ts,s',rfl,htr,hol,hgs,hkf,e0,e1,e2,e3,e4,e5,e6,hl⟩;have HOL:=kA hol;have HT20:=kA (HT20w.out w8 hkf);have HONE:Hid (∀ u∈(ts.map cellsT).flatten,u.oneCell'=true):=kA (zdw fun x hx=>hol.li.one (fun v n=>OH.out.sv.one _ _ (OH.out.ma v)) x (List.mem_append_right _ hx));obtain ⟨tl,htle⟩:∃ x,x=ts.length:=⟨_,rfl⟩;have HT23:Hid (w8.ownsRow w.heap.size 47 10 vv tl (ts.map cellsT).flatten):=kA (by rw[htle];exact zau htr HWB.out);have HTL:=kA htle;have HGS:=kA hgs;have HEQ:=kA (And.intro e1 (And.intro e2 (And.intro e3 (And.intro e4 (And.intro e5 e6)))));rw[← htle] at hl;clear htr hol hgs hkf e0 e1 e2 e3 e4 e5 e6 htle)
      |(at_builtin;go_loud (refine zck w8 rfl _ _ 29 rfl w.heap.size 47 iT zT 10 96 Tryz.underlying29 HIT.out HZ0T.out HZ1T.out HZ2T.out HZ3T.out (by decide) u20 gl _ rfl HT20.out _ vv tl _ rfl HT23.out HONE.out (by unfold maxLen;omega) (by omega) HOL.out.ow.be.size ?_;intro v9 w9 hown9 hal9;have HO9:=kA hown9;have HA9:=kA hal9;clear hown9 hal9)))
     have HEN:Hid (∃ got',got'.length=gl+tl∧EndH PR M Cq w w9 sp pa (.slice A17 nA_ c17) s.v18 s.v19 v9 s.at_ s.of_ s.x got'∧EndP ans P (cxOf qc) W s.at_ s.of_ s.x got'∧s.at_.length=nA_):=kA (by
      obtain ⟨q1,q2,q3,q4,q5⟩:=HPE.out
      obtain ⟨e1,e2,e3,e4,e5,e6⟩:=HEQ.out
      have hol9:=HOL.out.told OH.out.sv.an.st HA9.out HT20.out
      have hli:=hol9.li
      have hov:=hol9.ov
      have hsv:=hol9.ow.sv
      rw[HGS.out] at hli hsv
      rw[e1,e2,e3,q4] at hli
      rw[e1,e2] at hov
      have r7:=hol9.ow.r7
      have r8:=hol9.ow.r8
      have r9:=hol9.ow.r9
      rw[e1,e4,HA17.out] at r7
      rw[e2,e5] at r8
      rw[e3,e6] at r9
      have hpm:=hli.pm
      refine ⟨got++ts,by rw[kI, ← HGL.out, ← HTL.out],⟨r7,r8,r9,?_,by rw[← q5];exact hol9.ow.pa,hol9.ow.be,_,_,_,_,_,_,by rw[← q1];exact hsv⟩,⟨hli.l1,hli.l2,by rw[← HNA.out];omega,hov,hli.rt,hpm⟩,HNA.out.symm⟩
      have h1:=HO9.out
      unfold TRow
      rw[kI,kL,qQ, ← HGL.out, ← HTL.out]
      exact h1)
     clear HO9 HA9 HT20 HT23 HONE HTL HGS HEQ HOL HT20w HGL HWB HA17 HNA HTK HX hwt hnow
     obtain ⟨v18,hv18⟩:∃ x,x=s.v18:=⟨_,rfl⟩
     obtain ⟨v19,hv19⟩:∃ x,x=s.v19:=⟨_,rfl⟩
     obtain ⟨at_,hat⟩:∃ x,x=s.at_:=⟨_,rfl⟩
     obtain ⟨of_,hof⟩:∃ x,x=s.of_:=⟨_,rfl⟩
     obtain ⟨xs,hxs⟩:∃ x,x=s.x:=⟨_,rfl⟩
     rw[← hv18, ← hv19] at HEN ⊢
     rw[← hat, ← hof, ← hxs] at HEN
     clear hv18 hv19 hat hof hxs
     obtain ⟨L,hL,hen,henp,hnl⟩:=HEN.out
     have HNL:=kA hnl
     have HLL:=kA hL
     have HEP:=kA henp
     obtain ⟨A20,c20,h20⟩:=zfu hen.tr
     rw[hL] at h20
     subst h20
     obtain ⟨ll,hll⟩:∃ x,x=gl+tl:=⟨_,rfl⟩
     rw[← hll] at hen hL HLL ⊢
     have HE9:=kA hen
     have hll9:ll≤1000000:=by omega
     clear hll hen henp hnl hL HEN
     go_upto_region 43 with fail
     rw[HMK.out]
     have HE0:Hid (EndH PR M Cq w (w9.alloc (.cells (seenA nA_ []) 4)) sp pa (.slice A17 nA_ c17) v18 v19 (.slice A20 ll c20) at_ of_ xs L∧Blk (w9.alloc (.cells (seenA nA_ []) 4)) w9.heap.size 4 (seenA nA_ (L.take 0))∧w.heap.size≤w9.heap.size):=kA ⟨HE9.out.below OH.out.sv.an.st (Below.new1 w9 _),Blk.new w9 _ _,HE9.out.be.size⟩
     generalize w9.alloc (.cells (seenA nA_ []) 4)=W10 at HE0 ⊢
     obtain ⟨sb,hsb⟩:∃ x,x=w9.heap.size:=⟨_,rfl⟩
     rw[← hsb] at HE0 ⊢
     clear hsb HE9 HMK
     go_upto_block 5 with fail
     refine zps (c:=BLK5) (by kernel_rfl) (zzw OH.out hW6 HNL.out HLL.out hll9 HEP.out HE0.out ?_)
     intro a w' h
     apply_assumption
     exact zps (c:=RESTC) (by kernel_rfl) h
end
end Go.Proofs.YtemgclnkgieldaaGreatDoor.Oc
