/- Alike: what a shelf tells of a name. -/
import Derived.Test.YtmejdkniafjncaaGreatDoorNk
import Derived.Deep.DeepCutAuto
set_option maxHeartbeats 8000000
set_option maxRecDepth 100000
namespace Go.Proofs.YtmejdkniafjncaaGreatDoor.Oc
open Go Go.RowKit Dk
structure Ex (PM:PMod)(w:World)(far:Nat→Prop)(C:Con)(nm:ByteArray)(o:On)(ts:List Tr):Prop where
 n:o.vn=ts.length
 nx:o.next=nextC C nm
 lv:0<ts.length→o.live=liveC C nm
 vs:vsC C nm=ts.map fun t=>(t.v,t.ms)
 vr:IntRow w 0 o.vv (versT ts)
 mr:w.ownsRow 0 88 59 o.mv ts.length (flatT ts)
 md:∀ t∈ts,t.cs.size=59∧AllOne t.cs∧PM w far t.ms t.cs
theorem Ex.below {PM:PMod}(hst:Stays PM){w w':World}{far:Nat→Prop}{C:Con}{nm:ByteArray}{o:On}{ts:List Tr}(h:Ex PM w far C nm o ts)(hb:Below w.heap.size w w'):Ex PM w' far C nm o ts :=
 ⟨h.n,h.nx,h.lv,h.vs,h.vr.below hb,zax h.mr hb,fun t ht=>by
  obtain ⟨h1,h2,h3⟩:=h.md t ht
  exact ⟨h1,h2,hst _ _ _ _ _ _ _ h3 (alt_of_below (p:=fun _=>False) hb) (fun _ _ h=>h.elim) (fun _ _ h=>h)⟩⟩
theorem zvg (w:World)(i:Nat)(hi:i<3):(w.alloc (.cells #[.string ⟨#[97]⟩,.string ⟨#[98]⟩,.string ⟨#[99]⟩,.string ⟨#[49]⟩] 9)).cell? ⟨w.heap.size,i,none⟩=some (.string (nmOf i)):=by
 rw[(Blk.new w _ _).cell]
 match i,hi with
 | 0,_=>rfl
 | 1,_=>rfl
 | 2,_=>rfl
theorem zn1 {w:World}{g:Nat}{o:On}(h:Blk w g 102 ⟨cellsO o⟩):(w.cell? ⟨g,0,none⟩=some (.string o.name)∧w.cell? ⟨g,1,none⟩=some (.int .i64 (o.next:Int))∧w.cell? ⟨g,2,none⟩=some (.int .i64 (o.live:Int))∧w.cell? ⟨g,3,none⟩=some (.slice o.vA o.vn o.vc)∧w.cell? ⟨g,4,none⟩=some (.slice o.mA o.vn o.mc))∧∀ i,w.frozen? ⟨g,i,none⟩=false :=
 ⟨⟨h.cell 0,h.cell 1,h.cell 2,h.cell 3,h.cell 4⟩,fun i=>h.frozen i⟩
theorem zfq {ops:Array Oper}{S:World→Prop}{op:Oper}{a:Act}(hw:Region.wanted op (yielded ops a.tmps)=true)(ty:TypeId)(x:Operand)(ho:op.op = .load ty x)
  (b o:Nat) (hx:a.eval x = .pointer (some ⟨b,o,none⟩)) (cs:Array Value) (d:TypeDesc) (hS:∀ w,S w→w.rangeAt b o cs.toList)
  (hu:Tryz.prog.underlying ty=some d) (hd:d.isRow=true) (hi:(Tryz.prog.info? ty).map (·.size)=some cs.size):YieldsIf Tryz.prog ops S op (.agg cs) a:=by
 have h:=yieldsIf_load_mid hw ty x ho b o hx cs.toList d hS hu hd (by rw[Array.length_toList];exact hi)
 rw[Array.toArray_toList] at h
 exact h
theorem zpd {C:Con}{i:Nat}(h:numC C (nmOf i)=0):(((List.range (i+1)).map nmOf).filter fun n=>decide (0<numC C n))=((List.range i).map nmOf).filter fun n=>decide (0<numC C n):=by
 rw[List.range_succ,List.map_append,List.filter_append,List.map_singleton,List.filter_cons_of_neg (by simp[h])]
 simp
theorem zth {C:Con}{i:Nat}(h:0<numC C (nmOf i)):(((List.range (i+1)).map nmOf).filter fun n=>decide (0<numC C n))=(((List.range i).map nmOf).filter fun n=>decide (0<numC C n))++[nmOf i]:=by
 rw[List.range_succ,List.map_append,List.filter_append,List.map_singleton,List.filter_cons_of_pos (by simp[h])]
 simp
section
variable {PM:PMod}{PR:Nat→World→List Int→Array Value→Prop}{M:List Int→Prop}(mt:MT PM PR M){w:World}{B0 B g gd room k n c:Nat}{A:Option Addr}{C C':Con}{far:Nat→Prop}{ps:List Pe}
include mt
theorem zv0 {W:World}(h:BT W B0 g gd room k C'){name:ByteArray}{s:Sh}(hs:fndC C' name=some s)(version v2:Nat)(hv:v2=if version=0 then s.live else version)(hvb:version≤1000000){ms:List Int}(hm:(v2,ms)∈s.vs)(hM:M ms) :
  Calls Tryz.prog 41 #[.pointer (some ⟨g,0,none⟩),.string name,.int .i64 (version:Int)] W fun e w'=>∃ (cs:Array Value) (lo:Nat),e = .returned (.tuple #[.agg cs,.int .i64 0])∧cs.size=59∧AllOne cs∧W.heap.size≤lo∧PR lo w' ms cs∧Below W.heap.size W w':=by
 refine (get_bt h hs version v2 hv hvb hm (mt.rd ms hM)).mono ?_
 rintro e w' ⟨cs,W0,W1,rfl,h1,h2,h3,h4,h5,h6,h7,h8⟩
 exact ⟨cs,W0.heap.size,rfl,h1,h2,Nat.le_of_lt h6,mt.rst _ _ _ _ _ _ h4 h7 (fun k _ e=>by rw[e];exact h6),h8⟩
theorem zti (hbt:BT w B0 g gd room k C')(hk:k≤100)(hp:Ps PM w B far (.slice A n c) ps)(hs:Small ps)(hC:ps.map Pe.s=C)(hperm:C.Perm C')(hM:∀ s∈C,∀ x∈s.vs,M x.2)(hnm:∀ s∈C,s.name=nmA∨s.name=nmB∨s.name=nmC) :
  Calls Tryz.prog 18 #[.pointer (some ⟨g,0,none⟩),.agg #[.slice A n c]] w fun e w'=>e = .returned (.bool true)∧Below w.heap.size w w':=by
 have HBT:=hid hbt
 have HP:=hid hp
 have HS:=hid hs
 have HC:=hid hC
 have HPM:=hid hperm
 have HM:=hid hM
 have HNM:=hid hnm
 have hn:n=ps.length:=by obtain ⟨A',c',e⟩:=zbn hp;injection e
 have HN:=hid hn
 clear hbt hp hs hC hperm hM hnm hn
 have HFC:Hid (∀ nm,vsC C' nm=vsC C nm∧nextC C' nm=nextC C nm∧liveC C' nm=liveC C nm∧numC C' nm=numC C nm):=hid fun nm=>by
  have h1:fndC C nm=fndC C' nm:=zfo HPM.out ((HPM.out.map Sh.name).nodup_iff.2 (HBT.out.wk).nd) nm
  unfold vsC nextC liveC numC
  rw[h1]
  exact ⟨rfl,rfl,rfl,rfl⟩
 go_enter Tryz.func18,Tryz.ntmps18
 have HB1:Hid (Below w.heap.size w (w.alloc (.cells #[.slice A n c] 34))):=hid (Below.new1 w _)
 have HT3:Hid (Blk (w.alloc (.cells #[.slice A n c] 34)) w.heap.size 34 #[.slice A n c]):=hid (Blk.new w _ _)
 go_upto_region 3 with fail
 generalize w.alloc (.cells #[.slice A n c] 34)=W1 at HB1 HT3 ⊢
 go_wp2
 go_loopw [5,6] (fun v5 v6 wr=>∃ i:Nat,i≤3∧v6 = .int .i64 (i:Int)∧Hid (∃ A5 c5,v5 = .slice A5 (((List.range i).map nmOf).filter fun n=>decide (0<numC C n)).length c5)∧Hid (StrRow wr W1.heap.size v5 ((((List.range i).map nmOf).filter fun n=>decide (0<numC C n)).map fun n=>n.data.toList))∧Hid (Below W1.heap.size W1 wr)) (fun _ v6 _=>3 - (intOf v6).toNat)
 case atStart=>exact ⟨0,by omega,rfl,hid ⟨none,0,rfl⟩,hid (World.ownsRow_nil _ _ _ _),hid (Below.refl _ _)⟩
 case round =>
  obtain ⟨i,hi,rfl,hv5,hrow,hbel⟩:=hrel
  by_cases hgo:i<3
  ·obtain ⟨A5,c5,rfl⟩:=hv5.out
   have hgo':(i:Int)<3:=by omega
   have HNI:=hid (zvg wr i hgo)
   go_upto_region 8 with (go_at_call 13;refine (zdi wr).mono ?_;rintro e w2 ⟨rfl,rfl⟩;have hni:=HNI.out)
   clear hni
   obtain ⟨hl,hhl⟩:∃ hl,hl=(((List.range i).map nmOf).filter fun n=>decide (0<numC C n)).length:=⟨_,rfl⟩
   have HHL:=hid hhl
   rw[← hhl] at hrow ⊢
   obtain ⟨nm,hnm⟩:∃ nm,nm=nmOf i:=⟨_,rfl⟩
   have HNMI:=hid hnm
   rw[← hnm] at ⊢
   clear hhl hnm hv5 HNI
   have HB2:Hid (Below w.heap.size w (wr.alloc (.cells #[.string ⟨#[97]⟩,.string ⟨#[98]⟩,.string ⟨#[99]⟩,.string ⟨#[49]⟩] 9))):=hid ((HB1.out.trans (hbel.out.mono HB1.out.size)).alloc (Nat.le_trans HB1.out.size hbel.out.size) _)
   have HBL2:Hid (Below W1.heap.size W1 (wr.alloc (.cells #[.string ⟨#[97]⟩,.string ⟨#[98]⟩,.string ⟨#[99]⟩,.string ⟨#[49]⟩] 9))):=hid (hbel.out.alloc hbel.out.size _)
   have HRW2:Hid (StrRow (wr.alloc (.cells #[.string ⟨#[97]⟩,.string ⟨#[98]⟩,.string ⟨#[99]⟩,.string ⟨#[49]⟩] 9)) W1.heap.size (.slice A5 hl c5) ((((List.range i).map nmOf).filter fun n=>decide (0<numC C n)).map fun n=>n.data.toList)):=hid (zax hrow.out (Below.new1 _ _))
   clear hbel hrow
   generalize wr.alloc (.cells #[.string ⟨#[97]⟩,.string ⟨#[98]⟩,.string ⟨#[99]⟩,.string ⟨#[49]⟩] 9)=W2 at HB2 HBL2 HRW2 ⊢
   have HP2:=hid (HP.out.below mt.st HB2.out)
   have c3:W2.cell? ⟨w.heap.size,0,none⟩=some (.slice A n c):=(HBL2.out.cell (p:=⟨w.heap.size,0,none⟩) HT3.out.lt).trans (HT3.out.cell 0)
   have HAT:Hid (Calls Tryz.prog 37 #[.agg #[.slice A n c],.string nm] W2 fun e w'=>e = .returned (.int .i64 (atL (ps.map Pe.o) nm 0))∧Below W2.heap.size W2 w'):=hid (zjn HP2.out.row (by rw[List.length_map];have:=HS.out.1;omega) nm)
   obtain ⟨AT,hAT⟩:∃ AT,AT=atL (ps.map Pe.o) nm 0:=⟨_,rfl⟩
   have HATE:=hid hAT
   rw[← hAT] at HAT
   clear hAT
   go_upto_region 9 with (go_at_call 37;refine HAT.out.mono ?_;rintro e w3 ⟨rfl,hb3⟩;have HB3:=hid hb3;clear hb3)
   go_upto_if 38 with fail
   have HX9:Hid (Blk (w3.alloc (.cells #[.string ⟨#[]⟩,.int .i64 1,.int .i64 0,.slice none 0 0,.slice none 0 0] 102)) w3.heap.size 102 #[.string ⟨#[]⟩,.int .i64 1,.int .i64 0,.slice none 0 0,.slice none 0 0]):=hid (Blk.new w3 _ _)
   have HB4:Hid (Below W2.heap.size W2 (w3.alloc (.cells #[.string ⟨#[]⟩,.int .i64 1,.int .i64 0,.slice none 0 0,.slice none 0 0] 102))):=hid (HB3.out.alloc HB3.out.size _)
   obtain ⟨gx,hgx⟩:∃ gx,gx=w3.heap.size:=⟨_,rfl⟩
   have HGX:Hid (W2.heap.size≤gx):=hid (by rw[hgx];exact HB3.out.size)
   rw[← hgx] at HX9 ⊢
   generalize w3.alloc (.cells #[.string ⟨#[]⟩,.int .i64 1,.int .i64 0,.slice none 0 0,.slice none 0 0] 102)=W4 at HX9 HB4 ⊢
   clear hgx HB3
   have HP4:=hid (HP2.out.below mt.st HB4.out)
   have c4:W4.cell? ⟨w.heap.size,0,none⟩=some (.slice A n c):=(HB4.out.cell (p:=⟨w.heap.size,0,none⟩) (by have h1:=HT3.out.lt;have h2:=HBL2.out.size;show w.heap.size < _;omega)).trans c3
   clear c3 HAT
   go_cut [8] from 25 to 157 (fun v8 wx=>v8 = .int .i64 AT∧∃ (o:On) (ts:List Tr),Hid (Blk wx gx 102 ⟨cellsO o⟩∧Below W2.heap.size W2 wx∧Ex PM w far C nm o ts∧(∀ t∈ts,M t.ms)∧ts.length≤1000))
   case first =>
    rcases zmi nm ps with ⟨h1,h2⟩|⟨j,p,hj,hfn,hfo,hpn,hat⟩
    ·obtain rfl:AT = -1:=HATE.out.trans (zg5 h2)
     have HF1:=hid h1
     clear h1 h2
     go_wp2
     go_meet
     refine ⟨rfl,⟨⟨#[]⟩,1,0,none,0,0,none,0⟩,[],hid ⟨HX9.out,HB4.out,⟨rfl,?_,(fun h=>absurd h (by decide)),?_,World.ownsRow_nil _ _ _ _,World.ownsRow_nil _ _ _ _,fun t ht=>by cases ht⟩,(fun t ht=>by cases ht),Nat.zero_le _⟩⟩
     ·unfold nextC;rw[← HC.out,HF1.out]
     ·unfold vsC;rw[← HC.out,HF1.out];rfl
    ·obtain rfl:AT=(j:Int):=HATE.out.trans (by rw[hat];simp)
     have HJ:=hid hj
     have HFN:=hid hfn
     have hjn:(j:Int)<(n:Int):=by have:=(List.getElem?_eq_some_iff.1 hj).1;have:=HN.out;omega
     obtain ⟨g2,rfl,hgc,hgf,_⟩:=HP4.out.live hj
     have q0:=hgc 0 (.string p.o.name) (by decide) rfl
     have q1:=hgc 1 (.int .i64 (p.o.next:Int)) (by decide) rfl
     have q2:=hgc 2 (.int .i64 (p.o.live:Int)) (by decide) rfl
     have q3:=hgc 3 (.slice p.o.vA p.o.vn p.o.vc) (by decide) rfl
     have q4:=hgc 4 (.slice p.o.mA p.o.vn p.o.mc) (by decide) rfl
     rw[Nat.add_zero] at q0
     have xf:=fun i=>HX9.out.frozen i
     have x0:=HX9.out.cell 0
     have x1:=HX9.out.cell 1
     have x2:=HX9.out.cell 2
     have x3:=HX9.out.cell 3
     have x4:=HX9.out.cell 4
     simp only[List.getElem?_toArray,List.getElem?_cons_zero,List.getElem?_cons_succ] at x0 x1 x2 x3 x4
     clear hj hfn hfo hpn hat hgc hgf
     go_wp2
     go_meet
     have hxb:=((((HX9.out.set_ 0 (.string p.o.name)).set_ 1 (.int .i64 (p.o.next:Int))).set_ 2 (.int .i64 (p.o.live:Int))).set_ 3 (.slice p.o.vA p.o.vn p.o.vc)).set_ 4 (.slice p.o.mA p.o.vn p.o.mc)
     have hxb':=((((HB4.out.setCell (p:=⟨gx,0,none⟩) HGX.out (.string p.o.name)).setCell (p:=⟨gx,1,none⟩) HGX.out (.int .i64 (p.o.next:Int))).setCell (p:=⟨gx,2,none⟩) HGX.out (.int .i64 (p.o.live:Int))).setCell (p:=⟨gx,3,none⟩) HGX.out (.slice p.o.vA p.o.vn p.o.vc)).setCell (p:=⟨gx,4,none⟩) HGX.out (.slice p.o.mA p.o.vn p.o.mc)
     have hpx:=HP.out.each p (za7 HJ.out)
     have hfn:fndC C nm=some p.s:=by rw[← HC.out];exact HFN.out
     have hpC:p.s∈C:=by rw[← HC.out];exact List.mem_map.2 ⟨p,za7 HJ.out,rfl⟩
     refine ⟨rfl,p.o,p.ts,hid ⟨hxb,hxb',⟨hpx.n,?_,fun _=>?_,?_,zbs hpx.vr (Nat.zero_le _),zbs hpx.mr (Nat.zero_le _),hpx.md⟩,fun t ht=>?_,?_⟩⟩
     ·unfold nextC;rw[hfn];rfl
     ·unfold liveC;rw[hfn];rfl
     ·unfold vsC;rw[hfn];rfl
     ·exact HM.out p.s hpC (t.v,t.ms) (List.mem_map.2 ⟨t,ht,rfl⟩)
     ·exact (HS.out.2 p (za7 HJ.out)).2.2
   case rest =>
    obtain ⟨rfl,o,ts,hcut2⟩:=hcut
    have HX:=hid hcut2.out.1
    have HBC:=hid hcut2.out.2.1
    have HEX:=hid hcut2.out.2.2.1
    have HMT:=hid hcut2.out.2.2.2.1
    have HTL:=hid hcut2.out.2.2.2.2
    clear hcut2 c4
    have HBW:Hid (Below w.heap.size w wc):=hid (HB2.out.trans (HBC.out.mono HB2.out.size))
    have HBTC:=hid (HBT.out.below HBW.out)
    obtain ⟨⟨_,x1,x2,x3,x4⟩,xf⟩:=zn1 HX.out
    have HX1:=hid x1
    have HX2:=hid x2
    have HX3:=hid x3
    have HX4:=hid x4
    have HXL:Hid (gx<wc.heap.size):=hid HX.out.lt
    clear x1 x2 x3 x4 xf
    go_upto_region 12 with fail
    refine wp_region_held_drew (S:=fun W=>Below wc.heap.size wc W) (by kernel_rfl) (Below.refl _ _).drew (fun hHeld=>?_)
    refine wpAnyH_take (i:=0) (oi:=_) (v:=?v0_1) rfl (by kernel_rfl) (by kernel_rfl) (by kernel_rfl) (fun _ _ _ h=>h) (Or.inl ⟨by rfl,?y0_1⟩) (by assumption) ?r0_1
    case y0_1=>(intro w hSw;(try dsimp only at hSw);(try simp only[kA,kB]);go_simp;try (with_reducible rfl))
    try simp only[Act.put,kF,kD,kE,kA,kB]
    refine wpAnyH_take (i:=1) (oi:=_) (v:=?v1_2) rfl (by kernel_rfl) (by kernel_rfl) (by kernel_rfl) (fun _ _ _ h=>h) (Or.inl ⟨by rfl,?y1_2⟩) (by assumption) ?r1_2
    case y1_2=>(intro w hSw;(try dsimp only at hSw);(try simp only[kA,kB,kC]);go_simp;try (with_reducible rfl))
    try simp only[Act.put,kF,kD,kE,kA,kB,kC]
    refine wpAnyH_take (i:=3) (oi:=_) (v:=?v3_3) rfl (by kernel_rfl) (by kernel_rfl) (by kernel_rfl) (fun _ _ _ h=>h) (Or.inl ⟨by rfl,?y3_3⟩) (by assumption) ?r3_3
    case y3_3=>(intro w hSw;(try dsimp only at hSw);(try simp only[kA,kB,kC]);go_simp;try (with_reducible rfl))
    try simp only[Act.put,kF,kD,kE,kA,kB,kC]
    refine wpAnyH_take (i:=4) (oi:=_) (v:=?v4_4) rfl (by kernel_rfl) (by kernel_rfl) (by kernel_rfl) (fun _ _ _ h=>h) (Or.inl ⟨by rfl,?y4_4⟩) (by assumption) ?r4_4
    case y4_4=>(intro w hSw;(try dsimp only at hSw);have hx3:=(hSw.cell (p:=⟨gx,3,none⟩) HXL.out).trans HX3.out;clear hSw;(try simp only[kA,kB,kC]);go_simp;try (with_reducible rfl))
    try simp only[Act.put,kF,kD,kE,kA,kB,kC]
    refine wpAnyH_ready (rs:=[2]) (by kernel_rfl) (by simp) ?_
    refine AllReadyH.cons rfl (fun K hK=>?_) AllReadyH.nil
    try simp only[kA,kB,kC]
    go_simp
    go_at_call 39
    refine (zw9 (HBTC.out.below (by exact hHeld)) hk nm).mono ?_
    rintro e w5 ⟨v5,rfl,hr5,hb5⟩
    have hb5':=hHeld.trans (hb5.mono hHeld.size)
    have HB5:=hid hb5'
    have HR5:Hid (IntRow w5 0 v5 (versT ts)):=hid (by rw[(HFC.out nm).1,HEX.out.vs,List.map_map] at hr5;exact zbs hr5 (Nat.zero_le _))
    clear hr5 hb5 hb5'
    refine hK.out _ _ (by exact HB5.out) (fun hHeld=>?_)
    clear hK K
    try simp only[Act.put,kF,kD,kE,kA,kB,kC]
    refine wpAnyH_ready (rs:=[5]) (by kernel_rfl) (by simp) ?_
    refine AllReadyH.cons rfl (fun K hK=>?_) AllReadyH.nil
    try simp only[kA,kB,kC]
    go_simp
    go_at_call 38
    refine (zmm HR5.out (show IntRow _ 0 (.slice o.vA o.vn o.vc) (versT ts) from (HEX.out.below mt.st (HBW.out.trans (HB5.out.mono HBW.out.size))).vr) (by unfold versT;rw[List.length_map];exact HTL.out)).mono ?_
    rintro e w6 ⟨rfl,hb6⟩
    have hb6':=hHeld.trans (hb6.mono hHeld.size)
    have HB6:=hid hb6'
    clear hb6 hb6'
    refine hK.out _ _ (by exact HB6.out) (fun hHeld=>?_)
    clear hK K
    try simp only[Act.put,kF,kD,kE,kA,kB,kC]
    refine wpAnyH_take (i:=6) (oi:=_) (v:=?v6_5) rfl (by kernel_rfl) (by kernel_rfl) (by kernel_rfl) (fun _ _ _ h=>h) (Or.inl ⟨by rfl,?y6_5⟩) (by assumption) ?r6_5
    case y6_5=>(intro w hSw;(try dsimp only at hSw);(try simp only[kA,kB,kC]);go_simp;try (with_reducible rfl))
    try simp only[Act.put,kF,kD,kE,kA,kB,kC]
    refine wpAnyH_take (i:=7) (oi:=_) (v:=?v7_6) rfl (by kernel_rfl) (by kernel_rfl) (by kernel_rfl) (fun _ _ _ h=>h) (Or.inl ⟨by rfl,?y7_6⟩) (by assumption) ?r7_6
    case y7_6=>(intro w hSw;(try dsimp only at hSw);(try simp only[kA,kB,kC]);go_simp;try (with_reducible rfl))
    try simp only[Act.put,kF,kD,kE,kA,kB,kC]
    refine wpAnyH_take (i:=8) (oi:=_) (v:=?v8_7) rfl (by kernel_rfl) (by kernel_rfl) (by kernel_rfl) (fun _ _ _ h=>h) (Or.inl ⟨by rfl,?y8_7⟩) (by assumption) ?r8_7
    case y8_7=>(intro w hSw;(try dsimp only at hSw);(try simp only[kA,kB,kC]);go_simp;try (with_reducible rfl))
    try simp only[Act.put,kF,kD,kE,kA,kB,kC]
    refine wpAnyH_take (i:=9) (oi:=_) (v:=?v9_8) rfl (by kernel_rfl) (by kernel_rfl) (by kernel_rfl) (fun _ _ _ h=>h) (Or.inl ⟨by rfl,?y9_8⟩) (by assumption) ?r9_8
    case y9_8=>(intro w hSw;(try dsimp only at hSw);(try simp only[kA,kB,kC]);go_simp;try (with_reducible rfl))
    try simp only[Act.put,kF,kD,kE,kA,kB,kC]
    refine wpAnyH_take (i:=11) (oi:=_) (v:=?v11_9) rfl (by kernel_rfl) (by kernel_rfl) (by kernel_rfl) (fun _ _ _ h=>h) (Or.inl ⟨by rfl,?y11_9⟩) (by assumption) ?r11_9
    case y11_9=>(intro w hSw;(try dsimp only at hSw);(try simp only[kA,kB,kC]);go_simp;try (with_reducible rfl))
    try simp only[Act.put,kF,kD,kE,kA,kB,kC]
    refine wpAnyH_take (i:=12) (oi:=_) (v:=?v12_10) rfl (by kernel_rfl) (by kernel_rfl) (by kernel_rfl) (fun _ _ _ h=>h) (Or.inl ⟨by rfl,?y12_10⟩) (by assumption) ?r12_10
    case y12_10=>(intro w hSw;(try dsimp only at hSw);have hx1:=(hSw.cell (p:=⟨gx,1,none⟩) HXL.out).trans HX1.out;clear hSw;(try simp only[kA,kB,kC]);go_simp;try (with_reducible rfl))
    try simp only[Act.put,kF,kD,kE,kA,kB,kC]
    refine wpAnyH_ready (rs:=[10]) (by kernel_rfl) (by simp) ?_
    refine AllReadyH.cons rfl (fun K hK=>?_) AllReadyH.nil
    try simp only[kA,kB,kC]
    go_simp
    go_at_call 30
    refine (zw5 (HBTC.out.below (by exact HB6.out)) nm).mono ?_
    rintro e w7 ⟨rfl,hb7⟩
    have hb7':=hHeld.trans (hb7.mono hHeld.size)
    have HB7:=hid hb7'
    rw[show nextC C' nm=o.next from (HFC.out nm).2.1.trans HEX.out.nx.symm]
    clear hb7 hb7'
    refine hK.out _ _ (by exact HB7.out) (fun hHeld=>?_)
    clear hK K
    try simp only[Act.put,kF,kD,kE,kA,kB,kC]
    refine wpAnyH_take (i:=13) (oi:=_) (v:=?v13_11) rfl (by kernel_rfl) (by kernel_rfl) (by kernel_rfl) (fun _ _ _ h=>h) (Or.inl ⟨by rfl,?y13_11⟩) (by assumption) ?r13_11
    case y13_11=>(intro w hSw;(try dsimp only at hSw);(try simp only[kA,kB,kC]);go_simp;try (with_reducible rfl))
    try simp only[Act.put,kF,kD,kE,kA,kB,kC]
    refine wpAnyH_take (i:=14) (oi:=_) (v:=?v14_12) rfl (by kernel_rfl) (by kernel_rfl) (by kernel_rfl) (fun _ _ _ h=>h) (Or.inl ⟨by rfl,?y14_12⟩) (by assumption) ?r14_12
    case y14_12=>(intro w hSw;(try dsimp only at hSw);(try simp only[kA,kB,kC]);go_simp;try (with_reducible rfl))
    try simp only[Act.put,kF,kD,kE,kA,kB,kC]
    refine wpAnyH_done (by kernel_rfl) ?_ _
    go_upto_region 14 with fail
    have HNUM:Hid (numC C' nm=ts.length):=hid (by
     rw[(HFC.out nm).2.2.2]
     have h1:=HEX.out.vs
     unfold vsC at h1
     unfold numC
     cases hf:fndC C nm with
     |none=>rw[hf] at h1;have:=congrArg List.length h1;simpa using this
     |some s=>rw[hf] at h1;have:=congrArg List.length h1;simpa using this)
    have HLIVE:Hid (∀ W,Below wc.heap.size wc W→Calls Tryz.prog 40 #[.pointer (some ⟨g,0,none⟩),.string nm] W fun e w'=>e = .returned (if ts.length=0 then .tuple #[.int .i64 0,.int .i64 11] else .tuple #[.int .i64 (o.live:Int),.int .i64 0])∧Below W.heap.size W w'):=hid fun W hW=>by
     refine (zxa (HBTC.out.below hW) nm).mono ?_
     rintro e w' ⟨rfl,hb⟩
     refine ⟨?_,hb⟩
     rw[HNUM.out]
     by_cases h0:ts.length=0
     ·rw[if_pos h0,if_pos h0]
     ·rw[if_neg h0,if_neg h0,(HFC.out nm).2.2.1,HEX.out.lv (by omega)]
    have HXC:Hid (∀ W,Below wc.heap.size wc W→W.cell? ⟨gx,1,none⟩=some (.int .i64 (o.next:Int))∧W.cell? ⟨gx,2,none⟩=some (.int .i64 (o.live:Int))∧W.cell? ⟨gx,3,none⟩=some (.slice o.vA o.vn o.vc)∧W.cell? ⟨gx,4,none⟩=some (.slice o.mA o.vn o.mc)):=hid fun W hW =>
     ⟨(hW.cell (p:=⟨gx,1,none⟩) HXL.out).trans HX1.out,(hW.cell (p:=⟨gx,2,none⟩) HXL.out).trans HX2.out,(hW.cell (p:=⟨gx,3,none⟩) HXL.out).trans HX3.out,(hW.cell (p:=⟨gx,4,none⟩) HXL.out).trans HX4.out⟩
    rcases Nat.eq_zero_or_pos ts.length with h0|h0
    ·have HT0:=hid h0
     have hvn:o.vn=0:=HEX.out.n.trans h0
     have HVN:=hid hvn
     clear hvn h0
     have h11:Hid (∀ W,Below wc.heap.size wc W→Calls Tryz.prog 41 #[.pointer (some ⟨g,0,none⟩),.string nm,.int .i64 0] W (GetErr 11 W)):=hid fun W hW=>zve (HBTC.out.below hW) nm 0 (HNUM.out.trans HT0.out)
     go_upto_region 16 with (go_at_call 40;refine (HLIVE.out w7 HB7.out).mono ?_;rintro e w8 ⟨rfl,hb8⟩;rw[if_pos HT0.out];have HB8:=hid (HB7.out.trans (hb8.mono HB7.out.size));obtain ⟨_,_,y3,_⟩:=HXC.out w8 HB8.out;rw[HVN.out] at y3;clear hb8)
     go_upto_region 17 with (first
      |(go_at_call 41;refine (h11.out w8 HB8.out).mono ?_;rintro e w9 ⟨rfl,hb9⟩;have HB9:=hid (HB8.out.trans (hb9.mono HB8.out.size));clear hb9)
      |(refine za0 _ rfl 88 _ _ rfl w9.heap.size zM zM 88 rfl rfl (by exact Blk.new w9 _ _) zau rfl zmb ?_;intro w10 hb10 ha10 hs10;have HA10:Hid (Below wc.heap.size wc w10):=hid ((HB9.out.alloc HB9.out.size _).trans (Alt.toBelow ha10 (fun q _ e=>by rw[e];exact HB9.out.size) (by rw[World.size_alloc];have:=HB9.out.size;omega)));clear hb10 ha10 hs10))
     have HN0:Hid (numC C (nmOf i)=0):=hid (by rw[← HNMI.out, ← (HFC.out nm).2.2.2,HNUM.out];exact HT0.out)
     go_wp2
     go_roundw
     case rel =>
      refine ⟨i+1,by omega,by go_num,hid ⟨A5,c5,by rw[zpd HN0.out, ← HHL.out]⟩,hid ?_,hid ?_⟩
      ·rw[zpd HN0.out]
       exact zax HRW2.out (HBC.out.trans (HA10.out.mono HBC.out.size))
      ·exact HBL2.out.trans ((HBC.out.trans (HA10.out.mono HBC.out.size)).mono HBL2.out.size)
     case measure=>simp[intOf];omega
    ·have HT0:=hid h0
     have hne:((o.vn:Int) == 0)=false:=by rw[beq_eq_false_iff_ne];have:=HEX.out.n;omega
     clear h0
     obtain ⟨i0,hi0,hz0,hz1,hz2⟩:=info_parts zss
     have HI:=hid hi0
     obtain ⟨zs,hzs⟩:∃ z,z=Value.string ⟨#[]⟩:=⟨_,rfl⟩
     rw[← hzs] at hz0
     have HZ0:=hid hz0
     have HZ1:=hid hz1
     have HZ2:=hid hz2
     have HZ3:Hid (zs.cells.size=1):=hid (by rw[hzs];rfl)
     clear hi0 hz0 hz1 hz2 hzs
     go_upto_region 19 with (go_at_call 40;refine (HLIVE.out w7 HB7.out).mono ?_;rintro e w8 ⟨rfl,hb8⟩;rw[if_neg (by have:=HT0.out;omega)];have HB8:=hid (HB7.out.trans (hb8.mono HB7.out.size));obtain ⟨y1,y2,y3,y4⟩:=HXC.out w8 HB8.out;clear hb8)
     have HSR:Hid (w8.ownsRow W1.heap.size 9 1 (.slice A5 hl c5) hl (((((List.range i).map nmOf).filter fun n=>decide (0<numC C n)).map fun n=>n.data.toList).map fun s => .string ⟨⟨s⟩⟩)):=hid (by
      have h1:=zax HRW2.out (HBC.out.trans (HB8.out.mono HBC.out.size))
      rw[List.length_map, ← HHL.out] at h1
      exact h1)
     obtain ⟨xss,hxss⟩:∃ xs,xs=((((List.range i).map nmOf).filter fun n=>decide (0<numC C n)).map fun n=>n.data.toList).map fun s=>Value.string ⟨⟨s⟩⟩:=⟨_,rfl⟩
     rw[← hxss] at HSR
     have HXS:=hid hxss
     have hhl3:hl≤3:=by
      have h1:=HHL.out
      have h2:=List.length_filter_le (fun n=>decide (0<numC C n)) ((List.range i).map nmOf)
      rw[List.length_map,List.length_range] at h2
      omega
     have hsz8:W1.heap.size≤w8.heap.size:=Nat.le_trans HBL2.out.size (Nat.le_trans HBC.out.size HB8.out.size)
     have HS8:=hid hsz8
     clear hxss y1 y3 y4
     go_upto_region 20 with (at_builtin;go_loud (refine wpList_append_lies _ rfl _ _ 43 rfl W1.heap.size 9 i0 zs 1 16 Tryz.underlying43 HI.out HZ0.out HZ1.out HZ2.out HZ3.out (by decide) (.slice A5 hl c5) hl xss rfl (by exact (zax HSR.out (Below.new1 w8 _))) ⟨w8.heap.size,0,none⟩ 1 1 [.string nm] rfl rfl (fun r u hu=>zc5 w8 _ _ r u hu) (zd8 rfl) (by decide) (by unfold maxLen;omega) (by omega) (by simp;omega) (w8.heap.size+1) (by simp) ?_;intro g9 c9 w9 hown9 hgrow9 hlie9 hlt9;have HO9:=hid hown9;have HA9:Hid (Alt w8 w9 (fun k=>(Value.slice A5 hl c5).ownBlock=some k)):=hid (Alt.trans (Alt.alloc (Alt.refl w8 _) _) (Alt.grow hgrow9) (fun _ _ h=>h));clear hown9 hgrow9 hlie9 hlt9))
     have hb9:∀ k,k<w8.heap.size→(Value.slice A5 hl c5).ownBlock=some k→W1.heap.size≤k:=fun k _ hk=>(World.ownsRow.lt HSR.out k hk).1
     have HB9:Hid (Below W1.heap.size w8 w9):=hid (Alt.toBelow HA9.out hb9 hsz8)
     have HW9:Hid (Below w.heap.size w w9):=hid ((HBW.out.trans (HB8.out.mono HBW.out.size)).trans (HB9.out.mono HB1.out.size))
     have HL9:Hid (Below W1.heap.size W1 w9):=hid ((HBL2.out.trans ((HBC.out.trans (HB8.out.mono HBC.out.size)).mono HBL2.out.size)).trans HB9.out)
     have HXB9:Hid (Blk w9 gx 102 ⟨cellsO o⟩):=hid ((zac HX.out HB8.out).kept HA9.out (fun e=>zao HSR.out (zac HX.out HB8.out) (by decide) e))
     obtain ⟨⟨_,y1,y2,y3,y4⟩,_⟩:=zn1 HXB9.out
     obtain ⟨s,HFS,HSV⟩:∃ s,Hid (fndC C' nm=some s)∧Hid (s.vs=ts.map fun t=>(t.v,t.ms)):=by
      have h1:=(HFC.out nm).1
      have h2:=HEX.out.vs
      rw[h2] at h1
      unfold vsC at h1
      cases hf:fndC C' nm with
      |none =>
       rw[hf] at h1
       have:=congrArg List.length h1
       simp at this
       have:=HT0.out
       omega
      |some s=>rw[hf] at h1;exact ⟨s,hid rfl,hid h1⟩
     have HKS:Hid (KsOk s):=hid (by
      obtain ⟨ks,ns,bm,A,c,S,f,L,h1,h2,h3,h4,h5,h6,h7,h8,h9,h10⟩:=HBT.out
      exact h9 s (zby HFS.out).1)
     have HSL:Hid (s.live=o.live):=hid (by
      have h1:=HEX.out.lv HT0.out
      rw[← (HFC.out nm).2.2.1] at h1
      unfold liveC at h1
      rw[HFS.out] at h1
      exact h1.symm)
     have HSN:Hid (s.next=o.next):=hid (by
      have h1:=HEX.out.nx
      rw[← (HFC.out nm).2.1] at h1
      unfold nextC at h1
      rw[HFS.out] at h1
      exact h1.symm)
     have HXC9:Hid (∀ W,Below w9.heap.size w9 W→W.cell? ⟨gx,1,none⟩=some (.int .i64 (o.next:Int))∧W.cell? ⟨gx,2,none⟩=some (.int .i64 (o.live:Int))∧W.cell? ⟨gx,3,none⟩=some (.slice o.vA o.vn o.vc)∧W.cell? ⟨gx,4,none⟩=some (.slice o.mA o.vn o.mc)):=hid fun W hW=>by
      obtain ⟨⟨_,a1,a2,a3,a4⟩,_⟩:=zn1 (zac HXB9.out hW)
      exact ⟨a1,a2,a3,a4⟩
     have HWW:Hid (∀ W,Below w9.heap.size w9 W→Below w.heap.size w W):=hid fun W hW=>HW9.out.trans (hW.mono HW9.out.size)
     obtain ⟨N,hN⟩:∃ N,N=ts.length:=⟨_,rfl⟩
     have HNN:=hid hN
     have hvn:o.vn=N:=HEX.out.n.trans hN.symm
     rw[hvn] at y3 y4 HXC9
     have hN1000:N≤1000:=by rw[hN];exact HTL.out
     obtain ⟨gv,hgv⟩:∃ gv,o.vA=some (⟨gv,0,none⟩:Addr):=by
      rcases HEX.out.vr.2 with ⟨e,h0⟩|⟨g',cap,cur,e,_⟩
      ·have:=HT0.out
       unfold versT at h0
       rw[List.length_map] at h0
       omega
      ·injection e with e;exact ⟨g',e⟩
     obtain ⟨gm,hgm⟩:∃ gm,o.mA=some (⟨gm,0,none⟩:Addr):=by
      rcases HEX.out.mr.2 with ⟨e,h0⟩|⟨g',cap,cur,e,_⟩
      ·have:=HT0.out
       omega
      ·injection e with e;exact ⟨g',e⟩
     rw[hgv] at y3 HXC9
     rw[hgm] at y4 HXC9
     have HCV:Hid (∀ W,Below w9.heap.size w9 W→∀ (v:Nat) (t:Tr),ts[v]? = some t→W.cell? ⟨gv,v,none⟩=some (.int .i64 (t.v:Int))):=hid fun W hW v t ht=>by
      have h1:=(HEX.out.below mt.st (HWW.out W hW)).vr
      unfold IntRow at h1
      have h2:o.vv = .slice (some ⟨gv,0,none⟩) (versT ts).length o.vc:=by
       show Value.slice o.vA o.vn o.vc=_
       rw[hgv,hvn,hN];unfold versT;rw[List.length_map]
      rw[h2] at h1
      refine zc6 h1 (Below.refl _ _) ?_
      unfold versT
      rw[List.getElem?_map,List.getElem?_map,ht];rfl
     have HCM:Hid (∀ W,Below w9.heap.size w9 W→∀ (v:Nat) (t:Tr),ts[v]? = some t→W.rangeAt gm (v*59) t.cs.toList):=hid fun W hW v t ht=>by
      have hex:=HEX.out.below mt.st (HWW.out W hW)
      have h1:=hex.mr
      have h2:o.mv = .slice (some ⟨gm,0,none⟩) ts.length o.mc:=by
       show Value.slice o.mA o.vn o.mc=_
       rw[hgm,hvn,hN]
      rw[h2] at h1
      intro r u hr
      refine zc6 h1 (Below.refl _ _) ?_
      have hv:=(List.getElem?_eq_some_iff.1 ht).1
      have h3:=zif hex.md v (by omega)
      have h4:(flatT ts)[v*59+r]? = (flatT (ts.drop v))[r]?:=by rw[h3.2,List.getElem?_drop]
      rw[h4,List.drop_eq_getElem_cons hv]
      have e:ts[v]=t:=(List.getElem?_eq_some_iff.1 ht).2
      rw[e]
      show (t.cs.toList++flatT (ts.drop (v+1)))[r]? = _
      rw[List.getElem?_append_left (List.getElem?_eq_some_iff.1 hr).1]
      exact hr
     clear hN hvn hgv hgm y1 y4
     go_upto_region 22 with fail
     clear y2 y3
     go_wp2
     go_loopw [14] (fun v14 wr2=>∃ v:Nat,v≤N∧v14 = .int .i64 (v:Int)∧Hid (Below w9.heap.size w9 wr2)) (fun v14 _=>N - (intOf v14).toNat)
     case atStart=>exact ⟨0,Nat.zero_le _,rfl,hid (Below.refl _ _)⟩
     case round =>
      obtain ⟨v,hvN,rfl,hbr⟩:=hrel
      by_cases hgv:v<N
      ·have hgv':(v:Int)<(N:Int):=by omega
       obtain ⟨t,ht⟩:∃ t,ts[v]? = some t:=⟨_,List.getElem?_eq_getElem (by rw[← HNN.out];exact hgv)⟩
       have HT:=hid ht
       have cv:=HCV.out _ hbr.out v t ht
       obtain ⟨y1,y2,y3,y4⟩:=HXC9.out _ hbr.out
       have htm:t∈ts:=by obtain ⟨hj,e⟩:=List.getElem?_eq_some_iff.1 ht;rw[← e];exact List.getElem_mem hj
       have HTMM:=hid htm
       have HSVM:Hid ((t.v,t.ms)∈s.vs):=hid (by rw[HSV.out];exact List.mem_map.2 ⟨t,htm,rfl⟩)
       have HVR:=hid (HKS.out.vr _ HSVM.out)
       have hver:t.v≤100000:=by have h1:=HVR.out.2.1;have h2:=HKS.out.nx.2.1;have h1':t.v<s.next:=h1;omega
       have HGET:Hid (∀ W,Below w9.heap.size w9 W→Calls Tryz.prog 41 #[.pointer (some ⟨g,0,none⟩),.string nm,.int .i64 (t.v:Int)] W fun e w'=>∃ (cs:Array Value) (lo:Nat),e = .returned (.tuple #[.agg cs,.int .i64 0])∧cs.size=59∧AllOne cs∧W.heap.size≤lo∧PR lo w' t.ms cs∧Below W.heap.size W w'):=hid fun W hW =>
        zv0 mt (HBT.out.below (HWW.out W hW)) HFS.out t.v t.v (by rw[if_neg (by have:=HVR.out.1;have h1':1≤t.v:=this;omega)]) (by omega) HSVM.out (HMT.out t HTMM.out)
       clear ht htm
       go_upto_region 26 with (first
        |(go_at_call 41;go_loud (refine (HGET.out wr hbr.out).mono ?_;rintro e w10 ⟨cs1,lo1,rfl,hs1,ho1,hlo1,hpr1,hb10⟩;have HS1:=hid hs1;have HO1:=hid ho1;have HLO1:=hid hlo1;have HPR1:=hid hpr1;have HB10:=hid hb10;clear hs1 ho1 hlo1 hpr1 hb10))
        |(refine za0 _ rfl 88 _ _ rfl w10.heap.size zM cs1 88 rfl rfl (by exact Blk.new w10 _ _) (HS1.out.symm ▸ zau) HS1.out.symm HO1.out ?_;intro w11 hb11 ha11 hs11;have HBK11:=hid hb11;have HA11:=hid ha11;clear hb11 ha11 hs11))
       have hsz11:wr.heap.size≤w10.heap.size:=HB10.out.size
       have HB1011:Hid (Below w10.heap.size w10 w11):=hid ((Below.new1 w10 _).trans (Alt.toBelow HA11.out (fun q _ e=>by rw[e];exact Nat.le_refl _) (by rw[World.size_alloc];omega)))
       have HBR11:Hid (Below wr.heap.size wr w11):=hid (HB10.out.trans (HB1011.out.mono hsz11))
       have HB11:Hid (Below w9.heap.size w9 w11):=hid (hbr.out.trans (HBR11.out.mono hbr.out.size))
       have HPR11:Hid (PR lo1 w11 t.ms cs1):=hid (mt.rst _ _ _ _ _ _ HPR1.out (alt_of_below (p:=fun _=>False) HB1011.out) (fun _ _ h=>h.elim))
       have HMD:Hid (t.cs.size=59∧AllOne t.cs∧PM wr far t.ms t.cs):=hid ((HEX.out.below mt.st (HWW.out _ hbr.out)).md t HTMM.out)
       clear hsz11 y1 y2 y3 y4 cv
       refine wp_region_held_drew (S:=fun W=>Below w11.heap.size w11 W) (by kernel_rfl) (Below.refl _ _).drew (fun hHeld=>?_)
       refine wpAnyH_take (i:=0) (oi:=_) (v:=?v0_13) rfl (by kernel_rfl) (by kernel_rfl) (by kernel_rfl) (fun _ _ _ h=>h) (Or.inl ⟨by rfl,?y0_13⟩) (by assumption) ?r0_13
       case y0_13=>(intro w hSw;(try dsimp only at hSw);(try simp only[kA,kB]);go_simp;try (with_reducible rfl))
       try simp only[Act.put,kF,kD,kE,kA,kB]
       refine wpAnyH_take (i:=1) (oi:=_) (v:=?v1_14) rfl (by kernel_rfl) (by kernel_rfl) (by kernel_rfl) (fun _ _ _ h=>h) (Or.inl ⟨by rfl,?y1_14⟩) (by assumption) ?r1_14
       case y1_14=>(intro w hSw;(try dsimp only at hSw);(try simp only[kA,kB,kC]);go_simp;try (with_reducible rfl))
       try simp only[Act.put,kF,kD,kE,kA,kB,kC]
       refine wpAnyH_take (i:=2) (oi:=_) (v:=?v2_15) rfl (by kernel_rfl) (by kernel_rfl) (by kernel_rfl) (fun _ _ _ h=>h) (Or.inl ⟨by rfl,?y2_15⟩) (by assumption) ?r2_15
       case y2_15=>(intro w hSw;(try dsimp only at hSw);(try simp only[kA,kB,kC]);go_simp;try (with_reducible rfl))
       try simp only[Act.put,kF,kD,kE,kA,kB,kC]
       refine wpAnyH_take (i:=4) (oi:=_) (v:=?v4_16) rfl (by kernel_rfl) (by kernel_rfl) (by kernel_rfl) (fun _ _ _ h=>h) (Or.inl ⟨by rfl,?y4_16⟩) (by assumption) ?r4_16
       case y4_16=>(intro w hSw;(try dsimp only at hSw);(try simp only[kA,kB,kC]);go_simp;try (with_reducible rfl))
       try simp only[Act.put,kF,kD,kE,kA,kB,kC]
       refine wpAnyH_take (i:=6) (oi:=_) (v:=?v6_17) rfl (by kernel_rfl) (by kernel_rfl) (by kernel_rfl) (fun _ _ _ h=>h) (Or.inl ⟨by rfl,?y6_17⟩) (by assumption) ?r6_17
       case y6_17=>(intro w hSw;(try dsimp only at hSw);(try simp only[kA,kB,kC]);go_simp;try (with_reducible rfl))
       try simp only[Act.put,kF,kD,kE,kA,kB,kC]
       refine wpAnyH_take (i:=5) (oi:=_) (v:=?v5_18) rfl (by kernel_rfl) (by kernel_rfl) (by kernel_rfl) (fun _ _ _ h=>h) (Or.inl ⟨by rfl,?y5_18⟩) (by assumption) ?r5_18
       case y5_18=>(intro w hSw;(try dsimp only at hSw);have hxx:=(HXC9.out _ (HB11.out.trans (hSw.mono HB11.out.size))).2.2.2;clear hSw;(try simp only[kA,kB,kC]);go_simp;try (with_reducible rfl))
       try simp only[Act.put,kF,kD,kE,kA,kB,kC]
       refine wpAnyH_take (i:=7) (oi:=_) (v:=?v7_19) rfl (by kernel_rfl) (by kernel_rfl) (by kernel_rfl) (fun _ _ _ h=>h) (Or.inl ⟨by rfl,?y7_19⟩) (by assumption) ?r7_19
       case y7_19=>(intro w hSw;(try dsimp only at hSw);(try simp only[kA,kB,kC]);go_simp;try (with_reducible rfl))
       try simp only[Act.put,kF,kD,kE,kA,kB,kC]
       refine wpAnyH_take (i:=3) (oi:=_) (v := .agg cs1) rfl (by kernel_rfl) (by kernel_rfl) (by kernel_rfl) (fun _ _ _ h=>h) (zbz (by rfl) 88 (.tmp 15) rfl w10.heap.size rfl cs1 88 _ (fun W hW=>zac HBK11.out hW) Tryz.underlying88 rfl (HS1.out.symm ▸ zau)) (by assumption) ?r3_20
       try simp only[Act.put,kF,kD,kE,kA,kB,kC]
       refine wpAnyH_take (i:=8) (oi:=_) (v := .agg t.cs) rfl (by kernel_rfl) (by kernel_rfl) (by kernel_rfl) (fun _ _ _ h=>h) (zfq (by rfl) 88 (.tmp 122) rfl gm (v*59) rfl t.cs _ (fun W hW=>HCM.out W (HB11.out.trans (hW.mono HB11.out.size)) v t HT.out) Tryz.underlying88 rfl (HMD.out.1.symm ▸ zau)) (by assumption) ?r8_21
       try simp only[Act.put,kF,kD,kE,kA,kB,kC]
       refine wpAnyH_ready (rs:=[9]) (by kernel_rfl) (by simp) ?_
       refine AllReadyH.cons rfl (fun K hK=>?_) AllReadyH.nil
       try simp only[kA,kB,kC]
       go_simp
       go_at_call 42
       refine (mt.sm wr _ lo1 far t.ms cs1 t.cs (HMT.out t HTMM.out) HMD.out.2.2 (by exact HBR11.out.trans (hHeld.mono HBR11.out.size)) HLO1.out (mt.rst _ _ _ _ _ _ HPR11.out (alt_of_below (p:=fun _=>False) (by exact hHeld)) (fun _ _ h=>h.elim))).mono ?_
       rintro e w12 ⟨rfl,hb12⟩
       have hb12':=hHeld.trans (hb12.mono hHeld.size)
       have HB12:=hid hb12'
       clear hb12 hb12'
       refine hK.out _ _ (by exact HB12.out) (fun hHeld=>?_)
       clear hK K
       try simp only[Act.put,kF,kD,kE,kA,kB,kC]
       refine wpAnyH_take (i:=10) (oi:=_) (v:=?v10_22) rfl (by kernel_rfl) (by kernel_rfl) (by kernel_rfl) (fun _ _ _ h=>h) (Or.inl ⟨by rfl,?y10_22⟩) (by assumption) ?r10_22
       case y10_22=>(intro w hSw;(try dsimp only at hSw);(try simp only[kA,kB,kC]);go_simp;try (with_reducible rfl))
       try simp only[Act.put,kF,kD,kE,kA,kB,kC]
       refine wpAnyH_take (i:=11) (oi:=_) (v:=?v11_23) rfl (by kernel_rfl) (by kernel_rfl) (by kernel_rfl) (fun _ _ _ h=>h) (Or.inl ⟨by rfl,?y11_23⟩) (by assumption) ?r11_23
       case y11_23=>(intro w hSw;(try dsimp only at hSw);(try simp only[kA,kB,kC]);go_simp;try (with_reducible rfl))
       try simp only[Act.put,kF,kD,kE,kA,kB,kC]
       refine wpAnyH_done (by kernel_rfl) ?_ _
       go_upto_region 28 with fail
       have HB912:Hid (Below w9.heap.size w9 w12):=hid (HB11.out.trans (HB12.out.mono HB11.out.size))
       obtain ⟨y1,y2,y3,y4⟩:=HXC9.out w12 HB912.out
       have cv:=HCV.out w12 HB912.out v t HT.out
       have HPR12:Hid (PR lo1 w12 t.ms cs1):=hid (mt.rst _ _ _ _ _ _ HPR11.out (alt_of_below (p:=fun _=>False) HB12.out) (fun _ _ h=>h.elim))
       have HBK12:Hid (Blk w12 w10.heap.size 88 cs1):=hid (zac HBK11.out HB12.out)
       by_cases he:t.v=o.live
       ·have HGET0:Hid (Calls Tryz.prog 41 #[.pointer (some ⟨g,0,none⟩),.string nm,.int .i64 0] w12 fun e w'=>∃ (cs:Array Value) (lo:Nat),e = .returned (.tuple #[.agg cs,.int .i64 0])∧cs.size=59∧AllOne cs∧w12.heap.size≤lo∧PR lo w' t.ms cs∧Below w12.heap.size w12 w'):=hid (zv0 mt (HBT.out.below (HWW.out w12 HB912.out)) HFS.out 0 t.v (by rw[if_pos rfl,HSL.out];exact he) (by omega) HSVM.out (HMT.out t HTMM.out))
        have he':(t.v:Int)=(o.live:Int):=by omega
        clear he
        go_wp2_with (first
         |(go_at_call 41;(refine HGET0.out.mono ?_;rintro e w13 ⟨cs2,lo2,rfl,hs2,ho2,hlo2,hpr2,hb13⟩;have HS2:=hid hs2;have HO2:=hid ho2;have HLO2:=hid hlo2;have HPR2:=hid hpr2;have HB13:=hid hb13;clear hs2 ho2 hlo2 hpr2 hb13))
         |(refine za0 _ rfl 88 _ _ rfl w13.heap.size zM cs2 88 rfl rfl (by exact Blk.new w13 _ _) (HS2.out.symm ▸ zau) HS2.out.symm HO2.out ?_;intro w14 hb14 ha14 hs14;have HBK14:=hid hb14;have HB1314:Hid (Below w13.heap.size w13 w14):=hid ((Below.new1 w13 _).trans (Alt.toBelow ha14 (fun q _ e=>by rw[e];exact Nat.le_refl _) (by rw[World.size_alloc];omega)));have HB1214:Hid (Below w12.heap.size w12 w14):=hid (HB13.out.trans (HB1314.out.mono HB13.out.size));have HPR14:Hid (PR lo2 w14 t.ms cs2):=hid (mt.rst _ _ _ _ _ _ HPR2.out (alt_of_below (p:=fun _=>False) HB1314.out) (fun _ _ h=>h.elim));clear hb14 ha14 hs14)
         |(refine zdu _ rfl 88 _ rfl w13.heap.size cs2 88 (0,0) _ rfl (by exact HBK14.out) Tryz.underlying88 rfl (HS2.out.symm ▸ zau) ?_)
         |(refine zdu _ rfl 88 _ rfl w10.heap.size cs1 88 (0,0) _ rfl (by exact zac HBK12.out HB1214.out) Tryz.underlying88 rfl (HS1.out.symm ▸ zau) ?_)
         |(go_at_call 42;(refine (mt.ss w12 w14 lo1 lo2 t.ms cs1 cs2 (HMT.out t HTMM.out) HPR12.out HB1214.out HLO2.out HPR14.out).mono ?_;rintro e w15 ⟨rfl,hb15⟩;have HB15:Hid (Below w9.heap.size w9 w15):=hid (HB912.out.trans ((HB1214.out.trans (hb15.mono HB1214.out.size)).mono HB912.out.size));clear hb15)))
        go_roundw
        case rel=>exact ⟨v+1,by omega,by go_num,HB15⟩
        case measure=>simp[intOf];omega
       ·have he':((t.v:Int) == (o.live:Int))=false:=by rw[beq_eq_false_iff_ne];omega
        clear he
        go_wp2
        go_roundw
        case rel=>exact ⟨v+1,by omega,by go_num,HB912⟩
        case measure=>simp[intOf];omega
      ·have hge:¬ ((v:Int)<(N:Int)):=by omega
       obtain ⟨y1,y2,y3,y4⟩:=HXC9.out _ hbr.out
       have HG16:Hid (Calls Tryz.prog 41 #[.pointer (some ⟨g,0,none⟩),.string nm,.int .i64 (o.next:Int)] wr (GetErr 16 wr)):=hid (zvd (HBT.out.below (HWW.out wr hbr.out)) HFS.out (by rw[HSV.out,List.length_map];exact HT0.out) o.next o.next (by rw[if_neg (by have:=HKS.out.nx.1;have h2:=HSN.out;omega)]) (by have:=HKS.out.nx.2.1;have h2:=HSN.out;omega) (by
        cases hh:hasV s o.next with
        |false=>rfl
        |true =>
         obtain ⟨x,hx,hxe⟩:=zc4.1 hh
         have h1:=(HKS.out.vr x hx).2.1
         have h2:=HSN.out
         omega))
       go_wp2_with (first
        |(go_at_call 41;(refine HG16.out.mono ?_;rintro e w10 ⟨rfl,hb10⟩;have HB10:=hid hb10;clear hb10))
        |(refine za0 _ rfl 88 _ _ rfl w10.heap.size zM zM 88 rfl rfl (by exact Blk.new w10 _ _) zau rfl zmb ?_;intro w11 hb11 ha11 hs11;have HB11:Hid (Below w9.heap.size w9 w11):=hid (hbr.out.trans ((HB10.out.trans (((Below.new1 w10 _).trans (Alt.toBelow ha11 (fun q _ e=>by rw[e];exact Nat.le_refl _) (by rw[World.size_alloc];omega))).mono HB10.out.size)).mono hbr.out.size));clear hb11 ha11 hs11))
       go_roundw
       case rel =>
        have HNP:Hid (0<numC C (nmOf i)):=hid (by rw[← HNMI.out, ← (HFC.out nm).2.2.2,HNUM.out];exact HT0.out)
        refine ⟨i+1,by omega,by go_num,hid ⟨some ⟨g9,0,none⟩,c9,by rw[zth HNP.out,List.length_append, ← HHL.out];rfl⟩,hid ?_,hid (HL9.out.trans (HB11.out.mono HL9.out.size))⟩
        rw[zth HNP.out]
        have h1:=zax HO9.out HB11.out
        unfold StrRow
        rw[List.length_map,List.length_append, ← HHL.out,List.map_append,List.map_append, ← HXS.out]
        rw[← HNMI.out]
        exact h1
       case measure=>simp[intOf];omega
  ·have hi3:i=3:=by omega
   subst hi3
   obtain ⟨A5,c5,rfl⟩:=hv5.out
   have HBW:Hid (Below w.heap.size w wr):=hid (HB1.out.trans (hbel.out.mono HB1.out.size))
   have HNMS:Hid (Calls Tryz.prog 43 #[.pointer (some ⟨g,0,none⟩)] wr fun e w'=>∃ v,e = .returned v∧StrRow w' wr.heap.size v ((((List.range 3).map nmOf).filter fun n=>decide (0<numC C n)).map fun n=>n.data.toList)∧Below wr.heap.size wr w'):=hid (by
    have h1:=zvf (HBT.out.below HBW.out) hk (ns:=(List.range 3).map nmOf) (by decide) (fun s hs=>by
     have h2:=HNM.out s (HPM.out.mem_iff.2 hs)
     show s.name ∈ [nmA,nmB,nmC]
     rcases h2 with h2|h2|h2 <;> rw[h2]
     ·exact List.mem_cons_self
     ·exact List.mem_cons_of_mem _ List.mem_cons_self
     ·exact List.mem_cons_of_mem _ (List.mem_cons_of_mem _ List.mem_cons_self))
    have e:(fun n=>decide (0<numC C' n))=fun n=>decide (0<numC C n):=by funext n;rw[(HFC.out n).2.2.2]
    rw[e] at h1
    exact h1)
   obtain ⟨zs,hzs⟩:∃ zs,zs=(((List.range 3).map nmOf).filter fun n=>decide (0<numC C n)).map fun n=>n.data.toList:=⟨_,rfl⟩
   have hl:(((List.range 3).map nmOf).filter fun n=>decide (0<numC C n)).length=zs.length:=by rw[hzs,List.length_map]
   rw[hl]
   rw[← hzs] at hrow HNMS
   rw[hl] at hrow
   have hz3:zs.length≤1000:=by
    rw[← hl]
    have h1:=List.length_filter_le (fun n=>decide (0<numC C n)) ((List.range 3).map nmOf)
    rw[List.length_map,List.length_range] at h1
    omega
   clear hl hzs hv5
   have HRW:=hid hrow.out
   clear hrow
   go_upto_region 36 with (go_at_call 43;refine HNMS.out.mono ?_;rintro e w2 ⟨v2,rfl,hr2,hb2⟩;have HR2:=hid hr2;have HB2:=hid hb2;obtain ⟨A2,c2,rfl⟩:=zdv hr2;clear hr2 hb2)
   have HRW2:=hid (zax HRW.out HB2.out)
   go_wp2
   go_loopw [22] (fun v22 wr2=>∃ j:Nat,j≤zs.length∧v22 = .int .i64 (j:Int)∧Hid (Below w2.heap.size w2 wr2)) (fun v22 _=>zs.length - (intOf v22).toNat)
   case atStart=>exact ⟨0,Nat.zero_le _,rfl,hid (Below.refl _ _)⟩
   case round =>
    obtain ⟨j,hj,rfl,hbj⟩:=hrel
    by_cases hjl:j<zs.length
    ·obtain ⟨g1,rfl⟩:∃ g1,A2=some (⟨g1,0,none⟩:Addr):=by
      rcases HR2.out.2 with ⟨e,h0⟩|⟨g',cap,cur,e,_⟩
      ·omega
      ·injection e with e;exact ⟨g',e⟩
     obtain ⟨g2,rfl⟩:∃ g1,A5=some (⟨g1,0,none⟩:Addr):=by
      rcases HRW2.out.2 with ⟨e,h0⟩|⟨g',cap,cur,e,_⟩
      ·omega
      ·injection e with e;exact ⟨g',e⟩
     have z:(zs.map fun s=>Value.string ⟨⟨s⟩⟩)[j]? = some (.string ⟨⟨zs[j]⟩⟩):=by rw[List.getElem?_map,List.getElem?_eq_getElem hjl];rfl
     have x1:wr.cell? ⟨g1,j,none⟩=some (.string ⟨⟨zs[j]⟩⟩):=zc6 HR2.out hbj.out z
     have x2:wr.cell? ⟨g2,j,none⟩=some (.string ⟨⟨zs[j]⟩⟩):=zc6 HRW2.out hbj.out z
     clear z
     generalize (⟨⟨zs[j]⟩⟩:ByteArray)=m at *
     have hjl':(j:Int)<(zs.length:Int):=by omega
     go_wp2
     go_region_held3 (fun w'=>w'.cell? ⟨g1,j,none⟩=some (.string m)∧w'.cell? ⟨g2,j,none⟩=some (.string m)) (simp[*]) (first|(go_at_call 9999))
     all_goals go_wp2
     all_goals
      go_roundw
      case rel=>exact ⟨j+1,by omega,by go_num,hid (by first|exact hbj.out|exact hbj.out.drew)⟩
      case measure=>simp[intOf];omega
    ·have hge:¬ ((j:Int)<(zs.length:Int)):=by omega
     go_wp2
     go_ret
     exact ⟨rfl,HBW.out.trans ((HB2.out.trans (hbj.out.mono HB2.out.size)).mono HBW.out.size)⟩
end
end Go.Proofs.YtmejdkniafjncaaGreatDoor.Oc
