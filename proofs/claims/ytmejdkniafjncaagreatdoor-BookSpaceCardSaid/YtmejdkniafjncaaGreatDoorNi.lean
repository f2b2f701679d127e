/- The plain shelf: Drop that is done. -/
import Derived.Test.YtmejdkniafjncaaGreatDoorNh
set_option maxHeartbeats 4000000
set_option maxRecDepth 100000
namespace Go.Proofs.YtmejdkniafjncaaGreatDoor.Oc
open Go Go.RowKit Dk
theorem zpa:(Tryz.prog.info? 88).map (fun i=>(i.zero,i.size,i.bytes))=some (some (.agg zM),59,856):=by kernel_rfl
theorem zku {w:World}{B n c sz g k by_:Nat}{t:TypeId}{xs:List Value}(h:w.ownsRow B t sz (.slice (some ⟨g,0,none⟩) n c) n xs)(h1:∀ u∈xs,u.oneCell'=true)(hk:k<n)(hn:n≤1000)(hby:by_≤100000) :
  (xs.take (k*sz)).length=k*sz∧(∀ W,Below w.heap.size w W→∀ i u,(xs.take (k*sz))[i]? = some u→W.cell? ((⟨g,0,none⟩:Addr).add i)=some u)∧(∀ u∈xs.take (k*sz),u.oneCell'=true)∧0+k≤maxLen∧(0+k)*by_≤140737488355328:=by
 refine ⟨?_,zu6 h _,fun u hu=>h1 u (List.mem_of_mem_take hu),by unfold maxLen;omega,?_⟩
 ·rw[List.length_take,h.1,Nat.min_eq_left (Nat.mul_le_mul_right _ (by omega))]
 ·exact Nat.le_trans (Nat.mul_le_mul (show 0+k≤1000 by omega) hby) (by omega)
theorem zkv {w:World}{B n c sz g k by_:Nat}{t:TypeId}{xs:List Value}(h:w.ownsRow B t sz (.slice (some ⟨g,0,none⟩) n c) n xs)(h1:∀ u∈xs,u.oneCell'=true)(hk:k<n)(hn:n≤1000)(hby:by_≤100000){ad:Addr}(had:(if c=k+1 then (some ⟨g,0,none⟩:Option Addr) else some ⟨g,(k+1)*sz,none⟩)=some ad) :
  (xs.drop ((k+1)*sz)).length=(n - (k+1))*sz∧(∀ W,Below w.heap.size w W→∀ i u,(xs.drop ((k+1)*sz))[i]? = some u→W.cell? (ad.add i)=some u)∧(∀ u∈xs.drop ((k+1)*sz),u.oneCell'=true)∧0+k+(n - (k+1))≤maxLen∧(0+k+(n - (k+1)))*by_≤140737488355328:=by
 refine ⟨?_,zu7 h _ had,fun u hu=>h1 u (List.mem_of_mem_drop hu),by unfold maxLen;omega,?_⟩
 ·rw[List.length_drop,h.1,Nat.mul_sub_right_distrib]
 ·exact Nat.le_trans (Nat.mul_le_mul (show 0+k+(n - (k+1))≤1000 by omega) hby) (by omega)
theorem zpb (c k g sz:Nat):∃ ad,(if c=k+1 then (some ⟨g,0,none⟩:Option Addr) else some ⟨g,(k+1)*sz,none⟩)=some ad:=by
 split
 ·exact ⟨_,rfl⟩
 ·exact ⟨_,rfl⟩
section
variable {PM:PMod}(hst:Stays PM){w:World}{B gp:Nat}{far:Nat→Prop}{v:Value}{ps:List Pe}
include hst
theorem zu8 (h:SP PM w B far gp v ps)(hs:Small ps)(name:ByteArray)(ver:Nat)(hr:refC (ps.map Pe.s) 2 name ver=0){s:Sh}(hf:fndC (ps.map Pe.s) name=some s)(hl:¬ (ver=s.live∧1<s.vs.length))(hnd:((ps.map Pe.s).map Sh.name).Nodup)(hri:∀ p∈ps,(p.ts.map (·.v)).Pairwise (· < ·))(hlh:∀ p∈ps,0<p.ts.length→hasV p.s p.o.live=true) :
  Calls Tryz.prog 23 #[.pointer (some ⟨gp,0,none⟩),.string name,.int .i64 (ver:Int)] w fun e w'=>e = .returned (.int .i64 0)∧SPost PM w B far gp v ps (stepK (ps.map Pe.s) ⟨3,name,ver,[]⟩) w':=by
 obtain ⟨A,c,rfl⟩:=zbn h.ps
 have HREF:Hid (refC (ps.map Pe.s) 3 name ver=0):=hid (by rw[ztf hr hf,if_neg hl])
 have HND:=hid hnd
 have HRI:=hid hri
 have HLH:=hid hlh
 have HF:=hid (zny h.ps hs name ver hr)
 have HP:=hid h
 have HL:=hid hl
 have HFC:=hid hf
 have HS:=hid hs
 have c0:w.cell? ⟨gp,0,none⟩=some (.slice A ps.length c):=h.pt.cell 0
 clear h hs hr hl hf hnd hri hlh
 go_enter Tryz.func23,Tryz.ntmps23
 go_upto_region 5 with (first
  |(go_at_call 50;refine HF.out.mono ?_;rintro e w2 ⟨⟨j,k,p,t,hj,hk,htv,hfn,hnm,rfl⟩,hb⟩;have HP2:=hid (HP.out.below hst hb);obtain ⟨g,rfl,hgc,hgf,hgb⟩:=HP2.out.ps.live hj;have q2:=hgc 2 (.int .i64 (p.o.live:Int)) (by decide) rfl;have q3:=hgc 3 (.slice p.o.vA p.o.vn p.o.vc) (by decide) rfl;have q4:=hgc 4 (.slice p.o.mA p.o.vn p.o.mc) (by decide) rfl;have hjn:(j:Int)<(ps.length:Int):=(by have:=(List.getElem?_eq_some_iff.1 hj).1;omega);have c2:w2.cell? ⟨gp,0,none⟩=some (.slice (some ⟨g,0,none⟩) ps.length c):=HP2.out.pt.cell 0;have HB:=hid hb;clear hgc))
 have HLV:Hid (s=p.s):=hid (by have:=HFC.out;rw[hfn] at this;injection this with this;exact this.symm)
 have hk':k<p.ts.length:=(List.getElem?_eq_some_iff.1 hk).1
 have hPE:=HP2.out.ps.each p (za7 hj)
 have hL:p.o.vn=p.ts.length:=hPE.n
 have hL1:p.ts.length≤1000:=(HS.out.2 p (za7 hj)).2.2
 have HJ:=hid hj
 have HK:=hid hk
 have HTV:=hid htv
 have HNM:=hid hnm
 have HFN:=hid hfn
 have HPE:=hid hPE
 obtain ⟨L,hLL⟩:∃ L,L=p.o.vn:=⟨_,rfl⟩
 obtain ⟨vA,hvA⟩:∃ x,x=p.o.vA:=⟨_,rfl⟩
 obtain ⟨vc,hvc⟩:∃ x,x=p.o.vc:=⟨_,rfl⟩
 obtain ⟨mA,hmA⟩:∃ x,x=p.o.mA:=⟨_,rfl⟩
 obtain ⟨mc,hmc⟩:∃ x,x=p.o.mc:=⟨_,rfl⟩
 rw[← hLL, ← hvA, ← hvc] at q3
 rw[← hLL, ← hmA, ← hmc] at q4
 have hvr:w2.ownsRow B 3 1 (.slice vA L vc) L ((versT p.ts).map (Value.int .i64)):=by
  have:=hPE.vr
  unfold IntRow at this
  rw[show (versT p.ts).length=L by unfold versT;rw[List.length_map,hLL,hL],show p.o.vv = .slice vA L vc by rw[hLL,hvA,hvc]] at this
  exact this
 have hmr:w2.ownsRow B 88 59 (.slice mA L mc) L (flatT p.ts):=by
  have:=hPE.mr
  rw[show p.ts.length=L by rw[hLL,hL],show p.o.mv = .slice mA L mc by rw[hLL,hmA,hmc]] at this
  exact this
 have HEQ:=hid (And.intro hLL (And.intro hvA (And.intro hvc (And.intro hmA hmc))))
 have hkLn:k<L:=by omega
 have hL1:L≤1000:=by omega
 obtain ⟨gv,hgv⟩:∃ gv,vA=some (⟨gv,0,none⟩:Addr):=by
  rcases hvr.2 with ⟨_,h0⟩|⟨g',cap,cur,e,_⟩
  ·omega
  ·injection e with e;exact ⟨g',e⟩
 obtain ⟨gm,hgm⟩:∃ gm,mA=some (⟨gm,0,none⟩:Addr):=by
  rcases hmr.2 with ⟨_,h0⟩|⟨g',cap,cur,e,_⟩
  ·omega
  ·injection e with e;exact ⟨g',e⟩
 subst hgv hgm
 have hcv:L≤vc:=by
  rcases hvr.2 with ⟨_,h0⟩|⟨g',cap,cur,e,_,_,h3,_⟩
  ·omega
  ·injection e with _ _ e;omega
 have hcm:L≤mc:=by
  rcases hmr.2 with ⟨_,h0⟩|⟨g',cap,cur,e,_,_,h3,_⟩
  ·omega
  ·injection e with _ _ e;omega
 obtain ⟨i0,hi0,hz0,hz1,hz2⟩:=info_parts zib
 have HIv:=hid hi0
 obtain ⟨zv,hzv⟩:∃ z,z=Value.int .i64 0:=⟨_,rfl⟩
 rw[← hzv] at hz0
 have HZ0v:=hid hz0
 have HZ1v:=hid hz1
 have HZ2v:=hid hz2
 have HZ3v:Hid (zv.cells.size=1):=hid (by rw[hzv];rfl)
 clear hi0 hz0 hz1 hz2 hzv
 obtain ⟨i1,hi0,hz0,hz1,hz2⟩:=info_parts zpa
 have HIm:=hid hi0
 obtain ⟨zm,hzm⟩:∃ z,z=Value.agg zM:=⟨_,rfl⟩
 rw[← hzm] at hz0
 have HZ0m:=hid hz0
 have HZ1m:=hid hz1
 have HZ2m:=hid hz2
 have HZ3m:Hid (zm.cells.size=59):=hid (by rw[hzm];rfl)
 clear hi0 hz0 hz1 hz2 hzm
 obtain ⟨xsv,hxsv⟩:∃ xs,xs=(versT p.ts).map (Value.int .i64):=⟨_,rfl⟩
 obtain ⟨xsm,hxsm⟩:∃ xs,xs=flatT p.ts:=⟨_,rfl⟩
 rw[← hxsv] at hvr
 rw[← hxsm] at hmr
 have HXV:=hid hxsv
 have HXM:=hid hxsm
 have hov:∀ u∈xsv,u.oneCell'=true:=fun u hu=>by rw[hxsv] at hu;obtain ⟨z,_,rfl⟩:=List.mem_map.1 hu;rfl
 have hom:∀ u∈xsm,u.oneCell'=true:=by rw[hxsm];exact zml hPE.md
 obtain ⟨adv,hav⟩:=zpb vc k gv 1
 obtain ⟨adm,ham⟩:=zpb mc k gm 59
 have HVR:=hid hvr
 have HMR:=hid hmr
 have HXv:=hid (zku (by_:=8) hvr hov hkLn hL1 (by decide))
 have HRv:=hid (zkv (by_:=8) hvr hov hkLn hL1 (by decide) hav)
 have HOM:=hid hom
 have HAM:=hid ham
 have HLTv:Hid (g<w2.heap.size):=hid (zdh HP2.out.ps.row g rfl)
 have hkL:(k:Int)<(L:Int):=by omega
 have hkc:k≤vc:=by omega
 have hkcm:k≤mc:=by omega
 have hwk:IntKind.i64.wrap ((k:Int)+1)=((k+1:Nat):Int):=IntWalk.i64_in _ (by omega)
 have hwk1:(k:Int)+1≤(L:Int):=by omega
 have hwk0:0≤(k:Int)+1:=by omega
 have hif:(if vc=k+1 then (some ⟨gv,0,none⟩:Option Addr) else some ⟨gv,k+1,none⟩)=some adv:=by rw[← hav,Nat.mul_one]
 have hifm:(if mc=k+1 then (some ⟨gm,0,none⟩:Option Addr) else some ⟨gm,(k+1)*59,none⟩)=some adm:=ham
 have hgd1:∀ n:Nat,n=L→True:=fun _ _=>trivial
 have HYv:Hid (Below w2.heap.size w2 (w2.alloc (.cells #[] 3)).drew):=hid (Below.new1 w2 _).drew
 have q3v:=q3
 have HGF:=hid hgf
 have HQ4:=hid q4
 have HQ2:=hid q2
 have HL1:=hid hL1
 have HB2:=hid hb
 have hlv:ver≠p.o.live∨(ver=p.o.live∧L=1):=by
  have h1:=HL.out
  have h2:=HLV.out
  rw[h2] at h1
  have h3:p.s.vs.length=p.ts.length:=List.length_map _
  have h4:p.s.live=p.o.live:=rfl
  rw[h3,h4] at h1
  by_cases e:ver=p.o.live
  ·exact .inr ⟨e,by have:=Nat.not_lt.1 (fun h=>h1 ⟨e,h⟩);omega⟩
  ·exact .inl e
 clear hk hj htv hfn hnm hLL hvA hvc hmA hmc hvr hmr hL hk' hPE hxsv hxsm hov hom hav ham hgd1 hkLn
 rcases hlv with hlv|⟨hlv,hlv1⟩
 ·have hne:((p.o.live:Int) == (ver:Int))=false:=by rw[beq_eq_false_iff_ne];omega
  go_upto_region 7 with fail
  refine Hl.wp_region_L 19 (S:=fun W=>W.cell? ⟨g,j*5+3,none⟩=some (.slice (some ⟨gv,0,none⟩) L vc)) (by kernel_rfl) (by exact q3v) (fun hHeld=>?_)
  refine Hl.wpAnyL_take (i:=0) (oi:=_) (v:=?v0_1) rfl (by kernel_rfl) (by kernel_rfl) (by kernel_rfl) (by kernel_rfl) (fun _ _ _ h=>h) (Or.inl ⟨by rfl,?y0_1⟩) (by assumption) ?r0_1
  case y0_1=>(intro w hSw;(try dsimp only at hSw);(try simp only[kA,kB]);go_simp;try (with_reducible rfl))
  try simp only[Act.put,kF,kD,kE,kA,kB]
  refine Hl.wpAnyL_take (i:=2) (oi:=_) (v:=?v2_2) rfl (by kernel_rfl) (by kernel_rfl) (by kernel_rfl) (by kernel_rfl) (fun _ _ _ h=>h) (Or.inl ⟨by rfl,?y2_2⟩) (by assumption) ?r2_2
  case y2_2=>(intro w hSw;(try dsimp only at hSw);(try simp only[kA,kB,kC]);go_simp;try (with_reducible rfl))
  try simp only[Act.put,kF,kD,kE,kA,kB,kC]
  refine Hl.wpAnyL_take (i:=3) (oi:=_) (v:=?v3_3) rfl (by kernel_rfl) (by kernel_rfl) (by kernel_rfl) (by kernel_rfl) (fun _ _ _ h=>h) (Or.inl ⟨by rfl,?y3_3⟩) (by assumption) ?r3_3
  case y3_3=>(intro w hSw;(try dsimp only at hSw);(try simp only[kA,kB,kC]);go_simp;try (with_reducible rfl))
  try simp only[Act.put,kF,kD,kE,kA,kB,kC]
  refine Hl.wpAnyL_take (i:=4) (oi:=_) (v:=?v4_4) rfl (by kernel_rfl) (by kernel_rfl) (by kernel_rfl) (by kernel_rfl) (fun _ _ _ h=>h) (Or.inl ⟨by rfl,?y4_4⟩) (by assumption) ?r4_4
  case y4_4=>(intro w hSw;(try dsimp only at hSw);(try simp only[kA,kB,kC]);go_simp;try (with_reducible rfl))
  try simp only[Act.put,kF,kD,kE,kA,kB,kC]
  refine Hl.wpAnyL_take (i:=5) (oi:=_) (v:=?v5_5) rfl (by kernel_rfl) (by kernel_rfl) (by kernel_rfl) (by kernel_rfl) (fun _ _ _ h=>h) (Or.inl ⟨by rfl,?y5_5⟩) (by assumption) ?r5_5
  case y5_5=>(intro w hSw;(try dsimp only at hSw);(try simp only[kA,kB,kC]);go_simp;try (with_reducible rfl))
  try simp only[Act.put,kF,kD,kE,kA,kB,kC]
  refine Hl.wpAnyL_take (i:=6) (oi:=_) (v:=?v6_6) rfl (by kernel_rfl) (by kernel_rfl) (by kernel_rfl) (by kernel_rfl) (fun _ _ _ h=>h) (Or.inl ⟨by rfl,?y6_6⟩) (by assumption) ?r6_6
  case y6_6=>(intro w hSw;(try dsimp only at hSw);(try simp only[kA,kB,kC]);go_simp;try (with_reducible rfl))
  try simp only[Act.put,kF,kD,kE,kA,kB,kC]
  refine Hl.wpAnyL_take (i:=7) (oi:=_) (v:=?v7_7) rfl (by kernel_rfl) (by kernel_rfl) (by kernel_rfl) (by kernel_rfl) (fun _ _ _ h=>h) (Or.inl ⟨by rfl,?y7_7⟩) (by assumption) ?r7_7
  case y7_7=>(intro w hSw;(try dsimp only at hSw);(try simp only[kA,kB,kC]);go_simp;try (with_reducible rfl))
  try simp only[Act.put,kF,kD,kE,kA,kB,kC]
  refine Hl.wpAnyL_take (i:=9) (oi:=_) (v:=?v9_8) rfl (by kernel_rfl) (by kernel_rfl) (by kernel_rfl) (by kernel_rfl) (fun _ _ _ h=>h) (Or.inl ⟨by rfl,?y9_8⟩) (by assumption) ?r9_8
  case y9_8=>(intro w hSw;(try dsimp only at hSw);(try simp only[kA,kB,kC]);go_simp;try (with_reducible rfl))
  try simp only[Act.put,kF,kD,kE,kA,kB,kC]
  refine Hl.wpAnyL_take (i:=10) (oi:=_) (v:=?v10_9) rfl (by kernel_rfl) (by kernel_rfl) (by kernel_rfl) (by kernel_rfl) (fun _ _ _ h=>h) (Or.inl ⟨by rfl,?y10_9⟩) (by assumption) ?r10_9
  case y10_9=>(intro w hSw;(try dsimp only at hSw);(try simp only[kA,kB,kC]);go_simp;try (with_reducible rfl))
  try simp only[Act.put,kF,kD,kE,kA,kB,kC]
  refine Hl.wpAnyL_take (i:=11) (oi:=_) (v:=?v11_10) rfl (by kernel_rfl) (by kernel_rfl) (by kernel_rfl) (by kernel_rfl) (fun _ _ _ h=>h) (Or.inl ⟨by rfl,?y11_10⟩) (by assumption) ?r11_10
  case y11_10=>(intro w hSw;(try dsimp only at hSw);(try simp only[kA,kB,kC]);go_simp;try (with_reducible rfl))
  try simp only[Act.put,kF,kD,kE,kA,kB,kC]
  refine Hl.wpAnyL_take (i:=12) (oi:=_) (v:=?v12_11) rfl (by kernel_rfl) (by kernel_rfl) (by kernel_rfl) (by kernel_rfl) (fun _ _ _ h=>h) (Or.inl ⟨by rfl,?y12_11⟩) (by assumption) ?r12_11
  case y12_11=>(intro w hSw;(try dsimp only at hSw);(try simp only[kA,kB,kC]);go_simp;try (with_reducible rfl))
  try simp only[Act.put,kF,kD,kE,kA,kB,kC]
  refine Hl.wpAnyL_take (i:=13) (oi:=_) (v:=?v13_12) rfl (by kernel_rfl) (by kernel_rfl) (by kernel_rfl) (by kernel_rfl) (fun _ _ _ h=>h) (Or.inl ⟨by rfl,?y13_12⟩) (by assumption) ?r13_12
  case y13_12=>(intro w hSw;(try dsimp only at hSw);(try simp only[kA,kB,kC]);go_simp;try (with_reducible rfl))
  try simp only[Act.put,kF,kD,kE,kA,kB,kC]
  refine Hl.wpAnyL_take (i:=14) (oi:=_) (v:=?v14_13) rfl (by kernel_rfl) (by kernel_rfl) (by kernel_rfl) (by kernel_rfl) (fun _ _ _ h=>h) (Or.inl ⟨by rfl,?y14_13⟩) (by assumption) ?r14_13
  case y14_13=>(intro w hSw;(try dsimp only at hSw);(try simp only[kA,kB,kC]);go_simp;try (with_reducible rfl))
  try simp only[Act.put,kF,kD,kE,kA,kB,kC]
  refine Hl.wpAnyL_take (i:=15) (oi:=_) (v:=?v15_14) rfl (by kernel_rfl) (by kernel_rfl) (by kernel_rfl) (by kernel_rfl) (fun _ _ _ h=>h) (Or.inl ⟨by rfl,?y15_14⟩) (by assumption) ?r15_14
  case y15_14=>(intro w hSw;(try dsimp only at hSw);(try simp only[kA,kB,kC]);go_simp;try (with_reducible rfl))
  try simp only[Act.put,kF,kD,kE,kA,kB,kC]
  refine Hl.wpAnyL_one (i:=1) (by kernel_rfl) rfl (fun K hK=>?_)
  try simp only[kA,kB,kC]
  go_simp
  refine hK.out _ _ (fun _=>by exact (World.cell?_alloc_lt _ _ _ HLTv.out).trans hHeld) (fun hHeld=>?_)
  replace hHeld:=hHeld (by decide)
  clear hK K
  try simp only[Act.put,kF,kD,kE,kA,kB,kC]
  refine Hl.wpAnyL_one (i:=8) (by kernel_rfl) rfl (fun K hK=>?_)
  refine zcn ((w2.alloc (.cells #[] 3)).drew) ?_ (.tmp 45) (.tmp 51) 80 ?_ w2.heap.size 3 i0 zv 1 8 Tryz.underlying80 HIv.out HZ0v.out HZ1v.out HZ2v.out HZ3v.out (by decide) (.slice (some ⟨w2.heap.size,0,none⟩) 0 0) 0 [] ?_ (show ((w2.alloc (.cells #[] 3)).drew).ownsRow w2.heap.size 3 1 (.slice (some ⟨w2.heap.size,0,none⟩) 0 0) 0 [] from World.ownsRow_made w2 #[] 0 (Nat.le_refl _) (by decide) rfl) ⟨gv,0,none⟩ k vc (xsv.take (k*1)) ?_ HXv.out.1 (HXv.out.2.1 _ (by exact HYv.out)) HXv.out.2.2.1 HXv.out.2.2.2.1 HXv.out.2.2.2.2 (by simp[World.size_drew]) ?_
  ·rfl
  ·rfl
  ·rfl
  ·rfl
  intro v4v w4v hown4v hgrow4v
  have HB4v:Hid (Below w2.heap.size w2 w4v):=hid (Below.grown HYv.out hgrow4v (by simp[World.size_drew]) (fun q hq=>by injection hq with hq;rw[← hq];exact Nat.le_refl _))
  have HO4v:=hid hown4v
  obtain ⟨A4v,c4v,rfl⟩:=zdv hown4v
  clear hown4v hgrow4v
  try simp only[Act.put,kF]
  refine hK.out _ _ (fun _=>by exact (HB4v.out.cell (p:=⟨g,j*5+3,none⟩) HLTv.out).trans q3v) (fun hHeld=>?_)
  replace hHeld:=hHeld (by decide)
  clear hK K
  try simp only[kD,kE,kA,kB,kC]
  refine Hl.wpAnyL_one (i:=16) (by kernel_rfl) rfl (fun K hK=>?_)
  refine zcn w4v ?_ (.tmp 52) (.tmp 59) 80 ?_ w2.heap.size 3 i0 zv 1 8 Tryz.underlying80 HIv.out HZ0v.out HZ1v.out HZ2v.out HZ3v.out (by decide) (.slice A4v (0+k) c4v) (0+k) ([]++xsv.take (k*1)) ?_ HO4v.out adv (L - (k+1)) (vc - (k+1)) (xsv.drop ((k+1)*1)) ?_ HRv.out.1 (HRv.out.2.1 _ (by exact HB4v.out)) HRv.out.2.2.1 HRv.out.2.2.2.1 HRv.out.2.2.2.2 HB4v.out.size ?_
  ·rfl
  ·rfl
  ·rfl
  ·rfl
  intro v5v w5v hown5v hgrow5v
  have HB5v:Hid (Below w2.heap.size w2 w5v):=hid (HB4v.out.grown hgrow5v HB4v.out.size (fun q hq=>(World.ownsRow.lt HO4v.out q hq).1))
  have HO5v:=hid hown5v
  obtain ⟨A5v,c5v,rfl⟩:=zdv hown5v
  have fz5v:w5v.frozen? ⟨g,j*5+3,none⟩=false:=(World.frozen?_of_block (HB5v.out.block g HLTv.out)).trans (HGF.out _)
  have p5v:w5v.cell? ⟨g,j*5+3,none⟩=some (.slice (some ⟨gv,0,none⟩) L vc):=(HB5v.out.cell (p:=⟨g,j*5+3,none⟩) HLTv.out).trans q3v
  clear hown5v hgrow5v
  try simp only[Act.put,kF]
  refine hK.out _ _ (fun _=>by exact p5v) (fun hHeld=>?_)
  replace hHeld:=hHeld (by decide)
  clear hK K
  try simp only[kD,kE,kA,kB,kC]
  refine Hl.wpAnyL_one (i:=17) (by kernel_rfl) rfl (fun K hK=>?_)
  try simp only[kA,kB,kC]
  go_simp
  refine hK.out _ _ (fun _=>by assumption) (fun hHeld=>?_)
  replace hHeld:=hHeld (by decide)
  clear hK K
  try simp only[Act.put,kF,kD,kE,kA,kB,kC]
  refine Hl.wpAnyL_one (i:=18) (by kernel_rfl) rfl (fun K hK=>?_)
  try simp only[kA,kB,kC]
  go_simp
  refine hK.out _ _ (fun _=>by assumption) (fun hHeld=>?_)
  replace hHeld:=hHeld (by decide)
  clear hK K
  try simp only[Act.put,kF,kD,kE,kA,kB,kC]
  refine Hl.wpAnyL_one (i:=19) (by kernel_rfl) rfl (fun K hK=>?_)
  try simp only[kA,kB,kC]
  go_simp
  refine hK.out _ _ (fun h=>absurd rfl h) (fun hHeld=>?_)
  clear hK K
  try simp only[Act.put,kF,kD,kE,kA,kB,kC]
  refine Hl.wpAnyL_done (by kernel_rfl) ?_ _
  go_upto_region 8 with fail
  have ha7:Alt w2 (w5v.setCell ⟨g,j*5+3,none⟩ (.slice A5v (0+k+(L - (k+1))) c5v)) (fun q=>q=g):=Alt.set_ (p:=fun q=>q=g) (a:=⟨g,j*5+3,none⟩) (alt_of_below HB5v.out) rfl _
  have HO7:Hid ((w5v.setCell ⟨g,j*5+3,none⟩ (.slice A5v (0+k+(L - (k+1))) c5v)).ownsRow w2.heap.size 3 1 (.slice A5v (0+k+(L - (k+1))) c5v) (0+k+(L - (k+1))) ([]++xsv.take (k*1)++xsv.drop ((k+1)*1))):=hid (zan HO5v.out (Alt.set_ (p:=fun q=>q=g) (a:=⟨g,j*5+3,none⟩) (Alt.refl _ _) rfl _) (fun q hq e=>by have h1:=(World.ownsRow.lt HO5v.out q hq).1;have h2:=HLTv.out;omega))
  have HR7:Hid ((w5v.setCell ⟨g,j*5+3,none⟩ (.slice A5v (0+k+(L - (k+1))) c5v)).ownsRow B 102 5 (.slice (some ⟨g,0,none⟩) ps.length c) ps.length (((ps.map Pe.o).map cellsO).flatten.set (j*5+3) (.slice A5v (0+k+(L - (k+1))) c5v))):=hid (zb2 (zax (by have:=HP2.out.ps.row;unfold OnRow at this;rw[List.length_map] at this;exact this) HB5v.out))
  have HZ7:Hid (w2.heap.size≤(w5v.setCell ⟨g,j*5+3,none⟩ (.slice A5v (0+k+(L - (k+1))) c5v)).heap.size):=hid ha7.size
  have q4m:(w5v.setCell ⟨g,j*5+3,none⟩ (.slice A5v (0+k+(L - (k+1))) c5v)).cell? ⟨g,j*5+4,none⟩=some (.slice (some ⟨gm,0,none⟩) L mc):=(zaq w5v _ _ _ (by omega)).trans ((HB5v.out.cell (p:=⟨g,j*5+4,none⟩) HLTv.out).trans HQ4.out)
  have q2m:(w5v.setCell ⟨g,j*5+3,none⟩ (.slice A5v (0+k+(L - (k+1))) c5v)).cell? ⟨g,j*5+2,none⟩=some (.int .i64 (p.o.live:Int)):=(zaq w5v _ _ _ (by omega)).trans ((HB5v.out.cell (p:=⟨g,j*5+2,none⟩) HLTv.out).trans HQ2.out)
  have hgf7:∀ i,(w5v.setCell ⟨g,j*5+3,none⟩ (.slice A5v (0+k+(L - (k+1))) c5v)).frozen? ⟨g,i,none⟩=false:=fun i=>by
   rw[World.frozen?_setCell]
   exact (World.frozen?_of_block (HB5v.out.block g HLTv.out)).trans (HGF.out i)
  have HA7:=hid ha7
  have HMR7:Hid ((w5v.setCell ⟨g,j*5+3,none⟩ (.slice A5v (0+k+(L - (k+1))) c5v)).ownsRow B 88 59 (.slice (some ⟨gm,0,none⟩) L mc) L xsm):=hid (zan HMR.out ha7 (fun q hq e=>zcm HP2.out.ps.row HMR.out (by decide) g rfl (by rw[← e];exact hq)))
  obtain ⟨N,hN⟩:∃ N,N=0+k+(L - (k+1)):=⟨_,rfl⟩
  have HN:=hid hN
  have hkN:k+(L - (k+1))=N:=by omega
  rw[← hN] at ha7 HO7 HR7 HZ7 q4m q2m hgf7 HA7 HMR7
  try rw[hkN]
  clear hN ha7 hkN fz5v p5v
  generalize w5v.setCell ⟨g,j*5+3,none⟩ (.slice A5v N c5v)=W7 at HO7 HR7 HZ7 q4m q2m hgf7 HA7 HMR7 ⊢
  have HXm:=hid (zku (by_:=856) HMR7.out HOM.out (by omega:k<L) (by have:=HL1.out;omega) (by decide))
  have HRm:=hid (zkv (by_:=856) HMR7.out HOM.out (by omega:k<L) (by have:=HL1.out;omega) (by decide) HAM.out)
  have HLTm:Hid (g<W7.heap.size):=hid (Nat.lt_of_lt_of_le HLTv.out HZ7.out)
  have HYm:Hid (Below W7.heap.size W7 (W7.alloc (.cells #[] 88)).drew):=hid (Below.new1 W7 _).drew
  have HGF7:=hid hgf7
  have HQ27:=hid q2m
  clear q2m hgf7 hif
  refine Hl.wp_region_L 19 (S:=fun W=>W.cell? ⟨g,j*5+4,none⟩=some (.slice (some ⟨gm,0,none⟩) L mc)) (by kernel_rfl) (by exact q4m) (fun hHeld=>?_)
  refine Hl.wpAnyL_take (i:=0) (oi:=_) (v:=?v0_15) rfl (by kernel_rfl) (by kernel_rfl) (by kernel_rfl) (by kernel_rfl) (fun _ _ _ h=>h) (Or.inl ⟨by rfl,?y0_15⟩) (by assumption) ?r0_15
  case y0_15=>(intro w hSw;(try dsimp only at hSw);(try simp only[kA,kB]);go_simp;try (with_reducible rfl))
  try simp only[Act.put,kF,kD,kE,kA,kB]
  refine Hl.wpAnyL_take (i:=2) (oi:=_) (v:=?v2_16) rfl (by kernel_rfl) (by kernel_rfl) (by kernel_rfl) (by kernel_rfl) (fun _ _ _ h=>h) (Or.inl ⟨by rfl,?y2_16⟩) (by assumption) ?r2_16
  case y2_16=>(intro w hSw;(try dsimp only at hSw);(try simp only[kA,kB,kC]);go_simp;try (with_reducible rfl))
  try simp only[Act.put,kF,kD,kE,kA,kB,kC]
  refine Hl.wpAnyL_take (i:=3) (oi:=_) (v:=?v3_17) rfl (by kernel_rfl) (by kernel_rfl) (by kernel_rfl) (by kernel_rfl) (fun _ _ _ h=>h) (Or.inl ⟨by rfl,?y3_17⟩) (by assumption) ?r3_17
  case y3_17=>(intro w hSw;(try dsimp only at hSw);(try simp only[kA,kB,kC]);go_simp;try (with_reducible rfl))
  try simp only[Act.put,kF,kD,kE,kA,kB,kC]
  refine Hl.wpAnyL_take (i:=4) (oi:=_) (v:=?v4_18) rfl (by kernel_rfl) (by kernel_rfl) (by kernel_rfl) (by kernel_rfl) (fun _ _ _ h=>h) (Or.inl ⟨by rfl,?y4_18⟩) (by assumption) ?r4_18
  case y4_18=>(intro w hSw;(try dsimp only at hSw);(try simp only[kA,kB,kC]);go_simp;try (with_reducible rfl))
  try simp only[Act.put,kF,kD,kE,kA,kB,kC]
  refine Hl.wpAnyL_take (i:=5) (oi:=_) (v:=?v5_19) rfl (by kernel_rfl) (by kernel_rfl) (by kernel_rfl) (by kernel_rfl) (fun _ _ _ h=>h) (Or.inl ⟨by rfl,?y5_19⟩) (by assumption) ?r5_19
  case y5_19=>(intro w hSw;(try dsimp only at hSw);(try simp only[kA,kB,kC]);go_simp;try (with_reducible rfl))
  try simp only[Act.put,kF,kD,kE,kA,kB,kC]
  refine Hl.wpAnyL_take (i:=6) (oi:=_) (v:=?v6_20) rfl (by kernel_rfl) (by kernel_rfl) (by kernel_rfl) (by kernel_rfl) (fun _ _ _ h=>h) (Or.inl ⟨by rfl,?y6_20⟩) (by assumption) ?r6_20
  case y6_20=>(intro w hSw;(try dsimp only at hSw);(try simp only[kA,kB,kC]);go_simp;try (with_reducible rfl))
  try simp only[Act.put,kF,kD,kE,kA,kB,kC]
  refine Hl.wpAnyL_take (i:=7) (oi:=_) (v:=?v7_21) rfl (by kernel_rfl) (by kernel_rfl) (by kernel_rfl) (by kernel_rfl) (fun _ _ _ h=>h) (Or.inl ⟨by rfl,?y7_21⟩) (by assumption) ?r7_21
  case y7_21=>(intro w hSw;(try dsimp only at hSw);(try simp only[kA,kB,kC]);go_simp;try (with_reducible rfl))
  try simp only[Act.put,kF,kD,kE,kA,kB,kC]
  refine Hl.wpAnyL_take (i:=9) (oi:=_) (v:=?v9_22) rfl (by kernel_rfl) (by kernel_rfl) (by kernel_rfl) (by kernel_rfl) (fun _ _ _ h=>h) (Or.inl ⟨by rfl,?y9_22⟩) (by assumption) ?r9_22
  case y9_22=>(intro w hSw;(try dsimp only at hSw);(try simp only[kA,kB,kC]);go_simp;try (with_reducible rfl))
  try simp only[Act.put,kF,kD,kE,kA,kB,kC]
  refine Hl.wpAnyL_take (i:=10) (oi:=_) (v:=?v10_23) rfl (by kernel_rfl) (by kernel_rfl) (by kernel_rfl) (by kernel_rfl) (fun _ _ _ h=>h) (Or.inl ⟨by rfl,?y10_23⟩) (by assumption) ?r10_23
  case y10_23=>(intro w hSw;(try dsimp only at hSw);(try simp only[kA,kB,kC]);go_simp;try (with_reducible rfl))
  try simp only[Act.put,kF,kD,kE,kA,kB,kC]
  refine Hl.wpAnyL_take (i:=11) (oi:=_) (v:=?v11_24) rfl (by kernel_rfl) (by kernel_rfl) (by kernel_rfl) (by kernel_rfl) (fun _ _ _ h=>h) (Or.inl ⟨by rfl,?y11_24⟩) (by assumption) ?r11_24
  case y11_24=>(intro w hSw;(try dsimp only at hSw);(try simp only[kA,kB,kC]);go_simp;try (with_reducible rfl))
  try simp only[Act.put,kF,kD,kE,kA,kB,kC]
  refine Hl.wpAnyL_take (i:=12) (oi:=_) (v:=?v12_25) rfl (by kernel_rfl) (by kernel_rfl) (by kernel_rfl) (by kernel_rfl) (fun _ _ _ h=>h) (Or.inl ⟨by rfl,?y12_25⟩) (by assumption) ?r12_25
  case y12_25=>(intro w hSw;(try dsimp only at hSw);(try simp only[kA,kB,kC]);go_simp;try (with_reducible rfl))
  try simp only[Act.put,kF,kD,kE,kA,kB,kC]
  refine Hl.wpAnyL_take (i:=13) (oi:=_) (v:=?v13_26) rfl (by kernel_rfl) (by kernel_rfl) (by kernel_rfl) (by kernel_rfl) (fun _ _ _ h=>h) (Or.inl ⟨by rfl,?y13_26⟩) (by assumption) ?r13_26
  case y13_26=>(intro w hSw;(try dsimp only at hSw);(try simp only[kA,kB,kC]);go_simp;try (with_reducible rfl))
  try simp only[Act.put,kF,kD,kE,kA,kB,kC]
  refine Hl.wpAnyL_take (i:=14) (oi:=_) (v:=?v14_27) rfl (by kernel_rfl) (by kernel_rfl) (by kernel_rfl) (by kernel_rfl) (fun _ _ _ h=>h) (Or.inl ⟨by rfl,?y14_27⟩) (by assumption) ?r14_27
  case y14_27=>(intro w hSw;(try dsimp only at hSw);(try simp only[kA,kB,kC]);go_simp;try (with_reducible rfl))
  try simp only[Act.put,kF,kD,kE,kA,kB,kC]
  refine Hl.wpAnyL_take (i:=15) (oi:=_) (v:=?v15_28) rfl (by kernel_rfl) (by kernel_rfl) (by kernel_rfl) (by kernel_rfl) (fun _ _ _ h=>h) (Or.inl ⟨by rfl,?y15_28⟩) (by assumption) ?r15_28
  case y15_28=>(intro w hSw;(try dsimp only at hSw);(try simp only[kA,kB,kC]);go_simp;try (with_reducible rfl))
  try simp only[Act.put,kF,kD,kE,kA,kB,kC]
  refine Hl.wpAnyL_one (i:=1) (by kernel_rfl) rfl (fun K hK=>?_)
  try simp only[kA,kB,kC]
  go_simp
  refine hK.out _ _ (fun _=>by exact (World.cell?_alloc_lt _ _ _ HLTm.out).trans hHeld) (fun hHeld=>?_)
  replace hHeld:=hHeld (by decide)
  clear hK K
  try simp only[Act.put,kF,kD,kE,kA,kB,kC]
  refine Hl.wpAnyL_one (i:=8) (by kernel_rfl) rfl (fun K hK=>?_)
  refine zcn ((W7.alloc (.cells #[] 88)).drew) ?_ (.tmp 64) (.tmp 70) 100 ?_ W7.heap.size 88 i1 zm 59 856 Tryz.underlying100 HIm.out HZ0m.out HZ1m.out HZ2m.out HZ3m.out (by decide) (.slice (some ⟨W7.heap.size,0,none⟩) 0 0) 0 [] ?_ (show ((W7.alloc (.cells #[] 88)).drew).ownsRow W7.heap.size 88 59 (.slice (some ⟨W7.heap.size,0,none⟩) 0 0) 0 [] from World.ownsRow_made W7 #[] 0 (Nat.le_refl _) (by decide) rfl) ⟨gm,0,none⟩ k mc (xsm.take (k*59)) ?_ HXm.out.1 (HXm.out.2.1 _ (by exact HYm.out)) HXm.out.2.2.1 HXm.out.2.2.2.1 HXm.out.2.2.2.2 (by simp[World.size_drew]) ?_
  ·rfl
  ·rfl
  ·rfl
  ·rfl
  intro v4m w4m hown4m hgrow4m
  have HB4m:Hid (Below W7.heap.size W7 w4m):=hid (Below.grown HYm.out hgrow4m (by simp[World.size_drew]) (fun q hq=>by injection hq with hq;rw[← hq];exact Nat.le_refl _))
  have HO4m:=hid hown4m
  obtain ⟨A4m,c4m,rfl⟩:=zdv hown4m
  clear hown4m hgrow4m
  try simp only[Act.put,kF]
  refine hK.out _ _ (fun _=>by exact (HB4m.out.cell (p:=⟨g,j*5+4,none⟩) HLTm.out).trans q4m) (fun hHeld=>?_)
  replace hHeld:=hHeld (by decide)
  clear hK K
  try simp only[kD,kE,kA,kB,kC]
  refine Hl.wpAnyL_one (i:=16) (by kernel_rfl) rfl (fun K hK=>?_)
  refine zcn w4m ?_ (.tmp 71) (.tmp 78) 100 ?_ W7.heap.size 88 i1 zm 59 856 Tryz.underlying100 HIm.out HZ0m.out HZ1m.out HZ2m.out HZ3m.out (by decide) (.slice A4m (0+k) c4m) (0+k) ([]++xsm.take (k*59)) ?_ HO4m.out adm (L - (k+1)) (mc - (k+1)) (xsm.drop ((k+1)*59)) ?_ HRm.out.1 (HRm.out.2.1 _ (by exact HB4m.out)) HRm.out.2.2.1 HRm.out.2.2.2.1 HRm.out.2.2.2.2 HB4m.out.size ?_
  ·rfl
  ·rfl
  ·rfl
  ·rfl
  intro v5m w5m hown5m hgrow5m
  have HB5m:Hid (Below W7.heap.size W7 w5m):=hid (HB4m.out.grown hgrow5m HB4m.out.size (fun q hq=>(World.ownsRow.lt HO4m.out q hq).1))
  have HO5m:=hid hown5m
  obtain ⟨A5m,c5m,rfl⟩:=zdv hown5m
  have fz5m:w5m.frozen? ⟨g,j*5+4,none⟩=false:=(World.frozen?_of_block (HB5m.out.block g HLTm.out)).trans (HGF7.out _)
  have p5m:w5m.cell? ⟨g,j*5+4,none⟩=some (.slice (some ⟨gm,0,none⟩) L mc):=(HB5m.out.cell (p:=⟨g,j*5+4,none⟩) HLTm.out).trans q4m
  clear hown5m hgrow5m
  try simp only[Act.put,kF]
  refine hK.out _ _ (fun _=>by exact p5m) (fun hHeld=>?_)
  replace hHeld:=hHeld (by decide)
  clear hK K
  try simp only[kD,kE,kA,kB,kC]
  refine Hl.wpAnyL_one (i:=17) (by kernel_rfl) rfl (fun K hK=>?_)
  try simp only[kA,kB,kC]
  go_simp
  refine hK.out _ _ (fun _=>by assumption) (fun hHeld=>?_)
  replace hHeld:=hHeld (by decide)
  clear hK K
  try simp only[Act.put,kF,kD,kE,kA,kB,kC]
  refine Hl.wpAnyL_one (i:=18) (by kernel_rfl) rfl (fun K hK=>?_)
  try simp only[kA,kB,kC]
  go_simp
  refine hK.out _ _ (fun _=>by assumption) (fun hHeld=>?_)
  replace hHeld:=hHeld (by decide)
  clear hK K
  try simp only[Act.put,kF,kD,kE,kA,kB,kC]
  refine Hl.wpAnyL_one (i:=19) (by kernel_rfl) rfl (fun K hK=>?_)
  try simp only[kA,kB,kC]
  go_simp
  refine hK.out _ _ (fun h=>absurd rfl h) (fun hHeld=>?_)
  clear hK K
  try simp only[Act.put,kF,kD,kE,kA,kB,kC]
  refine Hl.wpAnyL_done (by kernel_rfl) ?_ _
  go_upto_region 9 with fail
  have ha8:Alt W7 (w5m.setCell ⟨g,j*5+4,none⟩ (.slice A5m (0+k+(L - (k+1))) c5m)) (fun q=>q=g):=Alt.set_ (p:=fun q=>q=g) (a:=⟨g,j*5+4,none⟩) (alt_of_below HB5m.out) rfl _
  have HM8:Hid ((w5m.setCell ⟨g,j*5+4,none⟩ (.slice A5m (0+k+(L - (k+1))) c5m)).ownsRow W7.heap.size 88 59 (.slice A5m (0+k+(L - (k+1))) c5m) (0+k+(L - (k+1))) ([]++xsm.take (k*59)++xsm.drop ((k+1)*59))):=hid (zan HO5m.out (Alt.set_ (p:=fun q=>q=g) (a:=⟨g,j*5+4,none⟩) (Alt.refl _ _) rfl _) (fun q hq e=>by have h1:=(World.ownsRow.lt HO5m.out q hq).1;have h2:=HLTm.out;omega))
  have HO8:Hid ((w5m.setCell ⟨g,j*5+4,none⟩ (.slice A5m (0+k+(L - (k+1))) c5m)).ownsRow w2.heap.size 3 1 (.slice A5v N c5v) N ([]++xsv.take (k*1)++xsv.drop ((k+1)*1))):=hid (zan HO7.out ha8 (fun q hq e=>by have h1:=(World.ownsRow.lt HO7.out q hq).1;have h2:=HLTv.out;omega))
  have HR8:Hid ((w5m.setCell ⟨g,j*5+4,none⟩ (.slice A5m (0+k+(L - (k+1))) c5m)).ownsRow B 102 5 (.slice (some ⟨g,0,none⟩) ps.length c) ps.length ((((ps.map Pe.o).map cellsO).flatten.set (j*5+3) (.slice A5v N c5v)).set (j*5+4) (.slice A5m (0+k+(L - (k+1))) c5m))):=hid (zb2 (zax HR7.out HB5m.out))
  have q2e:(w5m.setCell ⟨g,j*5+4,none⟩ (.slice A5m (0+k+(L - (k+1))) c5m)).cell? ⟨g,j*5+2,none⟩=some (.int .i64 (p.o.live:Int)):=(zaq w5m _ _ _ (by omega)).trans ((HB5m.out.cell (p:=⟨g,j*5+2,none⟩) HLTm.out).trans HQ27.out)
  have hgf8:∀ i,(w5m.setCell ⟨g,j*5+4,none⟩ (.slice A5m (0+k+(L - (k+1))) c5m)).frozen? ⟨g,i,none⟩=false:=fun i=>by
   rw[World.frozen?_setCell]
   exact (World.frozen?_of_block (HB5m.out.block g HLTm.out)).trans (HGF7.out i)
  have HA8:Hid (Alt w2 (w5m.setCell ⟨g,j*5+4,none⟩ (.slice A5m (0+k+(L - (k+1))) c5m)) (fun q=>q=g)):=hid (HA7.out.trans ha8 (fun _ _ h=>h))
  have hkN:k+(L - (k+1))=N:=by have:=HN.out;omega
  rw[← HN.out] at HM8 HO8 HR8 q2e hgf8 HA8
  try rw[hkN]
  clear ha8 hkN fz5m p5m
  generalize w5m.setCell ⟨g,j*5+4,none⟩ (.slice A5m N c5m)=W8 at HM8 HO8 HR8 q2e hgf8 HA8 ⊢
  go_wp2
  go_ret
  refine ⟨rfl,?_⟩
  have hEQ:=HEQ.out
  have hNL:N+1=p.ts.length:=by have h1:=HN.out;have h2:=HPE.out.n;have h3:=hEQ.1;omega
  have h5:∀ l∈(ps.map Pe.o).map cellsO,l.length=5:=fun l hl=>by obtain ⟨o,_,rfl⟩:=List.mem_map.1 hl;rfl
  have hjc:((ps.map Pe.o).map cellsO)[j]? = some (cellsO p.o):=by rw[List.getElem?_map,List.getElem?_map,HJ.out];rfl
  have hjl:j<((ps.map Pe.o).map cellsO).length:=(List.getElem?_eq_some_iff.1 hjc).1
  have hrow:=HR8.out
  rw[← za8 _ j 3 _ (.slice A5v N c5v) h5 hjc (by decide)] at hrow
  have h5':∀ l∈((ps.map Pe.o).map cellsO).set j ((cellsO p.o).set 3 (.slice A5v N c5v)),l.length=5:=fun l hl=>by
   rcases List.mem_or_eq_of_mem_set hl with h|rfl
   ·exact h5 l h
   ·rfl
  rw[← za8 _ j 4 _ (.slice A5m N c5m) h5' (List.getElem?_set_self hjl) (by decide),List.set_set] at hrow
  obtain ⟨o',ho'⟩:∃ o':On,o'=⟨p.o.name,p.o.next,p.o.live,A5v,N,c5v,A5m,c5m⟩:=⟨_,rfl⟩
  have hde:=zo9 hst HP2.out.ps HJ.out HK.out HA8.out (Nat.le_trans hgb (Nat.le_of_lt HLTv.out)) (o':=o') (by rw[ho'];exact hNL) (by rw[ho'];exact hrow) (Nat.le_refl _) HZ7.out (by rw[ho', ← HXV.out];exact HO8.out) (by rw[ho', ← HXM.out];exact HM8.out)
  have hA:=HA8.out
  have hlive:(if ((p.s.vs).filter (fun x=>decide (x.1≠ver))).length=0 then 0 else p.o.live)=p.o.live:=by
   rw[if_neg]
   intro h0
   have h1:=HLH.out p (za7 HJ.out) (by omega)
   obtain ⟨x,hx,hxv⟩:=(ztc p p.o.live).1 h1
   have h2:(x.v,x.ms)∈(p.s.vs).filter (fun x=>decide (x.1≠ver)):=List.mem_filter.2 ⟨List.mem_map.2 ⟨x,hx,rfl⟩,decide_eq_true (by show x.v≠ver;omega)⟩
   rw[List.eq_nil_of_length_eq_zero h0] at h2
   cases h2
  have hpt2:=HP2.out.pt
  refine ⟨farN w2 _ far,_,ps.set j ⟨o',p.ts.take k++p.ts.drop (k+1)⟩,⟨hpt2.kept hA (fun e=>zbx HP2.out.ps.row hpt2 (by decide) (by rw[e];rfl)),hde.1,HP2.out.bg,.inl HP2.out.fg⟩,?_,?_,?_,fun _ h => .inl h,?_⟩
  ·have hks:∀ q,(ps.map Pe.s)[j]? = some q↔q=p.s:=fun q=>by rw[List.getElem?_map,HJ.out];exact ⟨fun h=>(by injection h with h;exact h.symm),fun h=>by rw[h];rfl⟩
   have hs':Pe.s ⟨o',p.ts.take k++p.ts.drop (k+1)⟩=dropS p.s ver:=by
    unfold dropS
    rw[show p.s.live=p.o.live from rfl,hlive,ho']
    unfold Pe.s
    congr 1
    have:=zez (HRI.out p (za7 HJ.out)) HK.out
    rw[HTV.out] at this
    rw[List.filter_map, ← this]
    rfl
   unfold stepK
   rw[if_pos HREF.out]
   unfold pfC
   rw[if_neg (show ¬ (3:Int)=1 by decide),HFN.out,List.map_set,hs']
   simp only
   rw[if_neg (show ¬ (3:Int)=2 by decide)]
   exact (zie HND.out ((hks _).2 rfl) HNM.out).symm
  ·rintro q (e|e|⟨x,hx,e⟩)
   ·exact .inl (.inl e)
   ·exact .inl (.inr (.inl e))
   ·rcases List.mem_or_eq_of_mem_set hx with hx|rfl
    ·exact .inl (.inr (.inr ⟨x,hx,e⟩))
    ·exact .inr (Nat.le_trans HB2.out.size (hde.2 q e))
  ·exact (alt_of_below HB2.out).trans hA (fun q _ e => .inr (.inl (by rw[e];rfl)))
  ·rintro q (h|⟨h1,h2⟩)
   ·exact .inl h
   ·exact .inr ⟨Nat.le_trans HB2.out.size h1,h2⟩
 ·have hne:((p.o.live:Int) == (ver:Int))=true:=by rw[beq_iff_eq];omega
  have hl1:decide ((1:Int)<(L:Int))=false:=by simp;omega
  have HLV1:=hid hlv1
  clear hlv1
  go_upto_region 7 with fail
  refine Hl.wp_region_L 19 (S:=fun W=>W.cell? ⟨g,j*5+3,none⟩=some (.slice (some ⟨gv,0,none⟩) L vc)) (by kernel_rfl) (by exact q3v) (fun hHeld=>?_)
  refine Hl.wpAnyL_take (i:=0) (oi:=_) (v:=?v0_29) rfl (by kernel_rfl) (by kernel_rfl) (by kernel_rfl) (by kernel_rfl) (fun _ _ _ h=>h) (Or.inl ⟨by rfl,?y0_29⟩) (by assumption) ?r0_29
  case y0_29=>(intro w hSw;(try dsimp only at hSw);(try simp only[kA,kB]);go_simp;try (with_reducible rfl))
  try simp only[Act.put,kF,kD,kE,kA,kB]
  refine Hl.wpAnyL_take (i:=2) (oi:=_) (v:=?v2_30) rfl (by kernel_rfl) (by kernel_rfl) (by kernel_rfl) (by kernel_rfl) (fun _ _ _ h=>h) (Or.inl ⟨by rfl,?y2_30⟩) (by assumption) ?r2_30
  case y2_30=>(intro w hSw;(try dsimp only at hSw);(try simp only[kA,kB,kC]);go_simp;try (with_reducible rfl))
  try simp only[Act.put,kF,kD,kE,kA,kB,kC]
  refine Hl.wpAnyL_take (i:=3) (oi:=_) (v:=?v3_31) rfl (by kernel_rfl) (by kernel_rfl) (by kernel_rfl) (by kernel_rfl) (fun _ _ _ h=>h) (Or.inl ⟨by rfl,?y3_31⟩) (by assumption) ?r3_31
  case y3_31=>(intro w hSw;(try dsimp only at hSw);(try simp only[kA,kB,kC]);go_simp;try (with_reducible rfl))
  try simp only[Act.put,kF,kD,kE,kA,kB,kC]
  refine Hl.wpAnyL_take (i:=4) (oi:=_) (v:=?v4_32) rfl (by kernel_rfl) (by kernel_rfl) (by kernel_rfl) (by kernel_rfl) (fun _ _ _ h=>h) (Or.inl ⟨by rfl,?y4_32⟩) (by assumption) ?r4_32
  case y4_32=>(intro w hSw;(try dsimp only at hSw);(try simp only[kA,kB,kC]);go_simp;try (with_reducible rfl))
  try simp only[Act.put,kF,kD,kE,kA,kB,kC]
  refine Hl.wpAnyL_take (i:=5) (oi:=_) (v:=?v5_33) rfl (by kernel_rfl) (by kernel_rfl) (by kernel_rfl) (by kernel_rfl) (fun _ _ _ h=>h) (Or.inl ⟨by rfl,?y5_33⟩) (by assumption) ?r5_33
  case y5_33=>(intro w hSw;(try dsimp only at hSw);(try simp only[kA,kB,kC]);go_simp;try (with_reducible rfl))
  try simp only[Act.put,kF,kD,kE,kA,kB,kC]
  refine Hl.wpAnyL_take (i:=6) (oi:=_) (v:=?v6_34) rfl (by kernel_rfl) (by kernel_rfl) (by kernel_rfl) (by kernel_rfl) (fun _ _ _ h=>h) (Or.inl ⟨by rfl,?y6_34⟩) (by assumption) ?r6_34
  case y6_34=>(intro w hSw;(try dsimp only at hSw);(try simp only[kA,kB,kC]);go_simp;try (with_reducible rfl))
  try simp only[Act.put,kF,kD,kE,kA,kB,kC]
  refine Hl.wpAnyL_take (i:=7) (oi:=_) (v:=?v7_35) rfl (by kernel_rfl) (by kernel_rfl) (by kernel_rfl) (by kernel_rfl) (fun _ _ _ h=>h) (Or.inl ⟨by rfl,?y7_35⟩) (by assumption) ?r7_35
  case y7_35=>(intro w hSw;(try dsimp only at hSw);(try simp only[kA,kB,kC]);go_simp;try (with_reducible rfl))
  try simp only[Act.put,kF,kD,kE,kA,kB,kC]
  refine Hl.wpAnyL_take (i:=9) (oi:=_) (v:=?v9_36) rfl (by kernel_rfl) (by kernel_rfl) (by kernel_rfl) (by kernel_rfl) (fun _ _ _ h=>h) (Or.inl ⟨by rfl,?y9_36⟩) (by assumption) ?r9_36
  case y9_36=>(intro w hSw;(try dsimp only at hSw);(try simp only[kA,kB,kC]);go_simp;try (with_reducible rfl))
  try simp only[Act.put,kF,kD,kE,kA,kB,kC]
  refine Hl.wpAnyL_take (i:=10) (oi:=_) (v:=?v10_37) rfl (by kernel_rfl) (by kernel_rfl) (by kernel_rfl) (by kernel_rfl) (fun _ _ _ h=>h) (Or.inl ⟨by rfl,?y10_37⟩) (by assumption) ?r10_37
  case y10_37=>(intro w hSw;(try dsimp only at hSw);(try simp only[kA,kB,kC]);go_simp;try (with_reducible rfl))
  try simp only[Act.put,kF,kD,kE,kA,kB,kC]
  refine Hl.wpAnyL_take (i:=11) (oi:=_) (v:=?v11_38) rfl (by kernel_rfl) (by kernel_rfl) (by kernel_rfl) (by kernel_rfl) (fun _ _ _ h=>h) (Or.inl ⟨by rfl,?y11_38⟩) (by assumption) ?r11_38
  case y11_38=>(intro w hSw;(try dsimp only at hSw);(try simp only[kA,kB,kC]);go_simp;try (with_reducible rfl))
  try simp only[Act.put,kF,kD,kE,kA,kB,kC]
  refine Hl.wpAnyL_take (i:=12) (oi:=_) (v:=?v12_39) rfl (by kernel_rfl) (by kernel_rfl) (by kernel_rfl) (by kernel_rfl) (fun _ _ _ h=>h) (Or.inl ⟨by rfl,?y12_39⟩) (by assumption) ?r12_39
  case y12_39=>(intro w hSw;(try dsimp only at hSw);(try simp only[kA,kB,kC]);go_simp;try (with_reducible rfl))
  try simp only[Act.put,kF,kD,kE,kA,kB,kC]
  refine Hl.wpAnyL_take (i:=13) (oi:=_) (v:=?v13_40) rfl (by kernel_rfl) (by kernel_rfl) (by kernel_rfl) (by kernel_rfl) (fun _ _ _ h=>h) (Or.inl ⟨by rfl,?y13_40⟩) (by assumption) ?r13_40
  case y13_40=>(intro w hSw;(try dsimp only at hSw);(try simp only[kA,kB,kC]);go_simp;try (with_reducible rfl))
  try simp only[Act.put,kF,kD,kE,kA,kB,kC]
  refine Hl.wpAnyL_take (i:=14) (oi:=_) (v:=?v14_41) rfl (by kernel_rfl) (by kernel_rfl) (by kernel_rfl) (by kernel_rfl) (fun _ _ _ h=>h) (Or.inl ⟨by rfl,?y14_41⟩) (by assumption) ?r14_41
  case y14_41=>(intro w hSw;(try dsimp only at hSw);(try simp only[kA,kB,kC]);go_simp;try (with_reducible rfl))
  try simp only[Act.put,kF,kD,kE,kA,kB,kC]
  refine Hl.wpAnyL_take (i:=15) (oi:=_) (v:=?v15_42) rfl (by kernel_rfl) (by kernel_rfl) (by kernel_rfl) (by kernel_rfl) (fun _ _ _ h=>h) (Or.inl ⟨by rfl,?y15_42⟩) (by assumption) ?r15_42
  case y15_42=>(intro w hSw;(try dsimp only at hSw);(try simp only[kA,kB,kC]);go_simp;try (with_reducible rfl))
  try simp only[Act.put,kF,kD,kE,kA,kB,kC]
  refine Hl.wpAnyL_one (i:=1) (by kernel_rfl) rfl (fun K hK=>?_)
  try simp only[kA,kB,kC]
  go_simp
  refine hK.out _ _ (fun _=>by exact (World.cell?_alloc_lt _ _ _ HLTv.out).trans hHeld) (fun hHeld=>?_)
  replace hHeld:=hHeld (by decide)
  clear hK K
  try simp only[Act.put,kF,kD,kE,kA,kB,kC]
  refine Hl.wpAnyL_one (i:=8) (by kernel_rfl) rfl (fun K hK=>?_)
  refine zcn ((w2.alloc (.cells #[] 3)).drew) ?_ (.tmp 45) (.tmp 51) 80 ?_ w2.heap.size 3 i0 zv 1 8 Tryz.underlying80 HIv.out HZ0v.out HZ1v.out HZ2v.out HZ3v.out (by decide) (.slice (some ⟨w2.heap.size,0,none⟩) 0 0) 0 [] ?_ (show ((w2.alloc (.cells #[] 3)).drew).ownsRow w2.heap.size 3 1 (.slice (some ⟨w2.heap.size,0,none⟩) 0 0) 0 [] from World.ownsRow_made w2 #[] 0 (Nat.le_refl _) (by decide) rfl) ⟨gv,0,none⟩ k vc (xsv.take (k*1)) ?_ HXv.out.1 (HXv.out.2.1 _ (by exact HYv.out)) HXv.out.2.2.1 HXv.out.2.2.2.1 HXv.out.2.2.2.2 (by simp[World.size_drew]) ?_
  ·rfl
  ·rfl
  ·rfl
  ·rfl
  intro v4v w4v hown4v hgrow4v
  have HB4v:Hid (Below w2.heap.size w2 w4v):=hid (Below.grown HYv.out hgrow4v (by simp[World.size_drew]) (fun q hq=>by injection hq with hq;rw[← hq];exact Nat.le_refl _))
  have HO4v:=hid hown4v
  obtain ⟨A4v,c4v,rfl⟩:=zdv hown4v
  clear hown4v hgrow4v
  try simp only[Act.put,kF]
  refine hK.out _ _ (fun _=>by exact (HB4v.out.cell (p:=⟨g,j*5+3,none⟩) HLTv.out).trans q3v) (fun hHeld=>?_)
  replace hHeld:=hHeld (by decide)
  clear hK K
  try simp only[kD,kE,kA,kB,kC]
  refine Hl.wpAnyL_one (i:=16) (by kernel_rfl) rfl (fun K hK=>?_)
  refine zcn w4v ?_ (.tmp 52) (.tmp 59) 80 ?_ w2.heap.size 3 i0 zv 1 8 Tryz.underlying80 HIv.out HZ0v.out HZ1v.out HZ2v.out HZ3v.out (by decide) (.slice A4v (0+k) c4v) (0+k) ([]++xsv.take (k*1)) ?_ HO4v.out adv (L - (k+1)) (vc - (k+1)) (xsv.drop ((k+1)*1)) ?_ HRv.out.1 (HRv.out.2.1 _ (by exact HB4v.out)) HRv.out.2.2.1 HRv.out.2.2.2.1 HRv.out.2.2.2.2 HB4v.out.size ?_
  ·rfl
  ·rfl
  ·rfl
  ·rfl
  intro v5v w5v hown5v hgrow5v
  have HB5v:Hid (Below w2.heap.size w2 w5v):=hid (HB4v.out.grown hgrow5v HB4v.out.size (fun q hq=>(World.ownsRow.lt HO4v.out q hq).1))
  have HO5v:=hid hown5v
  obtain ⟨A5v,c5v,rfl⟩:=zdv hown5v
  have fz5v:w5v.frozen? ⟨g,j*5+3,none⟩=false:=(World.frozen?_of_block (HB5v.out.block g HLTv.out)).trans (HGF.out _)
  have p5v:w5v.cell? ⟨g,j*5+3,none⟩=some (.slice (some ⟨gv,0,none⟩) L vc):=(HB5v.out.cell (p:=⟨g,j*5+3,none⟩) HLTv.out).trans q3v
  clear hown5v hgrow5v
  try simp only[Act.put,kF]
  refine hK.out _ _ (fun _=>by exact p5v) (fun hHeld=>?_)
  replace hHeld:=hHeld (by decide)
  clear hK K
  try simp only[kD,kE,kA,kB,kC]
  refine Hl.wpAnyL_one (i:=17) (by kernel_rfl) rfl (fun K hK=>?_)
  try simp only[kA,kB,kC]
  go_simp
  refine hK.out _ _ (fun _=>by assumption) (fun hHeld=>?_)
  replace hHeld:=hHeld (by decide)
  clear hK K
  try simp only[Act.put,kF,kD,kE,kA,kB,kC]
  refine Hl.wpAnyL_one (i:=18) (by kernel_rfl) rfl (fun K hK=>?_)
  try simp only[kA,kB,kC]
  go_simp
  refine hK.out _ _ (fun _=>by assumption) (fun hHeld=>?_)
  replace hHeld:=hHeld (by decide)
  clear hK K
  try simp only[Act.put,kF,kD,kE,kA,kB,kC]
  refine Hl.wpAnyL_one (i:=19) (by kernel_rfl) rfl (fun K hK=>?_)
  try simp only[kA,kB,kC]
  go_simp
  refine hK.out _ _ (fun h=>absurd rfl h) (fun hHeld=>?_)
  clear hK K
  try simp only[Act.put,kF,kD,kE,kA,kB,kC]
  refine Hl.wpAnyL_done (by kernel_rfl) ?_ _
  go_upto_region 8 with fail
  have ha7:Alt w2 (w5v.setCell ⟨g,j*5+3,none⟩ (.slice A5v (0+k+(L - (k+1))) c5v)) (fun q=>q=g):=Alt.set_ (p:=fun q=>q=g) (a:=⟨g,j*5+3,none⟩) (alt_of_below HB5v.out) rfl _
  have HO7:Hid ((w5v.setCell ⟨g,j*5+3,none⟩ (.slice A5v (0+k+(L - (k+1))) c5v)).ownsRow w2.heap.size 3 1 (.slice A5v (0+k+(L - (k+1))) c5v) (0+k+(L - (k+1))) ([]++xsv.take (k*1)++xsv.drop ((k+1)*1))):=hid (zan HO5v.out (Alt.set_ (p:=fun q=>q=g) (a:=⟨g,j*5+3,none⟩) (Alt.refl _ _) rfl _) (fun q hq e=>by have h1:=(World.ownsRow.lt HO5v.out q hq).1;have h2:=HLTv.out;omega))
  have HR7:Hid ((w5v.setCell ⟨g,j*5+3,none⟩ (.slice A5v (0+k+(L - (k+1))) c5v)).ownsRow B 102 5 (.slice (some ⟨g,0,none⟩) ps.length c) ps.length (((ps.map Pe.o).map cellsO).flatten.set (j*5+3) (.slice A5v (0+k+(L - (k+1))) c5v))):=hid (zb2 (zax (by have:=HP2.out.ps.row;unfold OnRow at this;rw[List.length_map] at this;exact this) HB5v.out))
  have HZ7:Hid (w2.heap.size≤(w5v.setCell ⟨g,j*5+3,none⟩ (.slice A5v (0+k+(L - (k+1))) c5v)).heap.size):=hid ha7.size
  have q4m:(w5v.setCell ⟨g,j*5+3,none⟩ (.slice A5v (0+k+(L - (k+1))) c5v)).cell? ⟨g,j*5+4,none⟩=some (.slice (some ⟨gm,0,none⟩) L mc):=(zaq w5v _ _ _ (by omega)).trans ((HB5v.out.cell (p:=⟨g,j*5+4,none⟩) HLTv.out).trans HQ4.out)
  have q2m:(w5v.setCell ⟨g,j*5+3,none⟩ (.slice A5v (0+k+(L - (k+1))) c5v)).cell? ⟨g,j*5+2,none⟩=some (.int .i64 (p.o.live:Int)):=(zaq w5v _ _ _ (by omega)).trans ((HB5v.out.cell (p:=⟨g,j*5+2,none⟩) HLTv.out).trans HQ2.out)
  have hgf7:∀ i,(w5v.setCell ⟨g,j*5+3,none⟩ (.slice A5v (0+k+(L - (k+1))) c5v)).frozen? ⟨g,i,none⟩=false:=fun i=>by
   rw[World.frozen?_setCell]
   exact (World.frozen?_of_block (HB5v.out.block g HLTv.out)).trans (HGF.out i)
  have HA7:=hid ha7
  have HMR7:Hid ((w5v.setCell ⟨g,j*5+3,none⟩ (.slice A5v (0+k+(L - (k+1))) c5v)).ownsRow B 88 59 (.slice (some ⟨gm,0,none⟩) L mc) L xsm):=hid (zan HMR.out ha7 (fun q hq e=>zcm HP2.out.ps.row HMR.out (by decide) g rfl (by rw[← e];exact hq)))
  obtain ⟨N,hN⟩:∃ N,N=0+k+(L - (k+1)):=⟨_,rfl⟩
  have HN:=hid hN
  have hkN:k+(L - (k+1))=N:=by omega
  rw[← hN] at ha7 HO7 HR7 HZ7 q4m q2m hgf7 HA7 HMR7
  try rw[hkN]
  clear hN ha7 hkN fz5v p5v
  generalize w5v.setCell ⟨g,j*5+3,none⟩ (.slice A5v N c5v)=W7 at HO7 HR7 HZ7 q4m q2m hgf7 HA7 HMR7 ⊢
  have HXm:=hid (zku (by_:=856) HMR7.out HOM.out (by omega:k<L) (by have:=HL1.out;omega) (by decide))
  have HRm:=hid (zkv (by_:=856) HMR7.out HOM.out (by omega:k<L) (by have:=HL1.out;omega) (by decide) HAM.out)
  have HLTm:Hid (g<W7.heap.size):=hid (Nat.lt_of_lt_of_le HLTv.out HZ7.out)
  have HYm:Hid (Below W7.heap.size W7 (W7.alloc (.cells #[] 88)).drew):=hid (Below.new1 W7 _).drew
  have HGF7:=hid hgf7
  have HQ27:=hid q2m
  clear q2m hgf7 hif
  refine Hl.wp_region_L 19 (S:=fun W=>W.cell? ⟨g,j*5+4,none⟩=some (.slice (some ⟨gm,0,none⟩) L mc)) (by kernel_rfl) (by exact q4m) (fun hHeld=>?_)
  refine Hl.wpAnyL_take (i:=0) (oi:=_) (v:=?v0_43) rfl (by kernel_rfl) (by kernel_rfl) (by kernel_rfl) (by kernel_rfl) (fun _ _ _ h=>h) (Or.inl ⟨by rfl,?y0_43⟩) (by assumption) ?r0_43
  case y0_43=>(intro w hSw;(try dsimp only at hSw);(try simp only[kA,kB]);go_simp;try (with_reducible rfl))
  try simp only[Act.put,kF,kD,kE,kA,kB]
  refine Hl.wpAnyL_take (i:=2) (oi:=_) (v:=?v2_44) rfl (by kernel_rfl) (by kernel_rfl) (by kernel_rfl) (by kernel_rfl) (fun _ _ _ h=>h) (Or.inl ⟨by rfl,?y2_44⟩) (by assumption) ?r2_44
  case y2_44=>(intro w hSw;(try dsimp only at hSw);(try simp only[kA,kB,kC]);go_simp;try (with_reducible rfl))
  try simp only[Act.put,kF,kD,kE,kA,kB,kC]
  refine Hl.wpAnyL_take (i:=3) (oi:=_) (v:=?v3_45) rfl (by kernel_rfl) (by kernel_rfl) (by kernel_rfl) (by kernel_rfl) (fun _ _ _ h=>h) (Or.inl ⟨by rfl,?y3_45⟩) (by assumption) ?r3_45
  case y3_45=>(intro w hSw;(try dsimp only at hSw);(try simp only[kA,kB,kC]);go_simp;try (with_reducible rfl))
  try simp only[Act.put,kF,kD,kE,kA,kB,kC]
  refine Hl.wpAnyL_take (i:=4) (oi:=_) (v:=?v4_46) rfl (by kernel_rfl) (by kernel_rfl) (by kernel_rfl) (by kernel_rfl) (fun _ _ _ h=>h) (Or.inl ⟨by rfl,?y4_46⟩) (by assumption) ?r4_46
  case y4_46=>(intro w hSw;(try dsimp only at hSw);(try simp only[kA,kB,kC]);go_simp;try (with_reducible rfl))
  try simp only[Act.put,kF,kD,kE,kA,kB,kC]
  refine Hl.wpAnyL_take (i:=5) (oi:=_) (v:=?v5_47) rfl (by kernel_rfl) (by kernel_rfl) (by kernel_rfl) (by kernel_rfl) (fun _ _ _ h=>h) (Or.inl ⟨by rfl,?y5_47⟩) (by assumption) ?r5_47
  case y5_47=>(intro w hSw;(try dsimp only at hSw);(try simp only[kA,kB,kC]);go_simp;try (with_reducible rfl))
  try simp only[Act.put,kF,kD,kE,kA,kB,kC]
  refine Hl.wpAnyL_take (i:=6) (oi:=_) (v:=?v6_48) rfl (by kernel_rfl) (by kernel_rfl) (by kernel_rfl) (by kernel_rfl) (fun _ _ _ h=>h) (Or.inl ⟨by rfl,?y6_48⟩) (by assumption) ?r6_48
  case y6_48=>(intro w hSw;(try dsimp only at hSw);(try simp only[kA,kB,kC]);go_simp;try (with_reducible rfl))
  try simp only[Act.put,kF,kD,kE,kA,kB,kC]
  refine Hl.wpAnyL_take (i:=7) (oi:=_) (v:=?v7_49) rfl (by kernel_rfl) (by kernel_rfl) (by kernel_rfl) (by kernel_rfl) (fun _ _ _ h=>h) (Or.inl ⟨by rfl,?y7_49⟩) (by assumption) ?r7_49
  case y7_49=>(intro w hSw;(try dsimp only at hSw);(try simp only[kA,kB,kC]);go_simp;try (with_reducible rfl))
  try simp only[Act.put,kF,kD,kE,kA,kB,kC]
  refine Hl.wpAnyL_take (i:=9) (oi:=_) (v:=?v9_50) rfl (by kernel_rfl) (by kernel_rfl) (by kernel_rfl) (by kernel_rfl) (fun _ _ _ h=>h) (Or.inl ⟨by rfl,?y9_50⟩) (by assumption) ?r9_50
  case y9_50=>(intro w hSw;(try dsimp only at hSw);(try simp only[kA,kB,kC]);go_simp;try (with_reducible rfl))
  try simp only[Act.put,kF,kD,kE,kA,kB,kC]
  refine Hl.wpAnyL_take (i:=10) (oi:=_) (v:=?v10_51) rfl (by kernel_rfl) (by kernel_rfl) (by kernel_rfl) (by kernel_rfl) (fun _ _ _ h=>h) (Or.inl ⟨by rfl,?y10_51⟩) (by assumption) ?r10_51
  case y10_51=>(intro w hSw;(try dsimp only at hSw);(try simp only[kA,kB,kC]);go_simp;try (with_reducible rfl))
  try simp only[Act.put,kF,kD,kE,kA,kB,kC]
  refine Hl.wpAnyL_take (i:=11) (oi:=_) (v:=?v11_52) rfl (by kernel_rfl) (by kernel_rfl) (by kernel_rfl) (by kernel_rfl) (fun _ _ _ h=>h) (Or.inl ⟨by rfl,?y11_52⟩) (by assumption) ?r11_52
  case y11_52=>(intro w hSw;(try dsimp only at hSw);(try simp only[kA,kB,kC]);go_simp;try (with_reducible rfl))
  try simp only[Act.put,kF,kD,kE,kA,kB,kC]
  refine Hl.wpAnyL_take (i:=12) (oi:=_) (v:=?v12_53) rfl (by kernel_rfl) (by kernel_rfl) (by kernel_rfl) (by kernel_rfl) (fun _ _ _ h=>h) (Or.inl ⟨by rfl,?y12_53⟩) (by assumption) ?r12_53
  case y12_53=>(intro w hSw;(try dsimp only at hSw);(try simp only[kA,kB,kC]);go_simp;try (with_reducible rfl))
  try simp only[Act.put,kF,kD,kE,kA,kB,kC]
  refine Hl.wpAnyL_take (i:=13) (oi:=_) (v:=?v13_54) rfl (by kernel_rfl) (by kernel_rfl) (by kernel_rfl) (by kernel_rfl) (fun _ _ _ h=>h) (Or.inl ⟨by rfl,?y13_54⟩) (by assumption) ?r13_54
  case y13_54=>(intro w hSw;(try dsimp only at hSw);(try simp only[kA,kB,kC]);go_simp;try (with_reducible rfl))
  try simp only[Act.put,kF,kD,kE,kA,kB,kC]
  refine Hl.wpAnyL_take (i:=14) (oi:=_) (v:=?v14_55) rfl (by kernel_rfl) (by kernel_rfl) (by kernel_rfl) (by kernel_rfl) (fun _ _ _ h=>h) (Or.inl ⟨by rfl,?y14_55⟩) (by assumption) ?r14_55
  case y14_55=>(intro w hSw;(try dsimp only at hSw);(try simp only[kA,kB,kC]);go_simp;try (with_reducible rfl))
  try simp only[Act.put,kF,kD,kE,kA,kB,kC]
  refine Hl.wpAnyL_take (i:=15) (oi:=_) (v:=?v15_56) rfl (by kernel_rfl) (by kernel_rfl) (by kernel_rfl) (by kernel_rfl) (fun _ _ _ h=>h) (Or.inl ⟨by rfl,?y15_56⟩) (by assumption) ?r15_56
  case y15_56=>(intro w hSw;(try dsimp only at hSw);(try simp only[kA,kB,kC]);go_simp;try (with_reducible rfl))
  try simp only[Act.put,kF,kD,kE,kA,kB,kC]
  refine Hl.wpAnyL_one (i:=1) (by kernel_rfl) rfl (fun K hK=>?_)
  try simp only[kA,kB,kC]
  go_simp
  refine hK.out _ _ (fun _=>by exact (World.cell?_alloc_lt _ _ _ HLTm.out).trans hHeld) (fun hHeld=>?_)
  replace hHeld:=hHeld (by decide)
  clear hK K
  try simp only[Act.put,kF,kD,kE,kA,kB,kC]
  refine Hl.wpAnyL_one (i:=8) (by kernel_rfl) rfl (fun K hK=>?_)
  refine zcn ((W7.alloc (.cells #[] 88)).drew) ?_ (.tmp 64) (.tmp 70) 100 ?_ W7.heap.size 88 i1 zm 59 856 Tryz.underlying100 HIm.out HZ0m.out HZ1m.out HZ2m.out HZ3m.out (by decide) (.slice (some ⟨W7.heap.size,0,none⟩) 0 0) 0 [] ?_ (show ((W7.alloc (.cells #[] 88)).drew).ownsRow W7.heap.size 88 59 (.slice (some ⟨W7.heap.size,0,none⟩) 0 0) 0 [] from World.ownsRow_made W7 #[] 0 (Nat.le_refl _) (by decide) rfl) ⟨gm,0,none⟩ k mc (xsm.take (k*59)) ?_ HXm.out.1 (HXm.out.2.1 _ (by exact HYm.out)) HXm.out.2.2.1 HXm.out.2.2.2.1 HXm.out.2.2.2.2 (by simp[World.size_drew]) ?_
  ·rfl
  ·rfl
  ·rfl
  ·rfl
  intro v4m w4m hown4m hgrow4m
  have HB4m:Hid (Below W7.heap.size W7 w4m):=hid (Below.grown HYm.out hgrow4m (by simp[World.size_drew]) (fun q hq=>by injection hq with hq;rw[← hq];exact Nat.le_refl _))
  have HO4m:=hid hown4m
  obtain ⟨A4m,c4m,rfl⟩:=zdv hown4m
  clear hown4m hgrow4m
  try simp only[Act.put,kF]
  refine hK.out _ _ (fun _=>by exact (HB4m.out.cell (p:=⟨g,j*5+4,none⟩) HLTm.out).trans q4m) (fun hHeld=>?_)
  replace hHeld:=hHeld (by decide)
  clear hK K
  try simp only[kD,kE,kA,kB,kC]
  refine Hl.wpAnyL_one (i:=16) (by kernel_rfl) rfl (fun K hK=>?_)
  refine zcn w4m ?_ (.tmp 71) (.tmp 78) 100 ?_ W7.heap.size 88 i1 zm 59 856 Tryz.underlying100 HIm.out HZ0m.out HZ1m.out HZ2m.out HZ3m.out (by decide) (.slice A4m (0+k) c4m) (0+k) ([]++xsm.take (k*59)) ?_ HO4m.out adm (L - (k+1)) (mc - (k+1)) (xsm.drop ((k+1)*59)) ?_ HRm.out.1 (HRm.out.2.1 _ (by exact HB4m.out)) HRm.out.2.2.1 HRm.out.2.2.2.1 HRm.out.2.2.2.2 HB4m.out.size ?_
  ·rfl
  ·rfl
  ·rfl
  ·rfl
  intro v5m w5m hown5m hgrow5m
  have HB5m:Hid (Below W7.heap.size W7 w5m):=hid (HB4m.out.grown hgrow5m HB4m.out.size (fun q hq=>(World.ownsRow.lt HO4m.out q hq).1))
  have HO5m:=hid hown5m
  obtain ⟨A5m,c5m,rfl⟩:=zdv hown5m
  have fz5m:w5m.frozen? ⟨g,j*5+4,none⟩=false:=(World.frozen?_of_block (HB5m.out.block g HLTm.out)).trans (HGF7.out _)
  have p5m:w5m.cell? ⟨g,j*5+4,none⟩=some (.slice (some ⟨gm,0,none⟩) L mc):=(HB5m.out.cell (p:=⟨g,j*5+4,none⟩) HLTm.out).trans q4m
  clear hown5m hgrow5m
  try simp only[Act.put,kF]
  refine hK.out _ _ (fun _=>by exact p5m) (fun hHeld=>?_)
  replace hHeld:=hHeld (by decide)
  clear hK K
  try simp only[kD,kE,kA,kB,kC]
  refine Hl.wpAnyL_one (i:=17) (by kernel_rfl) rfl (fun K hK=>?_)
  try simp only[kA,kB,kC]
  go_simp
  refine hK.out _ _ (fun _=>by assumption) (fun hHeld=>?_)
  replace hHeld:=hHeld (by decide)
  clear hK K
  try simp only[Act.put,kF,kD,kE,kA,kB,kC]
  refine Hl.wpAnyL_one (i:=18) (by kernel_rfl) rfl (fun K hK=>?_)
  try simp only[kA,kB,kC]
  go_simp
  refine hK.out _ _ (fun _=>by assumption) (fun hHeld=>?_)
  replace hHeld:=hHeld (by decide)
  clear hK K
  try simp only[Act.put,kF,kD,kE,kA,kB,kC]
  refine Hl.wpAnyL_one (i:=19) (by kernel_rfl) rfl (fun K hK=>?_)
  try simp only[kA,kB,kC]
  go_simp
  refine hK.out _ _ (fun h=>absurd rfl h) (fun hHeld=>?_)
  clear hK K
  try simp only[Act.put,kF,kD,kE,kA,kB,kC]
  refine Hl.wpAnyL_done (by kernel_rfl) ?_ _
  go_upto_region 9 with fail
  have ha8:Alt W7 (w5m.setCell ⟨g,j*5+4,none⟩ (.slice A5m (0+k+(L - (k+1))) c5m)) (fun q=>q=g):=Alt.set_ (p:=fun q=>q=g) (a:=⟨g,j*5+4,none⟩) (alt_of_below HB5m.out) rfl _
  have HM8:Hid ((w5m.setCell ⟨g,j*5+4,none⟩ (.slice A5m (0+k+(L - (k+1))) c5m)).ownsRow W7.heap.size 88 59 (.slice A5m (0+k+(L - (k+1))) c5m) (0+k+(L - (k+1))) ([]++xsm.take (k*59)++xsm.drop ((k+1)*59))):=hid (zan HO5m.out (Alt.set_ (p:=fun q=>q=g) (a:=⟨g,j*5+4,none⟩) (Alt.refl _ _) rfl _) (fun q hq e=>by have h1:=(World.ownsRow.lt HO5m.out q hq).1;have h2:=HLTm.out;omega))
  have HO8:Hid ((w5m.setCell ⟨g,j*5+4,none⟩ (.slice A5m (0+k+(L - (k+1))) c5m)).ownsRow w2.heap.size 3 1 (.slice A5v N c5v) N ([]++xsv.take (k*1)++xsv.drop ((k+1)*1))):=hid (zan HO7.out ha8 (fun q hq e=>by have h1:=(World.ownsRow.lt HO7.out q hq).1;have h2:=HLTv.out;omega))
  have HR8:Hid ((w5m.setCell ⟨g,j*5+4,none⟩ (.slice A5m (0+k+(L - (k+1))) c5m)).ownsRow B 102 5 (.slice (some ⟨g,0,none⟩) ps.length c) ps.length ((((ps.map Pe.o).map cellsO).flatten.set (j*5+3) (.slice A5v N c5v)).set (j*5+4) (.slice A5m (0+k+(L - (k+1))) c5m))):=hid (zb2 (zax HR7.out HB5m.out))
  have q2e:(w5m.setCell ⟨g,j*5+4,none⟩ (.slice A5m (0+k+(L - (k+1))) c5m)).cell? ⟨g,j*5+2,none⟩=some (.int .i64 (p.o.live:Int)):=(zaq w5m _ _ _ (by omega)).trans ((HB5m.out.cell (p:=⟨g,j*5+2,none⟩) HLTm.out).trans HQ27.out)
  have hgf8:∀ i,(w5m.setCell ⟨g,j*5+4,none⟩ (.slice A5m (0+k+(L - (k+1))) c5m)).frozen? ⟨g,i,none⟩=false:=fun i=>by
   rw[World.frozen?_setCell]
   exact (World.frozen?_of_block (HB5m.out.block g HLTm.out)).trans (HGF7.out i)
  have HA8:Hid (Alt w2 (w5m.setCell ⟨g,j*5+4,none⟩ (.slice A5m (0+k+(L - (k+1))) c5m)) (fun q=>q=g)):=hid (HA7.out.trans ha8 (fun _ _ h=>h))
  have hkN:k+(L - (k+1))=N:=by have:=HN.out;omega
  rw[← HN.out] at HM8 HO8 HR8 q2e hgf8 HA8
  try rw[hkN]
  clear ha8 hkN fz5m p5m
  generalize w5m.setCell ⟨g,j*5+4,none⟩ (.slice A5m N c5m)=W8 at HM8 HO8 HR8 q2e hgf8 HA8 ⊢
  go_wp2
  go_ret
  refine ⟨rfl,?_⟩
  have hEQ:=HEQ.out
  have hNL:N+1=p.ts.length:=by have h1:=HN.out;have h2:=HPE.out.n;have h3:=hEQ.1;omega
  have h5:∀ l∈(ps.map Pe.o).map cellsO,l.length=5:=fun l hl=>by obtain ⟨o,_,rfl⟩:=List.mem_map.1 hl;rfl
  have hjc:((ps.map Pe.o).map cellsO)[j]? = some (cellsO p.o):=by rw[List.getElem?_map,List.getElem?_map,HJ.out];rfl
  have hjl:j<((ps.map Pe.o).map cellsO).length:=(List.getElem?_eq_some_iff.1 hjc).1
  have hrow:=HR8.out
  rw[← za8 _ j 3 _ (.slice A5v N c5v) h5 hjc (by decide)] at hrow
  have h5':∀ l∈((ps.map Pe.o).map cellsO).set j ((cellsO p.o).set 3 (.slice A5v N c5v)),l.length=5:=fun l hl=>by
   rcases List.mem_or_eq_of_mem_set hl with h|rfl
   ·exact h5 l h
   ·rfl
  rw[← za8 _ j 4 _ (.slice A5m N c5m) h5' (List.getElem?_set_self hjl) (by decide),List.set_set] at hrow
  have h5'':∀ l∈((ps.map Pe.o).map cellsO).set j (((cellsO p.o).set 3 (.slice A5v N c5v)).set 4 (.slice A5m N c5m)),l.length=5:=fun l hl=>by
   rcases List.mem_or_eq_of_mem_set hl with h|rfl
   ·exact h5 l h
   ·rfl
  have hrow:=zb2 (i:=j*5+2) (u := .int .i64 0) hrow
  rw[← za8 _ j 2 _ (.int .i64 0) h5'' (List.getElem?_set_self hjl) (by decide),List.set_set] at hrow
  obtain ⟨o',ho'⟩:∃ o':On,o'=⟨p.o.name,p.o.next,0,A5v,N,c5v,A5m,c5m⟩:=⟨_,rfl⟩
  have has9:Alt W8 (W8.setCell ⟨g,j*5+2,none⟩ (.int .i64 0)) (fun q=>q=g):=Alt.set_ (p:=fun q=>q=g) (a:=⟨g,j*5+2,none⟩) (Alt.refl _ _) rfl _
  have hA:Alt w2 (W8.setCell ⟨g,j*5+2,none⟩ (.int .i64 0)) (fun q=>q=g):=HA8.out.trans has9 (fun _ _ h=>h)
  have hde:=zo9 hst HP2.out.ps HJ.out HK.out hA (Nat.le_trans hgb (Nat.le_of_lt HLTv.out)) (o':=o') (by rw[ho'];exact hNL) (by rw[ho'];exact hrow) (Nat.le_refl _) HZ7.out (by rw[ho', ← HXV.out];exact zan HO8.out has9 (fun q hq e=>by have h1:=(World.ownsRow.lt HO8.out q hq).1;have h2:=HLTv.out;omega)) (by rw[ho', ← HXM.out];exact zan HM8.out has9 (fun q hq e=>by have h1:=(World.ownsRow.lt HM8.out q hq).1;have h2:=HLTm.out;omega))
  have hlive:(if ((p.s.vs).filter (fun x=>decide (x.1≠ver))).length=0 then 0 else p.o.live)=0:=by
   rw[if_pos]
   have h1:p.ts.length=1:=by have h1:=HLV1.out;have h2:=HPE.out.n;have h3:=hEQ.1;omega
   obtain ⟨x,hx⟩:=List.length_eq_one_iff.1 h1
   have h2:x=t:=by have:=HK.out;rw[hx] at this;exact (List.mem_singleton.1 (by obtain ⟨h3,h4⟩:=List.getElem?_eq_some_iff.1 this;rw[← h4];exact List.getElem_mem h3)).symm
   have h3:p.s.vs=[(t.v,t.ms)]:=by unfold Pe.s;rw[hx,h2];rfl
   have h4:=HTV.out
   rw[h3,List.filter_cons_of_neg (by simp[h4])]
   rfl
  have hpt2:=HP2.out.pt
  refine ⟨farN w2 _ far,_,ps.set j ⟨o',p.ts.take k++p.ts.drop (k+1)⟩,⟨hpt2.kept hA (fun e=>zbx HP2.out.ps.row hpt2 (by decide) (by rw[e];rfl)),hde.1,HP2.out.bg,.inl HP2.out.fg⟩,?_,?_,?_,fun _ h => .inl h,?_⟩
  ·have hks:∀ q,(ps.map Pe.s)[j]? = some q↔q=p.s:=fun q=>by rw[List.getElem?_map,HJ.out];exact ⟨fun h=>(by injection h with h;exact h.symm),fun h=>by rw[h];rfl⟩
   have hs':Pe.s ⟨o',p.ts.take k++p.ts.drop (k+1)⟩=dropS p.s ver:=by
    unfold dropS
    rw[show p.s.live=p.o.live from rfl,hlive,ho']
    unfold Pe.s
    congr 1
    have:=zez (HRI.out p (za7 HJ.out)) HK.out
    rw[HTV.out] at this
    rw[List.filter_map, ← this]
    rfl
   unfold stepK
   rw[if_pos HREF.out]
   unfold pfC
   rw[if_neg (show ¬ (3:Int)=1 by decide),HFN.out,List.map_set,hs']
   simp only
   rw[if_neg (show ¬ (3:Int)=2 by decide)]
   exact (zie HND.out ((hks _).2 rfl) HNM.out).symm
  ·rintro q (e|e|⟨x,hx,e⟩)
   ·exact .inl (.inl e)
   ·exact .inl (.inr (.inl e))
   ·rcases List.mem_or_eq_of_mem_set hx with hx|rfl
    ·exact .inl (.inr (.inr ⟨x,hx,e⟩))
    ·exact .inr (Nat.le_trans HB2.out.size (hde.2 q e))
  ·exact (alt_of_below HB2.out).trans hA (fun q _ e => .inr (.inl (by rw[e];rfl)))
  ·rintro q (h|⟨h1,h2⟩)
   ·exact .inl h
   ·exact .inr ⟨Nat.le_trans HB2.out.size h1,h2⟩
end
end Go.Proofs.YtmejdkniafjncaaGreatDoor.Oc
