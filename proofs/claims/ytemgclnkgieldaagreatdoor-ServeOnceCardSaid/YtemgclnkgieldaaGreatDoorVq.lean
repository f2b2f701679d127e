/- Small numbers and fractions: what nat, whole and frac tell of them. -/
import Derived.Test.YtemgclnkgieldaaGreatDoorShelf
import Derived.Test.YtemgclnkgieldaaGreatDoorVa
set_option maxHeartbeats 4000000
set_option maxRecDepth 100000
namespace Go.Proofs.YtemgclnkgieldaaGreatDoor.Fr
open Go Go.RowKit
abbrev nV (n:Nat):Value := .agg #[.int .u64 (n:Int),.string ⟨#[]⟩]
def cmpI (x y:Nat):Int:=if x<y then -1 else if y<x then 1 else 0
theorem zod (x y:Nat)(w:World):Calls Tryz.prog 355 #[.int .u64 (x:Int),.int .u64 (y:Int)] w fun e w'=>e = .returned (.int .i64 (cmpI x y))∧w'=w:=by
 unfold cmpI
 rcases Nat.lt_trichotomy x y with h|h|h
 ·have d1:(x:Int)<(y:Int):=by omega
  rw[if_pos h]
  go_enter Tryz.func355,Tryz.ntmps355
  go_wp2
  go_ret
  exact ⟨rfl,rfl⟩
 ·subst h
  rw[if_neg (Nat.lt_irrefl _),if_neg (Nat.lt_irrefl _)]
  go_enter Tryz.func355,Tryz.ntmps355
  go_wp2
  go_ret
  exact ⟨rfl,rfl⟩
 ·have d1:¬ (x:Int)<(y:Int):=by omega
  have d2:(y:Int)<(x:Int):=by omega
  rw[if_neg (by omega),if_pos h]
  go_enter Tryz.func355,Tryz.ntmps355
  go_wp2
  go_ret
  exact ⟨rfl,rfl⟩
theorem zjp (x y:Nat)(w:World):Calls Tryz.prog 171 #[nV x,nV y] w fun e w'=>e = .returned (.int .i64 (cmpI x y))∧Below w.heap.size w w':=by
 go_enter Tryz.func171,Tryz.ntmps171
 go_wp2
 have hbk:Dk.Blk ((w.alloc (.cells #[.int .u64 (x:Int),.string ⟨#[]⟩] 39)).alloc (.cells #[.int .u64 (y:Int),.string ⟨#[]⟩] 39)) w.heap.size 39 #[.int .u64 (x:Int),.string ⟨#[]⟩]:=(Dk.Blk.new w _ _).alloc _
 have hbk2:Dk.Blk ((w.alloc (.cells #[.int .u64 (x:Int),.string ⟨#[]⟩] 39)).alloc (.cells #[.int .u64 (y:Int),.string ⟨#[]⟩] 39)) (w.heap.size+1) 39 #[.int .u64 (y:Int),.string ⟨#[]⟩]:=by
  have h:=Dk.Blk.new (w.alloc (.cells #[.int .u64 (x:Int),.string ⟨#[]⟩] 39)) 39 #[.int .u64 (y:Int),.string ⟨#[]⟩]
  simpa using h
 have hB:Below w.heap.size w ((w.alloc (.cells #[.int .u64 (x:Int),.string ⟨#[]⟩] 39)).alloc (.cells #[.int .u64 (y:Int),.string ⟨#[]⟩] 39)):=((Below.refl _ w).alloc (Nat.le_refl _) _).alloc (by simp) _
 generalize (w.alloc (.cells #[.int .u64 (x:Int),.string ⟨#[]⟩] 39)).alloc (.cells #[.int .u64 (y:Int),.string ⟨#[]⟩] 39)=W at hbk hbk2 hB ⊢
 go_loopw [5] (fun v5 wz=>v5 = .int .i64 (-8)∧Hid (wz=W)) (fun _ _=>0)
 case atStart=>exact ⟨rfl,Lib.hid rfl⟩
 case round =>
  obtain ⟨rfl,hw⟩:=hrel
  have hw:=hw.out
  subst hw
  have c0:=hbk.cell 0
  have c1:=hbk2.cell 0
  go_wp2_with (go_at_call 355;refine (zod x y _).mono ?_;rintro e w' ⟨rfl,rfl⟩)
  go_ret
  exact ⟨rfl,hB⟩
def bl (n:Nat):Nat:=Lib.bitLen n
theorem zih:bl 0=0:=by decide
theorem zu3:bl 1=1:=by decide
theorem zu4 {n:Nat}(h:2≤n):2≤bl n:=by
 unfold bl Lib.bitLen
 rw[show (64:Nat)=62+1+1 from rfl]
 unfold Lib.bitLenAux
 rw[if_neg (by omega)]
 unfold Lib.bitLenAux
 rw[if_neg (by omega)]
 omega
theorem zb1 (n:Nat)(h:n<18446744073709551616)(w:World):Calls Tryz.prog 169 #[nV n] w fun e w'=>e = .returned (.int .i64 ((bl n:Nat):Int))∧Below w.heap.size w w':=by
 go_enter Tryz.func169,Tryz.ntmps169
 go_wp2_with (go_at_call 353;refine (Tryz.bits_Len64 (n:Int) _ (by omega) (by omega)).mono ?_;rintro e w' ⟨rfl,rfl⟩)
 go_ret
 exact ⟨by simp[bl],(Below.refl _ w).alloc (Nat.le_refl _) _⟩
theorem zaz {fn:Func}{t:Tmp}{ty:TypeId}(h:fn.results=#[.cell t ty])(tmps:Array Value)(w:World)(g:Nat)(cs:Array Value)(d:TypeDesc)(hp:tmps.getD t undef = .pointer (some ⟨g,0,none⟩))
  (hg:Dk.Blk w g ty cs) (hu:Tryz.prog.underlying ty=some d) (hd:(match d with | .struct _ | .array _ _=>true|_=>false)=true) (hi:(Tryz.prog.info? ty).map (·.size)=some cs.size):(results fn tmps).run Tryz.prog w = .ok (.agg cs) w:=by
 have:=run_loadVar_row w g ty ty cs (0,0) d hg hu (by cases d <;> first|rfl|cases hd) hi
 have ha:(asAddr (.pointer (some ⟨g,0,none⟩))).run Tryz.prog w = .ok ⟨g,0,none⟩ w:=rfl
 have hp':tmps[t]?.getD undef = .pointer (some ⟨g,0,none⟩):=by simpa using hp
 simp[results,h,hp',ha,this,Sem.run_bind]
theorem zoe {fn:Func}{t t' t2:Tmp}{ty ty':TypeId}(h:fn.results=#[.cell t ty,.cell t' ty',.tmp t2])(tmps:Array Value)(w:World)(g g':Nat)(cs cs':Array Value)(d d':TypeDesc)(hp:tmps.getD t undef = .pointer (some ⟨g,0,none⟩))(hp2:tmps.getD t' undef = .pointer (some ⟨g',0,none⟩)){v:Value}(hv:tmps.getD t2 undef=v)
  (hg:Dk.Blk w g ty cs) (hu:Tryz.prog.underlying ty=some d) (hd:(match d with | .struct _ | .array _ _=>true|_=>false)=true) (hi:(Tryz.prog.info? ty).map (·.size)=some cs.size)
  (hg':Dk.Blk w g' ty' cs') (hu':Tryz.prog.underlying ty'=some d') (hd':(match d' with | .struct _ | .array _ _=>true|_=>false)=true) (hi':(Tryz.prog.info? ty').map (·.size)=some cs'.size):(results fn tmps).run Tryz.prog w = .ok (.tuple #[.agg cs,.agg cs',v]) w:=by
 have l1:=run_loadVar_row w g ty ty cs (0,0) d hg hu (by cases d <;> first|rfl|cases hd) hi
 have l2:=run_loadVar_row w g' ty' ty' cs' (0,0) d' hg' hu' (by cases d' <;> first|rfl|cases hd') hi'
 have ha:(asAddr (.pointer (some ⟨g,0,none⟩))).run Tryz.prog w = .ok ⟨g,0,none⟩ w:=rfl
 have ha':(asAddr (.pointer (some ⟨g',0,none⟩))).run Tryz.prog w = .ok ⟨g',0,none⟩ w:=rfl
 have hp':tmps[t]?.getD undef = .pointer (some ⟨g,0,none⟩):=by simpa using hp
 have hp2':tmps[t']?.getD undef = .pointer (some ⟨g',0,none⟩):=by simpa using hp2
 have hv':tmps[t2]?.getD undef=v:=by simpa using hv
 simp[results,h,hp',hp2',hv',ha,ha',l1,l2,Sem.run_bind]
theorem zcq:(Tryz.prog.info? 39).map (·.size)=some 2:=by kernel_rfl
theorem zpv:(Tryz.prog.info? 41).map (·.size)=some 3:=by kernel_rfl
theorem infoQ:(Tryz.prog.info? 43).map (·.size)=some 5:=by kernel_rfl
theorem zjq (w:World)(a b c:Obj):Below w.heap.size w (((w.alloc a).alloc b).alloc c):=(((Below.refl _ w).alloc (Nat.le_refl _) _).alloc (by simp) _).alloc (by simp;omega) _
theorem below4 (w:World)(a b c d:Obj):Below w.heap.size w ((((w.alloc a).alloc b).alloc c).alloc d):=(zjq w a b c).alloc (by simp;omega) _
theorem blk3 (w:World)(a b c:Array Value):Dk.Blk (((w.alloc (.cells a 39)).alloc (.cells b 39)).alloc (.cells c 39)) (w.heap.size+1+1) 39 c:=by
 have h:=Dk.Blk.new ((w.alloc (.cells a 39)).alloc (.cells b 39)) 39 c
 simpa using h
theorem blks4 (w:World)(a b c d:Array Value):Dk.Blk ((((w.alloc (.cells a 39)).alloc (.cells b 39)).alloc (.cells c 39)).alloc (.cells d 39)) w.heap.size 39 a∧Dk.Blk ((((w.alloc (.cells a 39)).alloc (.cells b 39)).alloc (.cells c 39)).alloc (.cells d 39)) (w.heap.size+1) 39 b∧Dk.Blk ((((w.alloc (.cells a 39)).alloc (.cells b 39)).alloc (.cells c 39)).alloc (.cells d 39)) (w.heap.size+1+1) 39 c∧Dk.Blk ((((w.alloc (.cells a 39)).alloc (.cells b 39)).alloc (.cells c 39)).alloc (.cells d 39)) (w.heap.size+1+1+1) 39 d:=by
 have h1:=Dk.Blk.new (w.alloc (.cells a 39)) 39 b
 have h2:=Dk.Blk.new ((w.alloc (.cells a 39)).alloc (.cells b 39)) 39 c
 have h3:=Dk.Blk.new (((w.alloc (.cells a 39)).alloc (.cells b 39)).alloc (.cells c 39)) 39 d
 rw[World.size_alloc] at h1 h2 h3
 rw[World.size_alloc] at h2 h3
 rw[World.size_alloc] at h3
 exact ⟨(((Dk.Blk.new w _ _).alloc _).alloc _).alloc _,(h1.alloc _).alloc _,h2.alloc _,h3⟩
theorem za7 {w w':World}{g:Nat}{t:TypeId}{cs:Array Value}(h:Dk.Blk w g t cs)(hb:Below w.heap.size w w'):Dk.Blk w' g t cs:=(hb.block g h.lt).trans h
theorem zu5 (x y z:Nat)(hz:x+y=z)(h:z<18446744073709551616)(w:World):(callFunc 588 #[.int .u64 (x:Int),.int .u64 (y:Int),.int .u64 0]).run Tryz.prog w = .ok (.value (.tuple #[.int .u64 (z:Int),.int .u64 0])) w:=by
 rw[run_callFunc_extern Tryz.func588 (by kernel_rfl) (by kernel_rfl) (by kernel_rfl) (e:=add64Entry) (by kernel_rfl),run_add64 (x:Int) (y:Int) 0 (by omega) (by omega) (by omega) (by omega)]
 have e1:((x:Int)+(y:Int)+0) % 18446744073709551616=(z:Int):=by omega
 have e2:((x:Int)+(y:Int)+0) / 18446744073709551616=0:=by omega
 rw[e1,e2]
 rfl
theorem zrg (x y z:Nat)(hz:x+y=z)(h:z<18446744073709551616)(w:World):Calls Tryz.prog 541 #[nV x,nV y] w fun e w'=>e = .returned (nV z)∧Below w.heap.size w w':=by
 have hA:=Lib.hid (fun W=>zu5 x y z hz h W)
 clear hz h
 go_enter Tryz.func541,Tryz.ntmps541
 go_wp2_with (simp only[hA.out])
 refine bodyPost_ret (zaz rfl _ _ (w.heap.size+1+1) _ _ rfl (blk3 w _ _ _) Tryz.underlying39 rfl zcq) rfl ?_
 exact ⟨rfl,zjq w _ _ _⟩
theorem zrh (x y:Nat)(h:x*y<18446744073709551616)(hx:x<18446744073709551616)(hy:y<18446744073709551616)(w:World):Calls Tryz.prog 356 #[nV x,nV y] w fun e w'=>e = .returned (nV (x*y))∧Below w.heap.size w w':=by
 obtain ⟨z,hz⟩:∃ z,z=x*y:=⟨_,rfl⟩
 have h1:z / 18446744073709551616=0:=Nat.div_eq_of_lt (by omega)
 have h2:z % 18446744073709551616=z:=Nat.mod_eq_of_lt (by omega)
 have hm:=Lib.hid (fun W=>Tryz.bits_Mul64 x y hx hy W)
 rw[← hz] at hm ⊢
 rw[h1,h2] at hm
 clear hz h1 h2
 go_enter Tryz.func356,Tryz.ntmps356
 go_wp2_with (go_at_call 517;refine (hm.out _).mono ?_;rintro e w' ⟨rfl,rfl⟩)
 refine bodyPost_ret (zaz rfl _ _ (w.heap.size+1+1) _ _ rfl (blk3 w _ _ _) Tryz.underlying39 rfl zcq) rfl ?_
 exact ⟨rfl,zjq w _ _ _⟩
theorem zjr (x y:Nat)(hx:x<18446744073709551616)(hy:y<18446744073709551616)(h:0<y)(w:World):Calls Tryz.prog 530 #[nV x,nV y] w fun e w'=>e = .returned (.tuple #[nV (x / y),nV (x % y),.bool true])∧Below w.heap.size w w':=by
 have hb:=Lib.hid (fun W=>zb1 y hy W)
 have hb0:((bl y:Nat):Int)≠0:=by
  rcases Nat.lt_or_ge y 2 with h1|h1
  ·have:y=1:=by omega
   subst this
   rw[zu3];decide
  ·have:=zu4 h1;omega
 have hb1:(((bl y:Nat):Int) == 0)=false:=by rw[beq_eq_false_iff_ne];exact hb0
 have hy0:((y:Int) == 0)=false:=by rw[beq_eq_false_iff_ne];omega
 have hyz:¬ (y:Int)=0:=by omega
 have hyn:¬ y=0:=by omega
 obtain ⟨q,hq⟩:∃ q,q=x / y:=⟨_,rfl⟩
 obtain ⟨r,hr⟩:∃ r,r=x % y:=⟨_,rfl⟩
 have hq1:(x:Int).tdiv (y:Int)=(q:Int):=by rw[hq];exact (Int.ofNat_tdiv x y).symm
 have hr1:(x:Int).tmod (y:Int)=(r:Int):=by rw[hr];exact (Int.ofNat_tmod x y).symm
 have hq3:q<18446744073709551616:=by rw[hq];exact Nat.lt_of_le_of_lt (Nat.div_le_self x y) hx
 have hr3:r<18446744073709551616:=by rw[hr];exact Nat.lt_of_le_of_lt (Nat.mod_le x y) hx
 have hq2:IntKind.u64.wrap (q:Int)=(q:Int):=IntWalk.u64_in _ ⟨by omega,by omega⟩
 have hr2:IntKind.u64.wrap (r:Int)=(r:Int):=IntWalk.u64_in _ ⟨by omega,by omega⟩
 rw[← hq, ← hr]
 have HQ:=Lib.hid (And.intro hq hr)
 clear hq hr hq3 hr3
 have HX:=Lib.hid hx
 have HY:=Lib.hid hy
 have HP:=Lib.hid h
 clear hx hy h
 go_enter Tryz.func530,Tryz.ntmps530
 go_upto_region 1 with fail
 have hB:=below4 w (.cells #[.int .u64 (x:Int),.string ⟨#[]⟩] 39) (.cells #[.int .u64 (y:Int),.string ⟨#[]⟩] 39) (.cells #[.int .u64 0,.string ⟨#[]⟩] 39) (.cells #[.int .u64 0,.string ⟨#[]⟩] 39)
 obtain ⟨k0,k1,k2,k3⟩:=blks4 w #[.int .u64 (x:Int),.string ⟨#[]⟩] #[.int .u64 (y:Int),.string ⟨#[]⟩] #[.int .u64 0,.string ⟨#[]⟩] #[.int .u64 0,.string ⟨#[]⟩]
 generalize (((w.alloc (.cells #[.int .u64 (x:Int),.string ⟨#[]⟩] 39)).alloc (.cells #[.int .u64 (y:Int),.string ⟨#[]⟩] 39)).alloc (.cells #[.int .u64 0,.string ⟨#[]⟩] 39)).alloc (.cells #[.int .u64 0,.string ⟨#[]⟩] 39)=W at hB k0 k1 k2 k3 ⊢
 obtain ⟨p3,hp3⟩:∃ p,p=w.heap.size+1+1+1:=⟨_,rfl⟩
 obtain ⟨p2,hp2⟩:∃ p,p=w.heap.size+1+1:=⟨_,rfl⟩
 obtain ⟨p1,hp1⟩:∃ p,p=w.heap.size+1:=⟨_,rfl⟩
 have n1:¬ w.heap.size=p2:=by omega
 have n2:¬ w.heap.size=p3:=by omega
 have n3:¬ p1=p2:=by omega
 have n4:¬ p1=p3:=by omega
 have n5:¬ p2=p3:=by omega
 have n6:¬ p3=p2:=by omega
 have n7:¬ p2=w.heap.size:=by omega
 have n8:¬ p3=w.heap.size:=by omega
 have n9:¬ p2=p1:=by omega
 have n10:¬ p3=p1:=by omega
 have hp2b:w.heap.size≤p2:=by omega
 have hp3b:w.heap.size≤p3:=by omega
 rw[← hp3] at k3 ⊢
 rw[← hp2] at k2 ⊢
 rw[← hp1] at k1 ⊢
 clear hp1 hp2 hp3
 have c10:=k1.cell 0
 have c11:=k1.cell 1
 go_upto_region 3 with (go_at_call 169;refine (hb.out _).mono ?_;rintro e w' ⟨rfl,hbw⟩)
 have hB':=hB.trans (hbw.mono hB.size)
 replace k0:=za7 k0 hbw
 replace k1:=za7 k1 hbw
 replace k2:=za7 k2 hbw
 replace k3:=za7 k3 hbw
 clear c10 c11 hbw hB hb hb0 hb1
 have c00:=k0.cell 0
 have c01:=k0.cell 1
 have c10:=k1.cell 0
 have c11:=k1.cell 1
 have c20:=k2.cell 0
 have c21:=k2.cell 1
 have c30:=k3.cell 0
 have c31:=k3.cell 1
 have f20:=k2.frozen 0
 have f21:=k2.frozen 1
 have f30:=k3.frozen 0
 have f31:=k3.frozen 1
 go_upto_region 4 with fail
 go_region_held3 (fun V=>V.cell? ⟨w.heap.size,0,none⟩=some (.int .u64 (x:Int))∧V.cell? ⟨p1,0,none⟩=some (.int .u64 (y:Int))) (go_keep) (first|(go_at_call 9999))
 all_goals
  have q2:Dk.Blk ((((w'.setCell ⟨p2,0,none⟩ (.int .u64 (q:Int))).setCell ⟨p2,1,none⟩ (.string ⟨#[]⟩)).setCell ⟨p3,0,none⟩ (.int .u64 (r:Int))).setCell ⟨p3,1,none⟩ (.string ⟨#[]⟩)) p2 39 #[.int .u64 (q:Int),.string ⟨#[]⟩]:=(((k2.set_ 0 (.int .u64 (q:Int))).set_ 1 (.string ⟨#[]⟩)).far n5 _).far n5 _
  have q3:Dk.Blk ((((w'.setCell ⟨p2,0,none⟩ (.int .u64 (q:Int))).setCell ⟨p2,1,none⟩ (.string ⟨#[]⟩)).setCell ⟨p3,0,none⟩ (.int .u64 (r:Int))).setCell ⟨p3,1,none⟩ (.string ⟨#[]⟩)) p3 39 #[.int .u64 (r:Int),.string ⟨#[]⟩]:=((((k3.far n6 _).far n6 _).set_ 0 (.int .u64 (r:Int))).set_ 1 (.string ⟨#[]⟩))
  go_wp2
  refine bodyPost_ret (zoe rfl _ _ p2 p3 _ _ _ _ rfl rfl rfl q2 Tryz.underlying39 rfl zcq q3 Tryz.underlying39 rfl zcq) rfl ?_
  exact ⟨rfl,((((hB'.setCell hp2b _).setCell hp2b _).setCell hp3b _).setCell hp3b _).drew⟩
abbrev iV (s:Bool)(n:Nat):Value := .agg #[.bool s,.int .u64 (n:Int),.string ⟨#[]⟩]
theorem zpw {n:Nat}:(0:Int)<((bl n:Nat):Int)↔0<n:=by
 rcases Nat.lt_or_ge n 2 with h|h
 ·have:n=0∨n=1:=by omega
  rcases this with rfl|rfl
  ·rw[zih];simp
  ·rw[zu3];simp
 ·have:=zu4 h
  omega
theorem zwu (s:Bool)(n:Nat)(hn:n<18446744073709551616)(w:World):Calls Tryz.prog 119 #[.bool s,nV n] w fun e w'=>e = .returned (iV (s && decide (0<n)) n)∧Below w.heap.size w w':=by
 have hb:=Lib.hid (fun W=>zb1 n hn W)
 obtain ⟨L,hL⟩:∃ L:Int,L=((bl n:Nat):Int):=⟨_,rfl⟩
 rw[← hL] at hb
 obtain ⟨b,hbd⟩:∃ b,b=decide (0<n):=⟨_,rfl⟩
 have hLb:decide ((0:Int)<L)=b:=by rw[hL,hbd];exact decide_eq_decide.2 zpw
 rw[← hbd]
 clear hL hbd hn
 obtain ⟨k0,k1⟩:=(⟨Dk.Blk.alloc (Dk.Blk.new w 39 #[.int .u64 (n:Int),.string ⟨#[]⟩]) (.cells #[.bool false,.int .u64 0,.string ⟨#[]⟩] 41),by have h:=Dk.Blk.new (w.alloc (.cells #[.int .u64 (n:Int),.string ⟨#[]⟩] 39)) 41 #[.bool false,.int .u64 0,.string ⟨#[]⟩];rw[World.size_alloc] at h;exact h⟩:Dk.Blk ((w.alloc (.cells #[.int .u64 (n:Int),.string ⟨#[]⟩] 39)).alloc (.cells #[.bool false,.int .u64 0,.string ⟨#[]⟩] 41)) w.heap.size 39 #[.int .u64 (n:Int),.string ⟨#[]⟩]∧Dk.Blk ((w.alloc (.cells #[.int .u64 (n:Int),.string ⟨#[]⟩] 39)).alloc (.cells #[.bool false,.int .u64 0,.string ⟨#[]⟩] 41)) (w.heap.size+1) 41 #[.bool false,.int .u64 0,.string ⟨#[]⟩])
 have hB:Below w.heap.size w ((w.alloc (.cells #[.int .u64 (n:Int),.string ⟨#[]⟩] 39)).alloc (.cells #[.bool false,.int .u64 0,.string ⟨#[]⟩] 41)):=((Below.refl _ w).alloc (Nat.le_refl _) _).alloc (by simp) _
 go_enter Tryz.func119,Tryz.ntmps119
 go_upto_region 1 with fail
 generalize (w.alloc (.cells #[.int .u64 (n:Int),.string ⟨#[]⟩] 39)).alloc (.cells #[.bool false,.int .u64 0,.string ⟨#[]⟩] 41)=W at hB k0 k1 ⊢
 obtain ⟨p1,hp1⟩:∃ p,p=w.heap.size+1:=⟨_,rfl⟩
 have n1:¬ p1=w.heap.size:=by omega
 have n2:¬ w.heap.size=p1:=by omega
 have hp1b:w.heap.size≤p1:=by omega
 rw[← hp1] at k1 ⊢
 clear hp1
 have c00:=k0.cell 0
 have c01:=k0.cell 1
 have c10:=k1.cell 0
 have c11:=k1.cell 1
 have c12:=k1.cell 2
 have f10:=k1.frozen 0
 have f11:=k1.frozen 1
 have f12:=k1.frozen 2
 cases s with
 |false =>
  go_region_with (first|(go_at_call 9999))
  all_goals go_wp2
  all_goals
   refine bodyPost_ret (zaz rfl _ _ p1 #[.bool false,.int .u64 (n:Int),.string ⟨#[]⟩] _ rfl (by have h:=((k1.set_ 0 (.bool false)).set_ 1 (.int .u64 (n:Int))).set_ 2 (.string ⟨#[]⟩);exact h) Tryz.underlying41 rfl zpv) rfl ?_
   exact ⟨rfl,(((hB.setCell hp1b _).setCell hp1b _).setCell hp1b _).drew⟩
 |true =>
  go_region_held3 (fun V=>V.cell? ⟨w.heap.size,0,none⟩=some (.int .u64 (n:Int))∧V.cell? ⟨w.heap.size,1,none⟩=some (.string ⟨#[]⟩)) (go_keep) (first|(go_at_call 169;refine (hb.out _).mono ?_;rintro e w' ⟨rfl,hbw⟩;have j1:=za7 (show Dk.Blk W.drew _ _ _ from k1) hbw;have j0:=za7 (show Dk.Blk W.drew _ _ _ from k0) hbw;have hBw:=hB.drew.trans (hbw.mono hB.drew.size);have d00:=j0.cell 0;have d01:=j0.cell 1;have d10:=j1.cell 0;have d11:=j1.cell 1;have d12:=j1.cell 2;have g10:=j1.frozen 0;have g11:=j1.frozen 1;have g12:=j1.frozen 2))
  all_goals go_wp2
  all_goals
   refine bodyPost_ret (zaz rfl _ _ p1 #[.bool b,.int .u64 (n:Int),.string ⟨#[]⟩] _ rfl (by have h:=((j1.set_ 0 (.bool b)).set_ 1 (.int .u64 (n:Int))).set_ 2 (.string ⟨#[]⟩);exact h) Tryz.underlying41 rfl zpv) rfl ?_
   exact ⟨rfl,(((hBw.setCell hp1b _).setCell hp1b _).setCell hp1b _)⟩
abbrev nC (n:Nat):Array Value:=#[.int .u64 (n:Int),.string ⟨#[]⟩]
abbrev iC (s:Bool)(n:Nat):Array Value:=#[.bool s,.int .u64 (n:Int),.string ⟨#[]⟩]
abbrev Nb (w:World)(p n:Nat):Prop:=Dk.Blk w p 39 (nC n)
theorem Nb.set {w:World}{p n:Nat}(h:Nb w p n)(m:Nat):Nb ((w.setCell ⟨p,0,none⟩ (.int .u64 (m:Int))).setCell ⟨p,1,none⟩ (.string ⟨#[]⟩)) p m:=(h.set_ 0 (.int .u64 (m:Int))).set_ 1 (.string ⟨#[]⟩)
theorem Nb.far2 {w:World}{p q n:Nat}(h:Nb w p n)(hne:p≠q)(u v:Value):Nb ((w.setCell ⟨q,0,none⟩ u).setCell ⟨q,1,none⟩ v) p n:=(h.far hne u).far hne v
theorem zbw {w w':World}{B q:Nat}(h:Below B w w')(hq:B≤q)(u v:Value):Below B w ((w'.setCell ⟨q,0,none⟩ u).setCell ⟨q,1,none⟩ v):=(h.setCell hq u).setCell hq v
structure Gs (w V:World)(p2 p5 p6 a b:Nat):Prop where
 k2:Nb V p2 0
 k5:Nb V p5 a
 k6:Nb V p6 b
 n25:p2≠p5
 n26:p2≠p6
 n56:p5≠p6
 b2:w.heap.size≤p2
 b5:w.heap.size≤p5
 b6:w.heap.size≤p6
 be:Below w.heap.size w V
theorem Gs.below {w V V':World}{p2 p5 p6 a b:Nat}(h:Gs w V p2 p5 p6 a b)(hb:Below V.heap.size V V'):Gs w V' p2 p5 p6 a b :=
 ⟨za7 h.k2 hb,za7 h.k5 hb,za7 h.k6 hb,h.n25,h.n26,h.n56,h.b2,h.b5,h.b6,h.be.trans (hb.mono h.be.size)⟩
theorem Gs.set5 {w V:World}{p2 p5 p6 a b:Nat}(h:Gs w V p2 p5 p6 a b)(m:Nat):Gs w ((V.setCell ⟨p5,0,none⟩ (.int .u64 (m:Int))).setCell ⟨p5,1,none⟩ (.string ⟨#[]⟩)) p2 p5 p6 m b :=
 ⟨h.k2.far2 h.n25 _ _,h.k5.set m,h.k6.far2 h.n56.symm _ _,h.n25,h.n26,h.n56,h.b2,h.b5,h.b6,zbw h.be h.b5 _ _⟩
theorem Gs.set6 {w V:World}{p2 p5 p6 a b:Nat}(h:Gs w V p2 p5 p6 a b)(m:Nat):Gs w ((V.setCell ⟨p6,0,none⟩ (.int .u64 (m:Int))).setCell ⟨p6,1,none⟩ (.string ⟨#[]⟩)) p2 p5 p6 a m :=
 ⟨h.k2.far2 h.n26 _ _,h.k5.far2 h.n56 _ _,h.k6.set m,h.n25,h.n26,h.n56,h.b2,h.b5,h.b6,zbw h.be h.b6 _ _⟩
theorem Gs.drew {w V:World}{p2 p5 p6 a b:Nat}(h:Gs w V p2 p5 p6 a b):Gs w V.drew p2 p5 p6 a b:=⟨h.k2,h.k5,h.k6,h.n25,h.n26,h.n56,h.b2,h.b5,h.b6,h.be.drew⟩
theorem zxl (n:Nat)(w:World):Calls Tryz.prog 173 #[.int .u64 (n:Int)] w fun e w'=>e = .returned (nV n)∧Below w.heap.size w w':=by
 go_enter Tryz.func173,Tryz.ntmps173
 go_wp2
 refine bodyPost_ret (zaz rfl _ _ w.heap.size _ _ rfl (Dk.Blk.new w _ _) Tryz.underlying39 rfl zcq) rfl ?_
 exact ⟨rfl,(Below.refl _ w).alloc (Nat.le_refl _) _⟩
theorem zmu (n:Nat)(w:World):Calls Tryz.prog 531 #[nV n] w fun e w'=>e = .returned (.tuple #[.int .u64 (n:Int),.bool true])∧Below w.heap.size w w':=by
 go_enter Tryz.func531,Tryz.ntmps531
 go_wp2
 go_ret2
 exact ⟨rfl,(Below.refl _ w).alloc (Nat.le_refl _) _⟩
theorem zz0 (s t:Bool)(x y:Nat)(hx:x<18446744073709551616)(hy:y<18446744073709551616)(w:World):Calls Tryz.prog 411 #[iV s x,iV t y] w fun e w'=>e = .returned (nV (Nat.gcd x y))∧Below w.heap.size w w':=by
 have HX:=Lib.hid hx
 have HY:=Lib.hid hy
 clear hx hy
 go_enter Tryz.func411,Tryz.ntmps411
 go_upto_region 1 with fail
 have hB:=zjq w (.cells (iC s x) 41) (.cells (iC t y) 41) (.cells (nC 0) 39)
 have h0:Dk.Blk (((w.alloc (.cells (iC s x) 41)).alloc (.cells (iC t y) 41)).alloc (.cells (nC 0) 39)) w.heap.size 41 (iC s x):=((Dk.Blk.new w _ _).alloc _).alloc _
 have h1:Dk.Blk (((w.alloc (.cells (iC s x) 41)).alloc (.cells (iC t y) 41)).alloc (.cells (nC 0) 39)) (w.heap.size+1) 41 (iC t y):=by
  have h:=Dk.Blk.new (w.alloc (.cells (iC s x) 41)) 41 (iC t y)
  rw[World.size_alloc] at h
  exact h.alloc _
 have h2:Nb (((w.alloc (.cells (iC s x) 41)).alloc (.cells (iC t y) 41)).alloc (.cells (nC 0) 39)) (w.heap.size+1+1) 0:=by
  have h:=Dk.Blk.new ((w.alloc (.cells (iC s x) 41)).alloc (.cells (iC t y) 41)) 39 (nC 0)
  rw[World.size_alloc,World.size_alloc] at h
  exact h
 generalize ((w.alloc (.cells (iC s x) 41)).alloc (.cells (iC t y) 41)).alloc (.cells (nC 0) 39)=W at hB h0 h1 h2 ⊢
 obtain ⟨p2,hp2⟩:∃ p,p=w.heap.size+1+1:=⟨_,rfl⟩
 obtain ⟨p1,hp1⟩:∃ p,p=w.heap.size+1:=⟨_,rfl⟩
 have b2:w.heap.size≤p2:=by omega
 rw[← hp2] at h2 ⊢
 rw[← hp1] at h1 ⊢
 clear hp1 hp2
 have HS:=Lib.hid (And.intro h0 (And.intro h1 (And.intro h2 (And.intro hB b2))))
 go_cut [5,6] from 14 to 17 (fun v5 v6 wx=>∃ p5 p6:Nat,v5 = .pointer (some ⟨p5,0,none⟩)∧v6 = .pointer (some ⟨p6,0,none⟩)∧Hid (Gs w wx p2 p5 p6 x y))
 case first =>
  have c1:=h0.cell 1
  have c2:=h0.cell 2
  have d1:=h1.cell 1
  have d2:=h1.cell 2
  have m1:=h0.lt
  have m2:=h1.lt
  have m3:¬ W.heap.size=w.heap.size:=by omega
  have m4:¬ W.heap.size=p1:=by omega
  have m5:¬ W.heap.size+1=w.heap.size:=by omega
  have m6:¬ W.heap.size+1=p1:=by omega
  go_region_held3 (fun V=>V.cell? ⟨w.heap.size,1,none⟩=some (.int .u64 (x:Int))∧V.cell? ⟨w.heap.size,2,none⟩=some (.string ⟨#[]⟩)∧V.cell? ⟨p1,1,none⟩=some (.int .u64 (y:Int))∧V.cell? ⟨p1,2,none⟩=some (.string ⟨#[]⟩)) (go_keep) (first|(go_at_call 9999))
  ·go_wp2_with fail
   go_meet
   refine ⟨_,_,rfl,rfl,Lib.hid ⟨(h2.alloc _).alloc _,(Dk.Blk.new W _ _).alloc _,?_,by have:=h2.lt;omega,by have:=h2.lt;omega,by omega,b2,hB.size,Nat.le_succ_of_le hB.size,((hB.alloc hB.size _).alloc (by simp;exact Nat.le_succ_of_le hB.size) _).drew⟩⟩
   have h:=Dk.Blk.new (W.alloc (.cells (nC x) 39)) 39 (nC y)
   rw[World.size_alloc] at h
   exact h
  ·go_wp2_with fail
   go_meet
   refine ⟨_,_,rfl,rfl,Lib.hid ⟨(h2.alloc _).alloc _,?_,(Dk.Blk.new W _ _).alloc _,by have:=h2.lt;omega,by have:=h2.lt;omega,by omega,b2,Nat.le_succ_of_le hB.size,hB.size,((hB.alloc hB.size _).alloc (by simp;exact Nat.le_succ_of_le hB.size) _).drew⟩⟩
   have h:=Dk.Blk.new (W.alloc (.cells (nC y) 39)) 39 (nC x)
   rw[World.size_alloc] at h
   exact h
 case rest =>
  obtain ⟨p5,p6,rfl,rfl,hg⟩:=hcut
  clear h0 h1 h2 hB b2 HS
  have HC:=Lib.hid (fun V=>zjp x y V)
  have c50:=hg.out.k5.cell 0
  have c51:=hg.out.k5.cell 1
  have c60:=hg.out.k6.cell 0
  have c61:=hg.out.k6.cell 1
  rcases Nat.lt_or_ge x y with hxy|hxy
  case' inl =>
   have hcm:cmpI x y = -1:=if_pos hxy
   rw[hcm] at HC
   go_upto_region 3 with (go_at_call 171;refine (HC.out _).mono ?_;rintro e w' ⟨rfl,hbw⟩;have hg':=Lib.hid (hg.out.below hbw))
   clear c50 c51 c60 c61
   have c50:=hg'.out.k5.cell 0
   have c51:=hg'.out.k5.cell 1
   have c60:=hg'.out.k6.cell 0
   have c61:=hg'.out.k6.cell 1
   have f50:=hg'.out.k5.frozen 0
   have f51:=hg'.out.k5.frozen 1
   have f60:=hg'.out.k6.frozen 0
   have f61:=hg'.out.k6.frozen 1
   have ne1:=hg'.out.n56
   have ne2:=hg'.out.n56.symm
   go_upto_region 4 with fail
   have HAB:∃ a b:Nat,Hid (Gs w ((((w'.setCell ⟨p5,0,none⟩ (.int .u64 (y:Int))).setCell ⟨p5,1,none⟩ (.string ⟨#[]⟩)).setCell ⟨p6,0,none⟩ (.int .u64 (x:Int))).setCell ⟨p6,1,none⟩ (.string ⟨#[]⟩)) p2 p5 p6 a b∧b≤a∧a<18446744073709551616∧Nat.gcd a b=Nat.gcd x y):=⟨y,x,Lib.hid ⟨(hg'.out.set5 y).set6 x,Nat.le_of_lt hxy,HY.out,Nat.gcd_comm _ _⟩⟩
   clear hg' c50 c51 c60 c61 f50 f51 f60 f61 hcm HC hxy
   generalize (((w'.setCell ⟨p5,0,none⟩ (.int .u64 (y:Int))).setCell ⟨p5,1,none⟩ (.string ⟨#[]⟩)).setCell ⟨p6,0,none⟩ (.int .u64 (x:Int))).setCell ⟨p6,1,none⟩ (.string ⟨#[]⟩)=V at HAB ⊢
  case' inr =>
   have hcm:¬ cmpI x y<0:=by unfold cmpI;rw[if_neg (by omega)];split <;> omega
   generalize cmpI x y=cc at HC hcm
   go_upto_region 4 with (go_at_call 171;refine (HC.out _).mono ?_;rintro e w' ⟨rfl,hbw⟩;have hg':=Lib.hid (hg.out.below hbw))
   have HAB:∃ a b:Nat,Hid (Gs w w' p2 p5 p6 a b∧b≤a∧a<18446744073709551616∧Nat.gcd a b=Nat.gcd x y):=⟨x,y,Lib.hid ⟨hg'.out,hxy,HX.out,rfl⟩⟩
   have ne1:=hg'.out.n56
   have ne2:=hg'.out.n56.symm
   clear hg' c50 c51 c60 c61 hcm HC hxy hbw
   generalize w'=V at HAB ⊢
  all_goals
   clear hg HX HY
   obtain ⟨a,b,hG⟩:=HAB
   have hb64:b<18446744073709551616:=Nat.lt_of_le_of_lt hG.out.2.1 hG.out.2.2.1
   have HBT:=Lib.hid (fun W=>zb1 b hb64 W)
   have HGE:=Lib.hid hG.out.2.2.2
   have c60:=hG.out.1.k6.cell 0
   have c61:=hG.out.1.k6.cell 1
   rcases Nat.eq_zero_or_pos b with hb0|hb0
   ·subst hb0
    rw[zih] at HBT
    have hgx:Nat.gcd x y=a:=by rw[← HGE.out,Nat.gcd_zero_right]
    go_wp2_with (go_at_call 169;refine (HBT.out _).mono ?_;rintro e w2 ⟨rfl,hbw⟩;have hG2:=Lib.hid (hG.out.1.below hbw);have d50:=hG2.out.k5.cell 0;have d51:=hG2.out.k5.cell 1;have d20:=hG2.out.k2.cell 0;have d21:=hG2.out.k2.cell 1;have e20:=hG2.out.k2.frozen 0;have e21:=hG2.out.k2.frozen 1;have ne3:=hG2.out.n25)
    refine bodyPost_ret (zaz rfl _ _ p2 (nC a) _ rfl (hG2.out.k2.set a) Tryz.underlying39 rfl zcq) rfl ?_
    exact ⟨by rw[hgx],zbw hG2.out.be hG2.out.b2 _ _⟩
   ·have hbl:(((bl b:Nat):Int) == 0)=false:=by
     rw[beq_eq_false_iff_ne]
     have:=(zpw (n:=b)).2 hb0
     omega
    obtain ⟨q,hq⟩:∃ q,q=a / b:=⟨_,rfl⟩
    obtain ⟨r,hr⟩:∃ r,r=a % b:=⟨_,rfl⟩
    have HDV:=Lib.hid (fun W=>zjr a b hG.out.2.2.1 hb64 hb0 W)
    rw[← hq, ← hr] at HDV
    have hrb:r<b:=by rw[hr];exact Nat.mod_lt _ hb0
    have hgx:Nat.gcd b r=Nat.gcd x y:=by rw[hr, ← HGE.out,Nat.gcd_comm b, ← Nat.gcd_rec,Nat.gcd_comm]
    have HGX:=Lib.hid hgx
    have HRB:=Lib.hid (And.intro hrb hb64)
    clear hq hr hgx HGE hrb hb64
    generalize ((bl b:Nat):Int)=Lb at HBT hbl
    go_upto_region 6 with (go_at_call 169;refine (HBT.out _).mono ?_;rintro e w2 ⟨rfl,hbw⟩;have hG2:=Lib.hid (hG.out.1.below hbw);have d50:=hG2.out.k5.cell 0;have d51:=hG2.out.k5.cell 1;have d60:=hG2.out.k6.cell 0;have d61:=hG2.out.k6.cell 1)
    go_upto_region 7 with (go_at_call 530;refine (HDV.out _).mono ?_;rintro e w3 ⟨rfl,hbw3⟩;have hG3:=Lib.hid (hG2.out.below hbw3))
    have hG4:Hid (Gs w ((w3.alloc (.cells (nC q) 39)).alloc (.cells (nC r) 39)) p2 p5 p6 a b):=Lib.hid (hG3.out.below (((Below.refl _ w3).alloc (Nat.le_refl _) _).alloc (by simp) _))
    have k8:Nb ((w3.alloc (.cells (nC q) 39)).alloc (.cells (nC r) 39)) (w3.heap.size+1) r:=by
     have h:=Dk.Blk.new (w3.alloc (.cells (nC q) 39)) 39 (nC r)
     rw[World.size_alloc] at h
     exact h
    have l5:=hG3.out.k5.lt
    have l6:=hG3.out.k6.lt
    generalize (w3.alloc (.cells (nC q) 39)).alloc (.cells (nC r) 39)=V4 at hG4 k8 ⊢
    obtain ⟨p8,hp8⟩:∃ p,p=w3.heap.size+1:=⟨_,rfl⟩
    have e1:¬ p8=p5:=by omega
    have e2:¬ p5=p8:=by omega
    have e3:¬ p8=p6:=by omega
    have e4:¬ p6=p8:=by omega
    rw[← hp8] at k8 ⊢
    clear hp8 l5 l6 hG3 hG2 d50 d51 d60 d61
    have d80:=k8.cell 0
    have d81:=k8.cell 1
    have d60:=hG4.out.k6.cell 0
    have d61:=hG4.out.k6.cell 1
    have d50:=hG4.out.k5.cell 0
    have d51:=hG4.out.k5.cell 1
    have f50:=hG4.out.k5.frozen 0
    have f51:=hG4.out.k5.frozen 1
    have f60:=hG4.out.k6.frozen 0
    have f61:=hG4.out.k6.frozen 1
    go_region_with (first|(go_at_call 9999))
    all_goals
     have hG5:Hid (Gs w (World.drew ((((V4.setCell ⟨p5,0,none⟩ (.int .u64 (b:Int))).setCell ⟨p5,1,none⟩ (.string ⟨#[]⟩)).setCell ⟨p6,0,none⟩ (.int .u64 (r:Int))).setCell ⟨p6,1,none⟩ (.string ⟨#[]⟩))) p2 p5 p6 b r):=Lib.hid ((hG4.out.set5 b).set6 r).drew
     clear k8 d80 d81 d60 d61 d50 d51 f50 f51 f60 f61 e1 e2 e3 e4 hG4 hG
     generalize World.drew ((((V4.setCell ⟨p5,0,none⟩ (.int .u64 (b:Int))).setCell ⟨p5,1,none⟩ (.string ⟨#[]⟩)).setCell ⟨p6,0,none⟩ (.int .u64 (r:Int))).setCell ⟨p6,1,none⟩ (.string ⟨#[]⟩))=V5 at hG5 ⊢
     have HBR:=Lib.hid (fun W=>zb1 r (Nat.lt_trans HRB.out.1 HRB.out.2) W)
     have c60:=hG5.out.k6.cell 0
     have c61:=hG5.out.k6.cell 1
     rcases Nat.eq_zero_or_pos r with hr0|hr0
     ·subst hr0
      rw[zih] at HBR
      have hgx:Nat.gcd x y=b:=by rw[← HGX.out,Nat.gcd_zero_right]
      go_wp2_with (go_at_call 169;refine (HBR.out _).mono ?_;rintro e w6 ⟨rfl,hbw⟩;have hG6:=Lib.hid (hG5.out.below hbw);have d50:=hG6.out.k5.cell 0;have d51:=hG6.out.k5.cell 1;have d20:=hG6.out.k2.cell 0;have d21:=hG6.out.k2.cell 1;have e20:=hG6.out.k2.frozen 0;have e21:=hG6.out.k2.frozen 1;have ne3:=hG6.out.n25)
      refine bodyPost_ret (zaz rfl _ _ p2 (nC b) _ rfl (hG6.out.k2.set b) Tryz.underlying39 rfl zcq) rfl ?_
      exact ⟨by rw[hgx],zbw hG6.out.be hG6.out.b2 _ _⟩
     ·have hblr:(((bl r:Nat):Int) == 0)=false:=by
       rw[beq_eq_false_iff_ne]
       have:=(zpw (n:=r)).2 hr0
       omega
      generalize ((bl r:Nat):Int)=Lr at HBR hblr
      have HSB:=Lib.hid (fun W=>zmu b W)
      have HSR:=Lib.hid (fun W=>zmu r W)
      go_upto_region 10 with (go_at_call 169;refine (HBR.out _).mono ?_;rintro e w6 ⟨rfl,hbw⟩;have hG6:=Lib.hid (hG5.out.below hbw);have d50:=hG6.out.k5.cell 0;have d51:=hG6.out.k5.cell 1)
      go_upto_region 12 with (go_at_call 531;refine (HSB.out _).mono ?_;rintro e w7 ⟨rfl,hbw7⟩;have hG7:=Lib.hid (hG6.out.below hbw7);have d60:=hG7.out.k6.cell 0;have d61:=hG7.out.k6.cell 1)
      go_upto_block 0 with (go_at_call 531;refine (HSR.out _).mono ?_;rintro e w8 ⟨rfl,hbw8⟩;have hG8:=Lib.hid (hG7.out.below hbw8))
      go_wp2_with fail
      go_loopw [10,12] (fun v10 v12 wz=>∃ m n:Nat,v10 = .int .u64 (m:Int)∧v12 = .int .u64 (n:Int)∧Hid (Gs w wz p2 p5 p6 b r∧Nat.gcd m n=Nat.gcd x y∧m<18446744073709551616∧n<18446744073709551616)) (fun _ v12 _=>(intOf v12).toNat)
      case atStart=>exact ⟨b,r,rfl,rfl,Lib.hid ⟨hG8.out,HGX.out,HRB.out.2,Nat.lt_trans HRB.out.1 HRB.out.2⟩⟩
      case round =>
       obtain ⟨m,n,rfl,rfl,hx⟩:=hrel
       have hm:=hx.out.2.2.1
       have hn:=hx.out.2.2.2
       rcases Nat.eq_zero_or_pos n with hn0|hn0
       ·subst hn0
        have hgx:Nat.gcd x y=m:=by rw[← hx.out.2.1,Nat.gcd_zero_right]
        have HOF:=Lib.hid (fun W=>zxl m W)
        go_wp2_with (go_at_call 173;refine (HOF.out _).mono ?_;rintro e w9 ⟨rfl,hbw⟩;have hG9:=Lib.hid (hx.out.1.below hbw);have d20:=hG9.out.k2.cell 0;have d21:=hG9.out.k2.cell 1;have e20:=hG9.out.k2.frozen 0;have e21:=hG9.out.k2.frozen 1)
        refine bodyPost_ret (zaz rfl _ _ p2 (nC m) _ rfl (hG9.out.k2.set m) Tryz.underlying39 rfl zcq) rfl ?_
        exact ⟨by rw[hgx],zbw hG9.out.be hG9.out.b2 _ _⟩
       ·obtain ⟨z,hz⟩:∃ z,z=m % n:=⟨_,rfl⟩
        have z1:(m:Int).tmod (n:Int)=(z:Int):=by rw[hz];exact (Int.ofNat_tmod m n).symm
        have hzn:z<n:=by rw[hz];exact Nat.mod_lt _ hn0
        have z2:IntKind.u64.wrap (z:Int)=(z:Int):=IntWalk.u64_in _ ⟨by omega,by omega⟩
        have z3:((n:Int) == 0)=false:=by rw[beq_eq_false_iff_ne];omega
        have z4:¬ (n:Int)=0:=by omega
        have z5:(0:Int)<(n:Int):=by omega
        have z6:decide ((n:Int) > 0)=true:=decide_eq_true z5
        have HZ:Hid (Nat.gcd n z=Nat.gcd x y):=Lib.hid (by rw[hz, ← hx.out.2.1,Nat.gcd_comm n, ← Nat.gcd_rec,Nat.gcd_comm])
        clear hz
        go_upto_region 14 with fail
        go_region_with (first|(go_at_call 9999))
        all_goals
         try simp only[Act.put,List.setIfInBounds_toArray,List.set_cons_zero,List.set_cons_succ,List.getElem_toArray,List.getElem_cons_zero,List.getElem_cons_succ]
         try simp only[z1]
         try simp only[z2]
         go_wp2_with fail
         go_roundw
         case rel=>exact ⟨n,z,rfl,rfl,Lib.hid ⟨hx.out.1.drew,HZ.out,hn,by omega⟩⟩
         case measure=>simp[intOf];omega
abbrev qV (s:Bool)(n d:Nat):Value := .agg #[.bool s,.int .u64 (n:Int),.string ⟨#[]⟩,.int .u64 (d:Int),.string ⟨#[]⟩]
abbrev qC (s:Bool)(n d:Nat):Array Value:=#[.bool s,.int .u64 (n:Int),.string ⟨#[]⟩,.int .u64 (d:Int),.string ⟨#[]⟩]
theorem bl_eq0 (d:Nat):(((bl d:Nat):Int) == 0)=decide (d=0):=by
 by_cases h:d=0
 ·subst h;rw[zih];rfl
 ·rw[decide_eq_false h,beq_eq_false_iff_ne]
  have:=(zpw (n:=d)).2 (by omega)
  omega
theorem zxm (d:Nat):(((bl d:Nat):Int) == 1)=decide (d=1):=by
 by_cases h:d=1
 ·subst h;rw[zu3];rfl
 ·rw[decide_eq_false h,beq_eq_false_iff_ne]
  rcases Nat.eq_zero_or_pos d with h0|h0
  ·subst h0;rw[zih];decide
  ·have:=zu4 (n:=d) (by omega)
   omega
theorem zii (s:Bool)(n d:Nat)(hd:d<18446744073709551616)(w:World):Calls Tryz.prog 66 #[qV s n d] w fun e w'=>e = .returned (.bool (decide (d=0)))∧Below w.heap.size w w':=by
 have hb:=Lib.hid (fun W=>zb1 d hd W)
 obtain ⟨L,hL⟩:∃ L:Int,L=((bl d:Nat):Int):=⟨_,rfl⟩
 rw[← hL] at hb
 obtain ⟨b,hbd⟩:∃ b,b=decide (d=0):=⟨_,rfl⟩
 have hLb:(L == 0)=b:=by rw[hL,hbd];exact bl_eq0 d
 rw[← hbd]
 clear hL hbd hd
 go_enter Tryz.func66,Tryz.ntmps66
 go_wp2_with (go_at_call 169;refine (hb.out _).mono ?_;rintro e w' ⟨rfl,hbw⟩)
 go_ret
 exact ⟨rfl,((Below.refl _ w).alloc (Nat.le_refl _) _).trans (hbw.mono (by simp))⟩
theorem zz1 (s:Bool)(n d:Nat)(hd:d<18446744073709551616)(w:World):Calls Tryz.prog 70 #[qV s n d] w fun e w'=>e = .returned (nV (if d=0 then 1 else d))∧Below w.heap.size w w':=by
 have hb:=Lib.hid (fun W=>zii s n d hd W)
 have ho:=Lib.hid (fun W=>zxl 1 W)
 have hB:=((Below.refl _ w).alloc (Nat.le_refl _) (.cells (qC s n d) 43)).alloc (by simp) (.cells (nC 0) 39)
 have k0:Dk.Blk ((w.alloc (.cells (qC s n d) 43)).alloc (.cells (nC 0) 39)) w.heap.size 43 (qC s n d):=(Dk.Blk.new w _ _).alloc _
 have k1:Nb ((w.alloc (.cells (qC s n d) 43)).alloc (.cells (nC 0) 39)) (w.heap.size+1) 0:=by
  have h:=Dk.Blk.new (w.alloc (.cells (qC s n d) 43)) 39 (nC 0)
  rw[World.size_alloc] at h
  exact h
 clear hd
 obtain ⟨r,hr⟩:∃ r,r=if d=0 then 1 else d:=⟨_,rfl⟩
 rw[← hr]
 have HR:=Lib.hid hr
 clear hr
 go_enter Tryz.func70,Tryz.ntmps70
 go_upto_region 1 with fail
 generalize (w.alloc (.cells (qC s n d) 43)).alloc (.cells (nC 0) 39)=W at hB k0 k1 ⊢
 obtain ⟨p1,hp1⟩:∃ p,p=w.heap.size+1:=⟨_,rfl⟩
 have hp1b:w.heap.size≤p1:=by omega
 rw[← hp1] at k1 ⊢
 clear hp1
 have c0:=k0.cell 0
 have c1:=k0.cell 1
 have c2:=k0.cell 2
 have c3:=k0.cell 3
 have c4:=k0.cell 4
 by_cases h0:d=0
 ·have hr:r=1:=by rw[HR.out,if_pos h0]
  subst hr
  subst h0
  rw[decide_eq_true rfl] at hb
  go_wp2_with (first
   |(go_at_call 66;refine (hb.out _).mono ?_;rintro e w2 ⟨rfl,hb2⟩;have k2:=Lib.hid (za7 k1 hb2);have hB2:=Lib.hid (hB.trans (hb2.mono hB.size));clear hb2)
   |(go_at_call 173;refine (ho.out _).mono ?_;rintro e w3 ⟨rfl,hb3⟩;have k3:=Lib.hid (za7 k2.out hb3);have hB3:=Lib.hid (hB2.out.trans (hb3.mono hB2.out.size));have d0:=k3.out.cell 0;have d1:=k3.out.cell 1;have f0:=k3.out.frozen 0;have f1:=k3.out.frozen 1))
  refine bodyPost_ret (zaz rfl _ _ p1 (nC 1) _ rfl (Nb.set k3.out 1) Tryz.underlying39 rfl zcq) rfl ?_
  exact ⟨rfl,zbw hB3.out hp1b _ _⟩
 ·have hr:r=d:=by rw[HR.out,if_neg h0]
  subst hr
  rw[decide_eq_false h0] at hb
  go_wp2_with (first
   |(go_at_call 66;refine (hb.out _).mono ?_;rintro e w2 ⟨rfl,hb2⟩;have k2:=Lib.hid (za7 k1 hb2);have hB2:=Lib.hid (hB.trans (hb2.mono hB.size));have j0:=za7 k0 hb2;have e3:=j0.cell 3;have e4:=j0.cell 4;have d0:=k2.out.cell 0;have d1:=k2.out.cell 1;have f0:=k2.out.frozen 0;have f1:=k2.out.frozen 1))
  refine bodyPost_ret (zaz rfl _ _ p1 (nC r) _ rfl (Nb.set k2.out r) Tryz.underlying39 rfl zcq) rfl ?_
  exact ⟨rfl,zbw hB2.out hp1b _ _⟩
theorem zwv (a b:Nat)(ha:a<18446744073709551616)(hb:b<18446744073709551616)(h:0<b)(w:World):Calls Tryz.prog 414 #[nV a,nV b] w fun e w'=>e = .returned (nV (a / b))∧Below w.heap.size w w':=by
 have hbt:=Lib.hid (fun W=>zb1 b hb W)
 have hdv:=Lib.hid (fun W=>zjr a b ha hb h W)
 obtain ⟨L,hL⟩:∃ L:Int,L=((bl b:Nat):Int):=⟨_,rfl⟩
 rw[← hL] at hbt
 have hL1:(L == 1)=decide (b=1):=by rw[hL];exact zxm b
 obtain ⟨q,hq⟩:∃ q,q=a / b:=⟨_,rfl⟩
 obtain ⟨r,hr⟩:∃ r,r=a % b:=⟨_,rfl⟩
 rw[← hq, ← hr] at hdv
 rw[← hq]
 have HQ:=Lib.hid hq
 obtain ⟨k0,k1,k2⟩:Nb (((w.alloc (.cells (nC a) 39)).alloc (.cells (nC b) 39)).alloc (.cells (nC 0) 39)) w.heap.size a∧Nb (((w.alloc (.cells (nC a) 39)).alloc (.cells (nC b) 39)).alloc (.cells (nC 0) 39)) (w.heap.size+1) b∧Nb (((w.alloc (.cells (nC a) 39)).alloc (.cells (nC b) 39)).alloc (.cells (nC 0) 39)) (w.heap.size+1+1) 0:=by
  have h1:=Dk.Blk.new (w.alloc (.cells (nC a) 39)) 39 (nC b)
  rw[World.size_alloc] at h1
  exact ⟨((Dk.Blk.new w _ _).alloc _).alloc _,h1.alloc _,blk3 w _ _ _⟩
 have hB:=zjq w (.cells (nC a) 39) (.cells (nC b) 39) (.cells (nC 0) 39)
 clear hL hq hr ha hb h
 go_enter Tryz.func414,Tryz.ntmps414
 go_upto_region 1 with fail
 generalize ((w.alloc (.cells (nC a) 39)).alloc (.cells (nC b) 39)).alloc (.cells (nC 0) 39)=W at hB k0 k1 k2 ⊢
 obtain ⟨p2,hp2⟩:∃ p,p=w.heap.size+1+1:=⟨_,rfl⟩
 obtain ⟨p1,hp1⟩:∃ p,p=w.heap.size+1:=⟨_,rfl⟩
 have b2:w.heap.size≤p2:=by omega
 rw[← hp2] at k2 ⊢
 rw[← hp1] at k1 ⊢
 clear hp1 hp2
 have c0:=k1.cell 0
 have c1:=k1.cell 1
 by_cases h1:b=1
 ·subst h1
  have hqa:q=a:=by rw[HQ.out,Nat.div_one]
  subst hqa
  rw[decide_eq_true rfl] at hL1
  go_wp2_with (go_at_call 169;refine (hbt.out _).mono ?_;rintro e w2 ⟨rfl,hb2⟩;have j0:=za7 k0 hb2;have j2:=Lib.hid (za7 k2 hb2);have hB2:=Lib.hid (hB.trans (hb2.mono hB.size));have d0:=j0.cell 0;have d1:=j0.cell 1;have e0:=j2.out.cell 0;have e1:=j2.out.cell 1;have f0:=j2.out.frozen 0;have f1:=j2.out.frozen 1)
  refine bodyPost_ret (zaz rfl _ _ p2 (nC q) _ rfl (Nb.set j2.out q) Tryz.underlying39 rfl zcq) rfl ?_
  exact ⟨rfl,zbw hB2.out b2 _ _⟩
 ·rw[decide_eq_false h1] at hL1
  go_upto_region 3 with (go_at_call 169;refine (hbt.out _).mono ?_;rintro e w2 ⟨rfl,hb2⟩;have j0:=za7 k0 hb2;have j1:=za7 k1 hb2;have j2:=Lib.hid (za7 k2 hb2);have hB2:=Lib.hid (hB.trans (hb2.mono hB.size));have d0:=j0.cell 0;have d1:=j0.cell 1;have e0:=j1.cell 0;have e1:=j1.cell 1)
  go_upto_region 4 with (go_at_call 530;refine (hdv.out _).mono ?_;rintro e w3 ⟨rfl,hb3⟩;have l2:=Lib.hid (za7 j2.out hb3);have hB3:=Lib.hid (hB2.out.trans (hb3.mono hB2.out.size)))
  have m2:Nb ((w3.alloc (.cells (nC q) 39)).alloc (.cells (nC r) 39)) p2 0:=(l2.out.alloc _).alloc _
  have m5:Nb ((w3.alloc (.cells (nC q) 39)).alloc (.cells (nC r) 39)) w3.heap.size q:=(Dk.Blk.new w3 _ _).alloc _
  have hB4:Below w.heap.size w ((w3.alloc (.cells (nC q) 39)).alloc (.cells (nC r) 39)):=(hB3.out.alloc hB3.out.size _).alloc (by simp;exact Nat.le_succ_of_le hB3.out.size) _
  generalize (w3.alloc (.cells (nC q) 39)).alloc (.cells (nC r) 39)=W4 at m2 m5 hB4 ⊢
  clear d0 d1 e0 e1 c0 c1
  have d0:=m5.cell 0
  have d1:=m5.cell 1
  have e0:=m2.cell 0
  have e1:=m2.cell 1
  have f0:=m2.frozen 0
  have f1:=m2.frozen 1
  go_wp2
  refine bodyPost_ret (zaz rfl _ _ p2 (nC q) _ rfl (Nb.set m2 q) Tryz.underlying39 rfl zcq) rfl ?_
  exact ⟨rfl,zbw hB4 b2 _ _⟩
theorem set5 {w:World}{p:Nat}{s s':Bool}{n n' d d':Nat}(h:Dk.Blk w p 43 (qC s n d)):Dk.Blk (((((w.setCell ⟨p,0,none⟩ (.bool s')).setCell ⟨p,1,none⟩ (.int .u64 (n':Int))).setCell ⟨p,2,none⟩ (.string ⟨#[]⟩)).setCell ⟨p,3,none⟩ (.int .u64 (d':Int))).setCell ⟨p,4,none⟩ (.string ⟨#[]⟩)) p 43 (qC s' n' d') :=
 ((((h.set_ 0 (.bool s')).set_ 1 (.int .u64 (n':Int))).set_ 2 (.string ⟨#[]⟩)).set_ 3 (.int .u64 (d':Int))).set_ 4 (.string ⟨#[]⟩)
theorem zkp (s:Bool)(n d:Nat)(hd:d<18446744073709551616)(w:World):Calls Tryz.prog 412 #[iV s n,nV d] w fun e w'=>e = .returned (qV s n (if d=1 then 0 else d))∧Below w.heap.size w w':=by
 have hbt:=Lib.hid (fun W=>zb1 d hd W)
 obtain ⟨L,hL⟩:∃ L:Int,L=((bl d:Nat):Int):=⟨_,rfl⟩
 rw[← hL] at hbt
 have hL1:(L == 1)=decide (d=1):=by rw[hL];exact zxm d
 obtain ⟨r,hr⟩:∃ r,r=if d=1 then 0 else d:=⟨_,rfl⟩
 rw[← hr]
 have HR:=Lib.hid hr
 have hB:=zjq w (.cells (iC s n) 41) (.cells (nC d) 39) (.cells (qC false 0 0) 43)
 obtain ⟨k0,k1,k2⟩:Dk.Blk (((w.alloc (.cells (iC s n) 41)).alloc (.cells (nC d) 39)).alloc (.cells (qC false 0 0) 43)) w.heap.size 41 (iC s n)∧Nb (((w.alloc (.cells (iC s n) 41)).alloc (.cells (nC d) 39)).alloc (.cells (qC false 0 0) 43)) (w.heap.size+1) d∧Dk.Blk (((w.alloc (.cells (iC s n) 41)).alloc (.cells (nC d) 39)).alloc (.cells (qC false 0 0) 43)) (w.heap.size+1+1) 43 (qC false 0 0):=by
  have h1:=Dk.Blk.new (w.alloc (.cells (iC s n) 41)) 39 (nC d)
  rw[World.size_alloc] at h1
  have h2:=Dk.Blk.new ((w.alloc (.cells (iC s n) 41)).alloc (.cells (nC d) 39)) 43 (qC false 0 0)
  rw[World.size_alloc,World.size_alloc] at h2
  exact ⟨((Dk.Blk.new w _ _).alloc _).alloc _,h1.alloc _,h2⟩
 clear hL hr hd
 go_enter Tryz.func412,Tryz.ntmps412
 go_upto_region 1 with fail
 generalize ((w.alloc (.cells (iC s n) 41)).alloc (.cells (nC d) 39)).alloc (.cells (qC false 0 0) 43)=W at hB k0 k1 k2 ⊢
 obtain ⟨p2,hp2⟩:∃ p,p=w.heap.size+1+1:=⟨_,rfl⟩
 obtain ⟨p1,hp1⟩:∃ p,p=w.heap.size+1:=⟨_,rfl⟩
 have b2:w.heap.size≤p2:=by omega
 rw[← hp2] at k2 ⊢
 rw[← hp1] at k1 ⊢
 clear hp1 hp2
 have c0:=k1.cell 0
 have c1:=k1.cell 1
 by_cases h1:d=1
 ·have hr:r=0:=by rw[HR.out,if_pos h1]
  rw[decide_eq_true h1] at hL1
  subst hr
  clear HR h1
  go_wp2_with (go_at_call 169;refine (hbt.out _).mono ?_;rintro e w2 ⟨rfl,hb2⟩;have j0:=za7 k0 hb2;have j1:=za7 k1 hb2;have j2:=Lib.hid (za7 k2 hb2);have hB2:=Lib.hid (hB.trans (hb2.mono hB.size));have d0:=j0.cell 0;have d1:=j0.cell 1;have d2:=j0.cell 2;have m0:=j1.cell 0;have m1:=j1.cell 1;have e0:=j2.out.cell 0;have e1:=j2.out.cell 1;have e2:=j2.out.cell 2;have e3:=j2.out.cell 3;have e4:=j2.out.cell 4;have f0:=j2.out.frozen 0;have f1:=j2.out.frozen 1;have f2:=j2.out.frozen 2;have f3:=j2.out.frozen 3;have f4:=j2.out.frozen 4)
  have hfin:Dk.Blk (((((w2.setCell ⟨p2,0,none⟩ (.bool s)).setCell ⟨p2,1,none⟩ (.int .u64 (n:Int))).setCell ⟨p2,2,none⟩ (.string ⟨#[]⟩)).setCell ⟨p2,3,none⟩ (.int .u64 0)).setCell ⟨p2,4,none⟩ (.string ⟨#[]⟩)) p2 43 (qC s n 0):=set5 (s':=s) (n':=n) (d':=0) j2.out
  have hbe:Below w.heap.size w (((((w2.setCell ⟨p2,0,none⟩ (.bool s)).setCell ⟨p2,1,none⟩ (.int .u64 (n:Int))).setCell ⟨p2,2,none⟩ (.string ⟨#[]⟩)).setCell ⟨p2,3,none⟩ (.int .u64 0)).setCell ⟨p2,4,none⟩ (.string ⟨#[]⟩)):=((((hB2.out.setCell b2 _).setCell b2 _).setCell b2 _).setCell b2 _).setCell b2 _
  refine bodyPost_ret (zaz rfl _ _ p2 (qC s n 0) _ rfl hfin Tryz.underlying43 rfl infoQ) rfl ?_
  exact ⟨rfl,hbe⟩
 ·have hr:r=d:=by rw[HR.out,if_neg h1]
  rw[decide_eq_false h1] at hL1
  subst hr
  clear HR h1
  go_upto_region 3 with (go_at_call 169;refine (hbt.out _).mono ?_;rintro e w2 ⟨rfl,hb2⟩;have j0:=za7 k0 hb2;have j1:=za7 k1 hb2;have j2:=Lib.hid (za7 k2 hb2);have hB2:=Lib.hid (hB.trans (hb2.mono hB.size));have d0:=j0.cell 0;have d1:=j0.cell 1;have d2:=j0.cell 2;have m0:=j1.cell 0;have m1:=j1.cell 1;have e0:=j2.out.cell 0;have e1:=j2.out.cell 1;have e2:=j2.out.cell 2;have e3:=j2.out.cell 3;have e4:=j2.out.cell 4;have f0:=j2.out.frozen 0;have f1:=j2.out.frozen 1;have f2:=j2.out.frozen 2;have f3:=j2.out.frozen 3;have f4:=j2.out.frozen 4)
  go_wp2
  have hfin:Dk.Blk (((((w2.setCell ⟨p2,0,none⟩ (.bool s)).setCell ⟨p2,1,none⟩ (.int .u64 (n:Int))).setCell ⟨p2,2,none⟩ (.string ⟨#[]⟩)).setCell ⟨p2,3,none⟩ (.int .u64 (r:Int))).setCell ⟨p2,4,none⟩ (.string ⟨#[]⟩)) p2 43 (qC s n r):=set5 (s':=s) (n':=n) (d':=r) j2.out
  have hbe:Below w.heap.size w (((((w2.setCell ⟨p2,0,none⟩ (.bool s)).setCell ⟨p2,1,none⟩ (.int .u64 (n:Int))).setCell ⟨p2,2,none⟩ (.string ⟨#[]⟩)).setCell ⟨p2,3,none⟩ (.int .u64 (r:Int))).setCell ⟨p2,4,none⟩ (.string ⟨#[]⟩)):=((((hB2.out.setCell b2 _).setCell b2 _).setCell b2 _).setCell b2 _).setCell b2 _
  refine bodyPost_ret (zaz rfl _ _ p2 (qC s n r) _ rfl hfin Tryz.underlying43 rfl infoQ) rfl ?_
  exact ⟨rfl,hbe⟩
end Go.Proofs.YtemgclnkgieldaaGreatDoor.Fr
