/- A book's write where there is no room; a change (Point, Drop). -/
import Derived.Test.YtmejdkniafjncaaGreatDoorNd
import Derived.Deep.Fields
set_option maxHeartbeats 4000000
set_option maxRecDepth 100000
namespace Go.Proofs.YtmejdkniafjncaaGreatDoor.Oc
open Go Go.RowKit Dk
theorem zh5 {w:World}{g gd bm b0 c:Nat}{A:Option Addr}{S:St}{f:Int}{L:List Ly}(h:Bw w g gd bm b0 A c S f L){n:Nt}(hn:NtOk n)(lv:Int){X:Option Addr}{lx cx:Nat}{far:Nat→Prop}(hx:n.kind=1→RowIs w far (.slice X lx cx) n.ms)(hfit:S.room<S.xs.length+(recN n).length) :
  Calls Tryz.prog 33 #[.pointer (some ⟨g,0,none⟩),.agg (noteV n.kind n.name n.version lv (.slice X lx cx))] w fun e w'=>e = .returned (.int .i64 14)∧Below w.heap.size w w':=by
 have HBW:=hid h
 have HOK:=hid hn
 have HX:=hid hx
 have HRL:=hid (zkp hn)
 have HFIT:=hid hfit
 clear h hn hx hfit
 go_enter Tryz.func33,Tryz.ntmps33
 unfold noteV
 go_upto_region 1 with fail
 have HN:Hid (Blk (w.alloc (.cells #[.int .i64 n.kind,.string n.name,.int .i64 (n.version:Int),.int .i64 lv,.slice X lx cx] 107)) w.heap.size 107 (noteV n.kind n.name n.version lv (.slice X lx cx))):=hid (Blk.new w _ _)
 have HB:Hid (Below w.heap.size w (w.alloc (.cells #[.int .i64 n.kind,.string n.name,.int .i64 (n.version:Int),.int .i64 lv,.slice X lx cx] 107))):=hid (Below.new1 w _)
 generalize w.alloc (.cells #[.int .i64 n.kind,.string n.name,.int .i64 (n.version:Int),.int .i64 lv,.slice X lx cx] 107)=W1 at HN HB ⊢
 have HBW1:=hid (zem HBW.out HB.out)
 have HX1:Hid (n.kind=1→RowIs W1 far (.slice X lx cx) n.ms):=hid fun hk=>(HX.out hk).alt (alt_of_below (p:=fun _=>False) HB.out) (fun _ _ h=>h.elim) (fun _ _ h=>h)
 obtain ⟨⟨n0,n1,n2,n3,n4⟩,nz⟩:=zap HN.out
 obtain ⟨⟨c0,c1,c2⟩,cz⟩:=zat HBW1.out.bk.blk
 obtain ⟨⟨d0,d1,d2,d3,d4,d5⟩,dz⟩:=zcz HBW1.out.dk
 have hup:=HBW.out.up
 rw[hup] at d3
 clear hup
 go_upto_region 5 with (go_at_call 58;refine (zjj HOK.out lv HX1.out).mono ?_;rintro e w2 ⟨A2,L2,c2',rfl,ho2,hb2⟩;have HO2:=hid ho2;have HB2:=hid hb2;clear ho2 hb2)
 obtain ⟨hL2,hc2⟩:=zf2 HO2.out
 subst hL2
 have HBW2:=hid (zem HBW1.out HB2.out)
 have HL2:Hid (0<(recN n).length∧(recN n).length≤20000):=hid ⟨HRL.out.2,HRL.out.1⟩
 obtain ⟨rl,hrl⟩:∃ k,k=(recN n).length:=⟨_,rfl⟩
 have HRLE:=hid hrl
 have hfit:=HFIT.out
 have hrl1:=HRL.out.1
 have hrl2:=HRL.out.2
 rw[← hrl] at hc2 hfit hrl1 hrl2 ⊢
 clear hrl
 obtain ⟨⟨c0,c1,c2⟩,cz⟩:=zat HBW2.out.bk.blk
 obtain ⟨⟨d0,d1,d2,d3,d4,d5⟩,dz⟩:=zcz HBW2.out.dk
 have hup:=HBW.out.up
 rw[hup] at d3
 clear hup
 have hroom:=HBW.out.ok.2.1
 have hg:decide (((S.room:Int) - (S.xs.length:Int))<(rl:Int))=true:=by simp;omega
 go_quiet (fail)
 go_wp2
 go_ret
 exact ⟨rfl,by first|exact below_drewN (HB.out.trans (HB2.out.mono HB.out.size)) _|exact HB.out.trans (HB2.out.mono HB.out.size)⟩
 exfalso
 rename_i h _ _ _ _
 have hx:=HBW.out.ok.1
 unfold wrap64 at h
 omega
structure Bz (w:World)(B g gd bm:Nat)(A:Option Addr)(c:Nat)(S:St)(f:Int)(L:List Ly):Prop where
 bw:Bw w g gd bm B A c S f L
 hg:B≤g∧B≤gd∧B≤bm
 hl:∀ l∈L,B≤l.g∧B≤l.bv
theorem Bz.below {w w':World}{B g gd bm c:Nat}{A:Option Addr}{S:St}{f:Int}{L:List Ly}(h:Bz w B g gd bm A c S f L)(hb:Below w.heap.size w w'):Bz w' B g gd bm A c S f L:=⟨zem h.bw hb,h.hg,h.hl⟩
theorem Bz.D {w:World}{B g gd bm c:Nat}{A:Option Addr}{S:St}{f:Int}{L:List Ly}(h:Bz w B g gd bm A c S f L):∀ k,(Value.slice A S.xs.length c).ownBlock=some k→B≤k∧k<w.heap.size:=fun _ hk=>h.bw.own.base hk
theorem Bz.mt {w:World}{B g gd bm c:Nat}{A:Option Addr}{S:St}{f:Int}{L:List Ly}(h:Bz w B g gd bm A c S f L){k:Nat}(hk:Mt g gd bm (Value.slice A S.xs.length c).ownBlock L k):B≤k:=by
 rcases hk with e|e|e|e|e|e
 ·rw[e];exact h.hg.1
 ·rw[e];exact h.hg.2.1
 ·exact (h.D k e.symm).1
 ·rw[e];exact h.hg.2.2
 ·obtain ⟨l,hl,rfl⟩:=List.mem_map.1 e
  exact (h.hl l hl).1
 ·obtain ⟨l,hl,rfl⟩:=List.mem_map.1 e
  exact (h.hl l hl).2
theorem Alt.toBelow {w w':World}{B:Nat}{p:Nat→Prop}(h:Alt w w' p)(hp:∀ k,k<w.heap.size→p k→B≤k)(hB:B≤w.heap.size):Below B w w':=⟨h.os,h.tape,h.output,h.size,fun k hk=>h.block k (by omega) fun hpk=>by have:=hp k (by omega) hpk;omega⟩
theorem Below.low {w w':World}{B:Nat}(h:Below w.heap.size w w')(hB:B≤w.heap.size):Below B w w':=h.mono hB
def TB (w:World)(k:Nat):Prop:=(∃ es n,w.heap[k]? = some (.map es n))∨∃ cs t fr,w.heap[k]? = some (.cells cs t fr)∧(t=5∨t=96∨t=93∨t=155)
theorem TB.same {w w':World}{k:Nat}(h:w'.heap[k]? = w.heap[k]?):TB w' k↔TB w k:=by unfold TB;rw[h]
abbrev Kb (w w':World):Prop:=Alt w w' (TB w)
theorem Kb.trans {w w1 w2:World}(h1:Kb w w1)(h2:Kb w1 w2):Kb w w2:=Alt.trans h1 h2 (fun k hk hq=>Classical.byContradiction fun hn=>hn ((TB.same (h1.block k hk hn)).1 hq))
theorem Kb.of {w w':World}(hb:Below w.heap.size w w'):Kb w w':=alt_of_below hb
structure BK (B:Nat)(w w':World):Prop where
 bel:Below B w w'
 kb:Kb w w'
theorem BK.trans {B:Nat}{w w1 w2:World}(h1:BK B w w1)(h2:BK B w1 w2):BK B w w2:=⟨h1.bel.trans h2.bel,h1.kb.trans h2.kb⟩
theorem BK.of {B:Nat}{w w':World}(hb:Below w.heap.size w w')(hB:B≤w.heap.size):BK B w w':=⟨hb.mono hB,.of hb⟩
theorem Bz.tb {w:World}{B g gd bm c:Nat}{A:Option Addr}{S:St}{f:Int}{L:List Ly}(h:Bz w B g gd bm A c S f L){k:Nat}(hk:Mt g gd bm (Value.slice A S.xs.length c).ownBlock L k):TB w k:=by
 rcases hk with e|e|e|e|e|e
 ·rw[e];exact .inr ⟨_,_,_,h.bw.bk.blk,.inr (.inl rfl)⟩
 ·rw[e];exact .inr ⟨_,_,_,h.bw.dk,.inr (.inr (.inl rfl))⟩
 ·rcases h.bw.own.2 with ⟨e2,_⟩|⟨g',cap,cur,e2,_,hh,_⟩
  ·rw[e2] at e;cases e
  ·have e3:g'=k:=by rw[e2] at e;simpa [Value.ownBlock] using e.symm
   subst e3
   exact .inr ⟨_,_,_,hh,.inl rfl⟩
 ·rw[e]
  obtain ⟨es,c,hb,_⟩:=h.bw.bk.map
  exact .inl ⟨es,c,hb⟩
 ·obtain ⟨l,hl,rfl⟩:=List.mem_map.1 e
  exact .inr ⟨_,_,_,(h.bw.bk.sh l hl).1,.inr (.inr (.inr rfl))⟩
 ·obtain ⟨l,hl,rfl⟩:=List.mem_map.1 e
  obtain ⟨es,c,hb,_⟩:=(h.bw.bk.sh l hl).2.1
  exact .inl ⟨es,c,hb⟩
theorem Bz.bk_ {w w':World}{B g gd bm c:Nat}{A:Option Addr}{S:St}{f:Int}{L:List Ly}(h:Bz w B g gd bm A c S f L)(ha:Alt w w' (Mt g gd bm (Value.slice A S.xs.length c).ownBlock L)):BK B w w':=⟨Alt.toBelow ha (fun _ _ hk=>h.mt hk) h.bw.b0l,ha.mono fun _ hk=>h.tb hk⟩
theorem zsq {w:World}{B g gd bm c:Nat}{A:Option Addr}{S:St}{f:Int}{L:List Ly}(h:Bz w B g gd bm A c S f L){n:Nt}(hn:NtOk n)(lv:Int){X:Option Addr}{lx cx:Nat}(hx:n.kind=1→RowIs w (Mt g gd bm (Value.slice A S.xs.length c).ownBlock L) (.slice X lx cx) n.ms)(hfit:S.xs.length+(recN n).length≤S.room) :
  Calls Tryz.prog 33 #[.pointer (some ⟨g,0,none⟩),.agg (noteV n.kind n.name n.version lv (.slice X lx cx))] w fun e w'=>e = .returned (.int .i64 0)∧∃ A' c' f',Bz w' B g gd bm A' c' (addS S (recN n)) f' L∧Below B w w'∧(n.kind=1→RowIs w' (Mt g gd bm (Value.slice A' (addS S (recN n)).xs.length c').ownBlock L) (.slice X lx cx) n.ms)∧Alt w w' (Mt g gd bm (Value.slice A S.xs.length c).ownBlock L):=by
 refine (zqj h.bw hn lv hx hfit).mono ?_
 rintro e w' ⟨rfl,A',c',f',hb,ha,hd⟩
 refine ⟨rfl,A',c',f',⟨hb,h.hg,h.hl⟩,Alt.toBelow ha ?_ h.bw.b0l,fun hk=>(hx hk).alt ha ?_ ?_,ha.mono ?_⟩
 ·rintro k _ (e|e|e)
  ·rw[e];exact h.hg.1
  ·rw[e];exact h.hg.2.1
  ·exact (h.D k e).1
 ·rintro k _ (e|e|e)
  ·exact .inl e
  ·exact .inr (.inl e)
  ·exact .inr (.inr (.inl e.symm))
 ·rintro k hk (e|e|e|e|e|e)
  ·exact .inl e
  ·exact .inr (.inl e)
  ·rcases hd with h1|h1
   ·exact .inr (.inr (.inl (by rw[← h1];exact e)))
   ·have:=h1 k e.symm;omega
  ·exact .inr (.inr (.inr (.inl e)))
  ·exact .inr (.inr (.inr (.inr (.inl e))))
  ·exact .inr (.inr (.inr (.inr (.inr e))))
 ·rintro k (e|e|e)
  ·exact .inl e
  ·exact .inr (.inl e)
  ·exact .inr (.inr (.inl e.symm))
theorem Bz.mtlt {w:World}{B g gd bm c:Nat}{A:Option Addr}{S:St}{f:Int}{L:List Ly}(h:Bz w B g gd bm A c S f L){k:Nat}(hk:Mt g gd bm (Value.slice A S.xs.length c).ownBlock L k):k<w.heap.size:=zww h.bw.bk (fun k hk=>(h.D k hk).2) h.bw.dk.lt hk
theorem zl9 {w:World}{B g gd bm c:Nat}{A:Option Addr}{S:St}{f:Int}{L:List Ly}(h:Bz w B g gd bm A c S f L)(hw:WF (L.map Ly.s)){n:Nt}(hm:mayC (L.map Ly.s) n)(hv:n.version≤100000)(lv:Int)(x:Value)(hx:n.kind=1→RowIs w (Mt g gd bm (Value.slice A S.xs.length c).ownBlock L) x n.ms) :
  Calls Tryz.prog 34 #[.pointer (some ⟨g,0,none⟩),.agg (noteV n.kind n.name n.version lv x)] w fun e w'=>e = .returned (.tuple #[])∧∃ L',Bz w' B g gd bm A c S f L'∧L'.map Ly.s=pfC (L.map Ly.s) n∧Below B w w'∧Alt w w' (Mb bm L):=by
 have hgd:gd<w.heap.size:=h.bw.dk.lt
 refine (zey h.bw.bk (zsn hw hm) lv x hv hx (zf6 hw).2.2.2 (fun k hk=>(h.D k hk).2) hgd).mono ?_
 rintro e w' ⟨rfl,L',hpf,hb,ha,hnw⟩
 have hbl:Below B w w':=Alt.toBelow ha (fun k _ hk=>h.mt (Mb.mt hk g gd _)) h.bw.b0l
 have ne1:∀ {k:Nat} {t:TypeId} {cs:Array Value},Blk w k t cs→t≠155→¬ Mb bm L k:=by
  rintro k t cs hk ht (e|e|e)
  ·exact h.bw.bk.map.ne_blk hk e.symm
  ·obtain ⟨l,hl,rfl⟩:=List.mem_map.1 e
   exact Blk.ne_ hk (h.bw.bk.sh l hl).1 ht rfl
  ·obtain ⟨l,hl,rfl⟩:=List.mem_map.1 e
   exact (h.bw.bk.sh l hl).2.1.ne_blk hk rfl
 refine ⟨rfl,L',⟨⟨hb,h.bw.dk.kept ha (ne1 h.bw.dk (by decide)),?_,h.bw.ok,h.bw.fu,h.bw.up,h.bw.sf,Nat.le_trans h.bw.b0l ha.size⟩,h.hg,fun l hl=>?_⟩,zsm hpf,hbl,ha⟩
 ·refine h.bw.own.keep ha fun k hk=>?_
  rcases h.bw.own.2 with ⟨e,_⟩|⟨g',cap,cur,e,_,hh,_⟩
  ·rw[e] at hk;cases hk
  ·have e2:g'=k:=by rw[e] at hk;simpa [Value.ownBlock] using hk
   subst e2
   exact ne1 (show Blk w g' 5 _ from hh) (by decide)
 ·rcases hnw l hl with ⟨l0,h0,e1,e2⟩|⟨h1,h2⟩
  ·rw[← e1, ← e2];exact h.hl l0 h0
  ·exact ⟨Nat.le_trans h.bw.b0l h1,Nat.le_trans h.bw.b0l h2⟩
theorem zf7 {w:World}{B g gd bm c:Nat}{A:Option Addr}{S:St}{f:Int}{L:List Ly}(h:Bz w B g gd bm A c S f L)(kind:Int)(name:ByteArray)(version:Nat)(hk:kind=2∨kind=3)(hv:version≤1000000){r:Int}(hr:refC (L.map Ly.s) kind name version=r)(hr0:(r == 0)=false) :
  Calls Tryz.prog 25 #[.pointer (some ⟨g,0,none⟩),.agg (noteV kind name version 0 (.slice none 0 0))] w fun e w'=>e = .returned (.int .i64 r)∧Below w.heap.size w w':=by
 have HBW:=hid h
 have HR:Hid (refOf L kind name version=r):=hid (by rw[← zh3];exact hr)
 have HK:=hid hk
 clear h hr hk
 go_enter Tryz.func25,Tryz.ntmps25
 unfold noteV
 go_upto_region 1 with fail
 have HN:Hid (Blk (w.alloc (.cells #[.int .i64 kind,.string name,.int .i64 (version:Int),.int .i64 0,.slice none 0 0] 107)) w.heap.size 107 (noteV kind name version 0 (.slice none 0 0))):=hid (Blk.new w _ _)
 have HB:Hid (Below w.heap.size w (w.alloc (.cells #[.int .i64 kind,.string name,.int .i64 (version:Int),.int .i64 0,.slice none 0 0] 107))):=hid (Below.new1 w _)
 generalize w.alloc (.cells #[.int .i64 kind,.string name,.int .i64 (version:Int),.int .i64 0,.slice none 0 0] 107)=W1 at HN HB ⊢
 obtain ⟨⟨n0,n1,n2,n3,n4⟩,nz⟩:=zap HN.out
 go_wp2_with (go_at_call 53;refine (zdr (zaf HBW.out.bw.bk HB.out) kind name version 0 (.slice none 0 0) HK.out (by omega) rfl).mono ?_;rintro e w5 ⟨rfl,hb5⟩;rw[HR.out];have HB5:=hid hb5;clear hb5)
 go_ret
 exact ⟨rfl,HB.out.trans (HB5.out.mono HB.out.size)⟩
theorem znq {w:World}{B g gd bm c:Nat}{A:Option Addr}{S:St}{f:Int}{L:List Ly}(h:Bz w B g gd bm A c S f L)(hw:WF (L.map Ly.s)){n:Nt}(hn:NtOk n)(hk:n.kind=2∨n.kind=3)(hr:refC (L.map Ly.s) n.kind n.name n.version=0)(hfit:S.xs.length+(recN n).length≤S.room) :
  Calls Tryz.prog 25 #[.pointer (some ⟨g,0,none⟩),.agg (noteV n.kind n.name n.version 0 (.slice none 0 0))] w fun e w'=>e = .returned (.int .i64 0)∧∃ A' c' f' L',Bz w' B g gd bm A' c' (addS S (recN n)) f' L'∧L'.map Ly.s=pfC (L.map Ly.s) n∧BK B w w':=by
 have HBW:=hid h
 have HR:Hid (refOf L n.kind n.name n.version=0):=hid (by rw[← zh3];exact hr)
 have HM:Hid (mayC (L.map Ly.s) n):=hid (.inr ⟨hk,hr⟩)
 have HK:=hid hk
 have HK1:Hid (∀ (W:World) (far:Nat→Prop) (x:Value),n.kind=1→RowIs W far x n.ms):=hid fun _ _ _ e=>by rw[e] at hk;rcases hk with e|e <;> cases e
 have HW:=hid hw
 have HOK:=hid hn
 have HFIT:=hid hfit
 have hver:=hn.ver
 clear h hr hk hw hn hfit
 go_enter Tryz.func25,Tryz.ntmps25
 unfold noteV
 go_upto_region 1 with fail
 have HN:Hid (Blk (w.alloc (.cells #[.int .i64 n.kind,.string n.name,.int .i64 (n.version:Int),.int .i64 0,.slice none 0 0] 107)) w.heap.size 107 (noteV n.kind n.name n.version 0 (.slice none 0 0))):=hid (Blk.new w _ _)
 have HB:Hid (Below w.heap.size w (w.alloc (.cells #[.int .i64 n.kind,.string n.name,.int .i64 (n.version:Int),.int .i64 0,.slice none 0 0] 107))):=hid (Below.new1 w _)
 generalize w.alloc (.cells #[.int .i64 n.kind,.string n.name,.int .i64 (n.version:Int),.int .i64 0,.slice none 0 0] 107)=W1 at HN HB ⊢
 obtain ⟨⟨n0,n1,n2,n3,n4⟩,nz⟩:=zap HN.out
 have HNM:Hid (¬ Mt g gd bm (Value.slice A S.xs.length c).ownBlock L w.heap.size):=hid fun hm=>Nat.lt_irrefl _ (HBW.out.mtlt hm)
 go_wp2_with (first
  |(go_at_call 53;refine (zdr (zaf HBW.out.bw.bk HB.out) n.kind n.name n.version 0 (.slice none 0 0) HK.out (by omega) rfl).mono ?_;rintro e w5 ⟨rfl,hb5⟩;rw[HR.out];have HB5:=hid (HB.out.trans (hb5.mono HB.out.size));obtain ⟨⟨m0,m1,m2,m3,m4⟩,mz⟩:=zap (zac HN.out hb5);have HN5:=hid (zac HN.out hb5);clear hb5)
  |(go_at_call 33;refine (zsq (HBW.out.below HB5.out) HOK.out 0 (X:=none) (lx:=0) (cx:=0) (HK1.out _ _ _) HFIT.out).mono ?_;rintro e w6 ⟨rfl,A',c',f',hz6,hb6,_,ha6⟩;dsimp only;obtain ⟨⟨k0,k1,k2,k3,k4⟩,kz⟩:=zap (HN5.out.kept ha6 HNM.out);have HZ6:=hid hz6;have HB6:=hid ((HBW.out.below HB5.out).bk_ ha6);clear hz6 hb6 ha6)
  |(go_at_call 34;refine (zl9 HZ6.out HW.out HM.out (by omega) 0 (.slice none 0 0) (HK1.out _ _ _)).mono ?_;rintro e w7 ⟨rfl,L',hz7,hc7,hb7,ha7⟩;have HZ7:=hid hz7;have HC7:=hid hc7;have HB7:=hid (HZ6.out.bk_ (ha7.mono fun k hk=>hk.mt g gd _));clear hz7 hc7 hb7 ha7))
 go_ret
 exact ⟨rfl,A',c',f',L',HZ7.out,HC7.out,(BK.of HB5.out HBW.out.bw.b0l).trans (HB6.out.trans HB7.out)⟩
theorem zqk {w:World}{g:Nat}{old cs:Array Value}{t:TypeId}(hg:w.heap[g]? = some (.cells old t (0,0))):Blk (w.setRow g cs) g t cs∧Alt w (w.setRow g cs) (fun k=>k=g)∧(w.setRow g cs).heap.size=w.heap.size:=by
 refine ⟨?_,⟨rfl,rfl,rfl,by simp[World.setRow],fun k _ hk=>?_⟩,by simp[World.setRow]⟩
 ·show (w.heap.modify g _)[g]? = _
  rw[Array.getElem?_modify,if_pos rfl,hg]
  rfl
 ·show (w.heap.modify g _)[k]? = _
  rw[Array.getElem?_modify,if_neg (fun e=>hk e.symm)]
section
variable {ops:Array Oper}{o:Oper}{a:Act}{K:Act→World→Prop}{Q:Exit→Act→World→Prop}
theorem zma (w:World)(t:TypeId)(p v:Operand)(ho:o.op = .store t p v)(g:Nat)(old cs:Array Value)(t':TypeId)(hp:a.eval p = .pointer (some ⟨g,0,none⟩))(hv:a.eval v = .agg cs)
  (hg:w.heap[g]? = some (.cells old t' (0,0))) (hi:(Tryz.prog.info? t).map (·.size)=some cs.size) (hs:old.size=cs.size) (h1:cs.all (·.oneCell')=true)
  (hK:∀ w',Blk w' g t' cs→Alt w w' (fun k=>k=g)→w'.heap.size=w.heap.size→K (a.put o.dst undef) w'):Oper.wp Tryz.prog o a w K Q:=by
 have hrun:=run_storeVar_row (P:=Tryz.prog) w g t' t old cs hg hi hs h1
 obtain ⟨h2,h3,h4⟩:=zqk (cs:=cs) hg
 unfold Oper.wp
 simp[execOp,ho,hp,hv,Instr.storeAt,Instr.sureAddr,hrun,Result.andThen]
 exact hK _ h2 h3 h4
theorem zh6 (w:World)(t:TypeId)(p:Operand)(ho:o.op = .load t p)(g:Nat)(cs:Array Value)(t':TypeId)(fr:Nat×Nat)(d:TypeDesc)(hp:a.eval p = .pointer (some ⟨g,0,none⟩))
  (hg:w.heap[g]? = some (.cells cs t' fr)) (hu:Tryz.prog.underlying t=some d) (hd:(match d with | .struct _ | .array _ _=>true|_=>false)=true) (hi:(Tryz.prog.info? t).map (·.size)=some cs.size)
  (hK:K (a.put o.dst (.agg cs)) w):Oper.wp Tryz.prog o a w K Q:=by
 have hrun:=run_loadVar_row (P:=Tryz.prog) w g t' t cs fr d hg hu (by cases d <;> first|rfl|cases hd) hi
 unfold Oper.wp
 simp[execOp,ho,hp,Instr.loadAt,Instr.sureAddr,hrun,Result.andThen]
 exact hK
theorem za0 {rest:List Oper}(w:World)(hgd:o.guard=none)(t:TypeId)(p v:Operand)(ho:o.op = .store t p v)(g:Nat)(old cs:Array Value)(t':TypeId)(hp:a.eval p = .pointer (some ⟨g,0,none⟩))(hv:a.eval v = .agg cs)
  (hg:w.heap[g]? = some (.cells old t' (0,0))) (hi:(Tryz.prog.info? t).map (·.size)=some cs.size) (hs:old.size=cs.size) (h1:cs.all (·.oneCell')=true)
  (hK:∀ w',Blk w' g t' cs→Alt w w' (fun k=>k=g)→w'.heap.size=w.heap.size→wpList Tryz.prog ops Q rest (a.put o.dst undef) w'):wpList Tryz.prog ops Q (o :: rest) a w:=by
 refine wpList_plain hgd fun K' hK'=>?_
 exact zma w t p v ho g old cs t' hp hv hg hi hs h1 fun w' h2 h3 h4=>hK' _ _ (hK w' h2 h3 h4)
theorem za2 {rest:List Oper}(w:World)(hgd:o.guard=none)(t:TypeId)(p:Operand)(ho:o.op = .load t p)(g:Nat)(cs:Array Value)(t':TypeId)(fr:Nat×Nat)(d:TypeDesc)(hp:a.eval p = .pointer (some ⟨g,0,none⟩))
  (hg:w.heap[g]? = some (.cells cs t' fr)) (hu:Tryz.prog.underlying t=some d) (hd:(match d with | .struct _ | .array _ _=>true|_=>false)=true) (hi:(Tryz.prog.info? t).map (·.size)=some cs.size)
  (hK:wpList Tryz.prog ops Q rest (a.put o.dst (.agg cs)) w):wpList Tryz.prog ops Q (o :: rest) a w:=by
 refine wpList_plain hgd fun K' hK'=>?_
 exact zh6 w t p ho g cs t' fr d hp hg hu hd hi (hK' _ _ hK)
end
theorem zdu {ops:Array Oper}{o:Oper}{a:Act}{Q:Exit→Act→World→Prop}{rest:List Oper}(w:World)(hgd:Region.wanted o (yielded ops a.tmps)=true)(t:TypeId)(p:Operand)(ho:o.op = .load t p)(g:Nat)(cs:Array Value)(t':TypeId)(fr:Nat×Nat)(d:TypeDesc)(hp:a.eval p = .pointer (some ⟨g,0,none⟩))
  (hg:w.heap[g]? = some (.cells cs t' fr)) (hu:Tryz.prog.underlying t=some d) (hd:(match d with | .struct _ | .array _ _=>true|_=>false)=true) (hi:(Tryz.prog.info? t).map (·.size)=some cs.size)
  (hK:wpList Tryz.prog ops Q rest (a.put o.dst (.agg cs)) w):wpList Tryz.prog ops Q (o :: rest) a w:=by
 refine wpList_step fun K' hK'=>?_
 rw[if_pos hgd]
 exact zh6 w t p ho g cs t' fr d hp hg hu hd hi (hK' _ _ hK)
structure MOk (w:World)(cs:Array Value)(ms:List Int):Prop where
 size:cs.size=59
 check:∀ w',Below w.heap.size w w'→Calls Tryz.prog 28 #[.agg cs] w' fun e w''=>e = .returned (.int .i64 0)∧Below w'.heap.size w' w''
 lay:∀ w',Below w.heap.size w w'→Calls Tryz.prog 31 #[.agg cs] w' fun e w''=>∃ ad c,e = .returned (.tuple #[.slice (some ad) ms.length c,.int .i64 0])∧Rb w'' (some ad) ms∧RowR w'' ad c ms∧w'.heap.size≤ad.block∧Below w'.heap.size w' w''
theorem zuo {w:World}{B g gd bm c:Nat}{A:Option Addr}{S:St}{f:Int}{L:List Ly}(h:Bz w B g gd bm A c S f L)(hw:WF (L.map Ly.s)){name:ByteArray}{v:Nat}{ms:List Int}{cs:Array Value}(hn:NtOk ⟨1,name,v,ms⟩)(hv:v=nextC (L.map Ly.s) name)(hfu:fullC (L.map Ly.s) name=false)(hm:MOk w cs ms)
  (hfit:S.xs.length+(recN ⟨1,name,v,ms⟩).length≤S.room) :
  Calls Tryz.prog 16 #[.pointer (some ⟨g,0,none⟩),.string name,.agg cs] w fun e w'=>e = .returned (.tuple #[.int .i64 (v:Int),.int .i64 0])∧∃ A' c' f' L',Bz w' B g gd bm A' c' (addS S (recN ⟨1,name,v,ms⟩)) f' L'∧L'.map Ly.s=pfC (L.map Ly.s) ⟨1,name,v,ms⟩∧BK B w w':=by
 have HBW:=hid h
 have HFU:Hid (fullOf L name=false):=hid (by rw[← zkn];exact hfu)
 have HNX:Hid (nextOf L name=v):=hid (by rw[← zfm];exact hv.symm)
 have HMAY:Hid (mayC (L.map Ly.s) ⟨1,name,v,ms⟩):=hid (.inl ⟨rfl,hv,hfu⟩)
 have HW:=hid hw
 have HOK:=hid hn
 have HM:=hid hm
 have HLN:Hid (L.length≤100000):=hid (zf6 hw).2.2.1
 have HFIT:=hid hfit
 have hver:v≤100000:=hn.ver
 clear h hfu hv hw hn hm hfit
 go_enter Tryz.func16,Tryz.ntmps16
 have HMC:Hid (Blk (w.alloc (.cells cs 88)) w.heap.size 88 cs):=hid (Blk.new w _ _)
 have HB:Hid (Below w.heap.size w (w.alloc (.cells cs 88))):=hid (Below.new1 w _)
 have HI:Hid ((Tryz.prog.info? 88).map (·.size)=some cs.size):=hid (by rw[HM.out.size];exact zau)
 go_upto_region 1 with fail
 generalize w.alloc (.cells cs 88)=W1 at HMC HB ⊢
 go_upto_region 8 with (first
  |(go_at_call 27;refine (HOK.out.is _).mono ?_;rintro e w1 ⟨rfl,hb1⟩;have HB1:=hid (HB.out.trans (hb1.mono HB.out.size));have HM1:=hid (zac HMC.out hb1);clear hb1)
  |(go_at_call 28;refine (HM.out.check w1 HB1.out).mono ?_;rintro e w2 ⟨rfl,hb2⟩;have HB2:=hid (HB1.out.trans (hb2.mono HB1.out.size));have HM2:=hid (zac HM1.out hb2);clear hb2)
  |(go_at_call 29;refine (zkh (zaf HBW.out.bw.bk HB2.out) HLN.out name).mono ?_;rintro e w3 ⟨rfl,hb3⟩;rw[HFU.out];have HB3:=hid (HB2.out.trans (hb3.mono HB2.out.size));have HM3:=hid (zac HM2.out hb3);clear hb3)
  |(go_at_call 30;refine (zfl (zaf HBW.out.bw.bk HB3.out) name).mono ?_;rintro e w4 ⟨rfl,hb4⟩;rw[HNX.out];have HB4:=hid (HB3.out.trans (hb4.mono HB3.out.size));have HM4:=hid (zac HM3.out hb4);clear hb4)
  |(refine za2 _ rfl 88 _ rfl w.heap.size cs 88 (0,0) _ rfl (by first|exact HM4.out|exact HM3.out|exact HM1.out) Tryz.underlying88 rfl HI.out ?_))
 have HN4:Hid (Blk (w4.alloc (.cells #[.int .i64 1,.string name,.int .i64 (v:Int),.int .i64 0,.slice none 0 0] 107)) w4.heap.size 107 (noteV 1 name v 0 (.slice none 0 0))):=hid (Blk.new w4 _ _)
 have HB5:Hid (Below w.heap.size w (w4.alloc (.cells #[.int .i64 1,.string name,.int .i64 (v:Int),.int .i64 0,.slice none 0 0] 107))):=hid (HB4.out.alloc HB4.out.size _)
 have HM5:Hid (Blk (w4.alloc (.cells #[.int .i64 1,.string name,.int .i64 (v:Int),.int .i64 0,.slice none 0 0] 107)) w.heap.size 88 cs):=hid (HM4.out.alloc _)
 have HW4:Hid (w.heap.size≤w4.heap.size):=hid HB4.out.size
 generalize w4.alloc (.cells #[.int .i64 1,.string name,.int .i64 (v:Int),.int .i64 0,.slice none 0 0] 107)=W5 at HN4 HB5 HM5 ⊢
 have HS5:Hid (w4.heap.size<W5.heap.size):=hid HN4.out.lt
 have HNM:Hid (∀ k,w.heap.size≤k→¬ Mt g gd bm (Value.slice A S.xs.length c).ownBlock L k):=hid fun k hk hm=>by have h1:k<w.heap.size:=HBW.out.mtlt hm;omega
 have HW7F:Hid (∀ (w6:World) (gm:Addr) (cm:Nat),Blk w6 w4.heap.size 107 (noteV 1 name v 0 (.slice none 0 0))→Below w.heap.size w w6→Rb w6 (some gm) ms→RowR w6 gm cm ms→W5.heap.size≤gm.block→Blk (w6.setCell ⟨w4.heap.size,4,none⟩ (.slice (some gm) ms.length cm)) w4.heap.size 107 (noteV 1 name v 0 (.slice (some gm) ms.length cm)) ∧
   Below w.heap.size w (w6.setCell ⟨w4.heap.size,4,none⟩ (.slice (some gm) ms.length cm))∧RowIs (w6.setCell ⟨w4.heap.size,4,none⟩ (.slice (some gm) ms.length cm)) (Mt g gd bm (Value.slice A S.xs.length c).ownBlock L) (.slice (some gm) ms.length cm) ms):=hid fun w6 gm cm h1 h2 h3 h3r h4=>by
  have h5:=HW4.out
  have h6:=HS5.out
  refine ⟨h1.set_ 4 _,h2.setCell (p:=⟨w4.heap.size,4,none⟩) h5 _,⟨_,cm,rfl,(HOK.out.md rfl).2.1,?_,HNM.out gm.block (by omega),h3r.keep (Below.heap_setCell w6 ⟨w4.heap.size,4,none⟩ _ gm.block (by show gm.block≠w4.heap.size;omega))⟩⟩
  exact h3.keep (p:=fun k=>k=w4.heap.size) ((Alt.refl w6 (fun k=>k=w4.heap.size)).set_ (a:=⟨w4.heap.size,4,none⟩) rfl _) (fun ad e hh=>by injection e with e;subst e;omega)
 go_wp2_with (first
  |(refine za2 _ rfl 88 _ rfl w.heap.size cs 88 (0,0) _ rfl (by exact HM5.out) Tryz.underlying88 rfl HI.out ?_)
  |(go_at_call 31;refine (HM.out.lay W5 HB5.out).mono ?_;rintro e w6 ⟨gm,cm,rfl,hr6,hrr6,hg6,hb6⟩;have HR6:=hid hr6;have HRR6:=hid hrr6;have HG6:=hid hg6;have HB6:=hid (HB5.out.trans (hb6.mono HB5.out.size));have HN6:=hid (zac HN4.out hb6);obtain ⟨⟨n0,n1,n2,n3,n4⟩,nz⟩:=zap HN6.out;have HW7:=hid (HW7F.out w6 gm cm HN6.out HB6.out HR6.out HRR6.out HG6.out);clear hr6 hrr6 hg6 hb6)
  |(go_at_call 33;go_loud (refine (zsq (n:=⟨1,name,v,ms⟩) (HBW.out.below HW7.out.2.1) HOK.out 0 (fun _=>HW7.out.2.2) HFIT.out).mono ?_;rintro e w8 ⟨rfl,A',c',f',hz8,hb8,hx8,ha8⟩;dsimp only;obtain ⟨⟨k0,k1,k2,k3,k4⟩,kz⟩:=zap (HW7.out.1.kept ha8 (HNM.out _ HW4.out));have HZ8:=hid hz8;have HB8:=hid ((HBW.out.below HW7.out.2.1).bk_ ha8);have HX8:=hid hx8;have HN8:=hid (HW7.out.1.kept ha8 (HNM.out _ HW4.out));clear hz8 hb8 hx8 ha8))
  |(go_at_call 34;go_loud (refine (zl9 (n:=⟨1,name,v,ms⟩) HZ8.out HW.out HMAY.out hver 0 _ HX8.out).mono ?_;rintro e w9 ⟨rfl,L',hz9,hc9,hb9,ha9⟩;have j2:=(zap (HN8.out.kept ha9 (fun hm=>HNM.out _ HW4.out (hm.mt g gd _)))).1.2.2.1;have HZ9:=hid hz9;have HC9:=hid hc9;have HB9:=hid (HZ8.out.bk_ (ha9.mono fun k hk=>hk.mt g gd _));clear hz9 hc9 hb9 ha9)))
 go_ret2
 exact ⟨rfl,A',c',f',L',HZ9.out,HC9.out,(BK.of HW7.out.2.1 HBW.out.bw.b0l).trans (HB8.out.trans HB9.out)⟩
theorem znr {w:World}{b0 n c:Nat}{A:Option Addr}{xs:List Int}(h:Own w b0 (.slice A n c) xs):c≤9223372036854775807:=by
 rcases h.2 with ⟨e,_⟩|⟨g',cap,cur,e,_,_,_,h4,_⟩
 ·injection e with _ _ e3;omega
 ·injection e with _ _ e3
  unfold maxLen at h4
  omega
structure Wk (k:Nat)(C:Con):Prop where
 len:C.length≤k
 nd:(C.map Sh.name).Nodup
 sh:∀ s∈C,s.vs.length≤k∧1≤s.next∧s.next≤k+1∧s.live≤k∧(∀ p∈s.vs,p.1<s.next)∧(s.vs.length=0→s.live=0)∧(0<s.vs.length→hasV s s.live=true∧s.vs.length≤40)
 num:(C.filter (fun s=>decide (0<s.vs.length))).length≤20
theorem Wk.wf {k:Nat}{C:Con}(h:Wk k C)(hk:k≤900):WF C :=
 ⟨by have:=h.len;omega,fun s hs=>by obtain ⟨h1,h2,h3,h4,h5,h6,h7⟩:=h.sh s hs;exact ⟨by omega,by omega,by omega,h5,h6,h7⟩,h.num⟩
theorem Wk.nil:Wk 0 []:=⟨Nat.le_refl _,List.nodup_nil,(fun _ h=>by cases h),by simp⟩
theorem Wk.mono {k k':Nat}{C:Con}(h:Wk k C)(hk:k≤k'):Wk k' C :=
 ⟨Nat.le_trans h.len hk,h.nd,fun s hs=>by obtain ⟨h1,h2,h3,h4,h5,h6,h7⟩:=h.sh s hs;exact ⟨by omega,h2,by omega,by omega,h5,h6,h7⟩,h.num⟩
theorem zby {C:Con}{name:ByteArray}{s:Sh}(h:fndC C name=some s):s∈C∧s.name=name:=⟨List.mem_of_find?_eq_some h,by simpa using List.find?_some h⟩
theorem zd7 {C:Con}{name:ByteArray}(h:fndC C name=none):∀ s∈C,s.name≠name:=fun s hs=>by simpa using List.find?_eq_none.1 h s hs
theorem zf8 (C:Con)(name:ByteArray)(s':Sh)(h:s'.name=name):(updC C name s').map Sh.name=C.map Sh.name:=by
 unfold updC
 rw[List.map_map]
 refine List.map_congr_left fun s _=>?_
 show (if s.name=name then s' else s).name=s.name
 split
 ·next e=>rw[h,e]
 ·rfl
theorem zc3 {C:Con}{name:ByteArray}{s' x:Sh}(h:x∈updC C name s'):x=s'∨(x∈C∧x.name≠name):=by
 obtain ⟨s,hs,e⟩:=List.mem_map.1 h
 split at e
 ·exact .inl e.symm
 ·next hne=>exact .inr ⟨by rw[← e];exact hs,by rw[← e];exact hne⟩
theorem zwx (bs:ByteArray):∀ (n i:Nat) (r:List UInt8),n=bs.size - i→ByteArray.toList.loop bs i r=r.reverse++bs.data.toList.drop i:=by
 intro n
 induction n with
 |zero =>
  intro i r h
  rw[ByteArray.toList.loop,if_neg (by omega),List.drop_of_length_le (by show bs.data.size≤i;have:bs.size=bs.data.size:=rfl;omega),List.append_nil]
 |succ n ih =>
  intro i r h
  have hi:i<bs.data.size:=by have:bs.size=bs.data.size:=rfl;omega
  rw[ByteArray.toList.loop,if_pos (by omega),ih (i+1) _ (by omega),List.drop_eq_getElem_cons (l:=bs.data.toList) (i:=i) (by simpa using hi)]
  have:bs.get! i=bs.data.toList[i]'(by simpa using hi):=by
   show bs.data[i]! = _
   rw[getElem!_pos bs.data i hi];rfl
  rw[this]
  simp
theorem zfn (bs:ByteArray):bs.toList=bs.data.toList:=by
 unfold ByteArray.toList
 rw[zwx bs _ 0 [] rfl];simp
theorem zjk {a b:ByteArray}(h:a.toList=b.toList):a=b:=by
 rw[zfn,zfn] at h
 exact ByteArray.ext (Array.toList_inj.1 h)
theorem zj1 (p:Sh→Bool):∀ (C:Con) (name:ByteArray) (s s':Sh),(C.map Sh.name).Nodup→s∈C→s.name=name→s'.name=name →
  ((updC C name s').filter p).length+(if p s=true then 1 else 0)=(C.filter p).length+(if p s'=true then 1 else 0):=by
 intro C
 induction C with
 |nil=>intro _ _ _ _ h;cases h
 |cons x C ih =>
  intro name s s' hn hs e1 e2
  rw[List.map_cons,List.nodup_cons] at hn
  rcases List.mem_cons.1 hs with rfl|hs'
  ·have hrest:updC C name s'=C:=by
    unfold updC
    conv=>rhs;rw[← List.map_id C]
    refine List.map_congr_left fun y hy=>?_
    rw[if_neg];rfl
    intro e
    exact hn.1 (List.mem_map.2 ⟨y,hy,by rw[e,e1]⟩)
   have:updC (s :: C) name s'=s' :: C:=by
    show (if s.name=name then s' else s) :: updC C name s'=_
    rw[if_pos e1,hrest]
   rw[this,List.filter_cons,List.filter_cons]
   cases p s <;> cases p s' <;> simp
  ·have hx:x.name≠name:=fun e=>hn.1 (List.mem_map.2 ⟨s,hs',by rw[e1,e]⟩)
   have:updC (x :: C) name s'=x :: updC C name s':=by
    show (if x.name=name then s' else x) :: updC C name s'=_
    rw[if_neg hx]
   have:=ih name s s' hn.2 hs' e1 e2
   rw[‹updC (x :: C) name s'=_›,List.filter_cons,List.filter_cons]
   cases p x <;> simp only[if_true,if_false,List.length_cons,Bool.false_eq_true] <;> omega
theorem oth_le (C:Con)(name:ByteArray)(hn:(C.map Sh.name).Nodup):(C.filter (fun s=>decide (0<s.vs.length))).length≤(C.filter (othC name)).length+1:=by
 induction C with
 |nil=>simp
 |cons x C ih =>
  rw[List.map_cons,List.nodup_cons] at hn
  by_cases hx:x.name=name
  ·have h1:∀ s∈C,othC name s=decide (0<s.vs.length):=fun s hs=>by
    have:s.name≠name:=fun e=>hn.1 (List.mem_map.2 ⟨s,hs,by rw[e,hx]⟩)
    have h2:(s.name.toList == name.toList)=false:=by
     rw[beq_eq_false_iff_ne]
     intro e
     exact this (zjk e)
    unfold othC
    rw[h2];rfl
   rw[List.filter_cons,List.filter_cons]
   have h3:C.filter (othC name)=C.filter (fun s=>decide (0<s.vs.length)):=List.filter_congr h1
   rw[h3]
   split <;> split <;> simp <;> omega
  ·have:=ih hn.2
   rw[List.filter_cons,List.filter_cons]
   have h2:(x.name.toList == name.toList)=false:=by
    rw[beq_eq_false_iff_ne]
    intro e
    exact hx (zjk e)
   have h4:othC name x=decide (0<x.vs.length):=by unfold othC;rw[h2];rfl
   rw[h4]
   split <;> simp <;> omega
theorem zns {C:Con}{name:ByteArray}{s s':Sh}(hn:(C.map Sh.name).Nodup)(hs:fndC C name=some s)(hs':s'.name=name)(h:(C.filter (fun s=>decide (0<s.vs.length))).length≤20)(h2:0<s'.vs.length→0<s.vs.length∨(C.filter (othC name)).length<20) :
  ((updC C name s').filter (fun s=>decide (0<s.vs.length))).length≤20:=by
 obtain ⟨h3,h4⟩:=zby hs
 have h5:=zj1 (fun s=>decide (0<s.vs.length)) C name s s' hn h3 h4 hs'
 have h6:=oth_le C name hn
 simp only[decide_eq_true_eq] at h5
 by_cases h7:0<s'.vs.length
 ·rcases h2 h7 with h8|h8
  ·rw[if_pos h7,if_pos h8] at h5
   omega
  ·rw[if_pos h7] at h5
   by_cases h9:0<s.vs.length
   ·rw[if_pos h9] at h5;omega
   ·rw[if_neg h9] at h5
    -- those with versions are among the others
    have h10:(C.filter (fun s=>decide (0<s.vs.length))).length≤(C.filter (othC name)).length:=by
     have:C.filter (fun s=>decide (0<s.vs.length))=C.filter (othC name):=by
      refine List.filter_congr fun x hx=>?_
      by_cases hxn:x.name=name
      ·have hxs:x=s:=by
        have:∀ (C:Con),(C.map Sh.name).Nodup→x∈C→s∈C→x.name=s.name→x=s:=by
         intro C
         induction C with
         |nil=>intro _ h;cases h
         |cons y C ih =>
          intro hn hx hs e
          rw[List.map_cons,List.nodup_cons] at hn
          rcases List.mem_cons.1 hx with rfl|hx
          ·rcases List.mem_cons.1 hs with rfl|hs
           ·rfl
           ·exact absurd (List.mem_map.2 ⟨s,hs,e.symm⟩) hn.1
          ·rcases List.mem_cons.1 hs with hsy|hs
           ·exact absurd (List.mem_map.2 ⟨x,hx,by rw[e,hsy]⟩) hn.1
           ·exact ih hn.2 hx hs e
        exact this C hn hx h3 (by rw[hxn,h4])
       subst hxs
       have e1:decide (0<x.vs.length)=false:=by simpa using h9
       unfold othC
       rw[e1,Bool.and_false]
      ·have h2:(x.name.toList == name.toList)=false:=by
        rw[beq_eq_false_iff_ne]
        intro e
        exact hxn (zjk e)
       unfold othC
       rw[h2];rfl
     rw[this]
     exact Nat.le_refl _
    omega
 ·rw[if_neg h7] at h5
  omega
theorem zc4 {s:Sh}{v:Nat}:hasV s v=true↔∃ p∈s.vs,p.1=v:=by
 unfold hasV
 rw[List.any_eq_true]
 simp
theorem wk_pf {k:Nat}{C:Con}(h:Wk k C){n:Nt}(hm:mayC C n)(_hk:k≤900):Wk (k+1) (pfC C n):=by
 have h':=h.mono (Nat.le_succ k)
 rcases hm with ⟨h1,h2,h3⟩|⟨h1,h2⟩
 ·have hfull:(C.filter (othC n.name)).length<20∧numC C n.name<40:=by
   unfold fullC at h3
   simp only[Bool.or_eq_false_iff,decide_eq_false_iff_not] at h3
   omega
  unfold pfC
  rw[if_pos h1]
  rcases hf:fndC C n.name with _|s
  ·have hnx:n.version=1:=by rw[h2];unfold nextC;rw[hf]
   simp only
   refine ⟨by have:=h.len;simp;omega,?_,?_,?_⟩
   ·rw[List.map_append,List.nodup_append]
    refine ⟨h.nd,by simp,?_⟩
    intro a ha b hb
    rw[List.map_cons,List.map_nil,List.mem_singleton] at hb
    subst hb
    obtain ⟨s,hs,rfl⟩:=List.mem_map.1 ha
    exact zd7 hf s hs
   ·intro s hs
    rcases List.mem_append.1 hs with hs|hs
    ·exact h'.sh s hs
    ·rw[List.mem_singleton] at hs
     subst hs
     simp[hasV,hnx] <;> omega
   ·rw[List.filter_append,List.length_append]
    have:C.filter (fun s=>decide (0<s.vs.length))=C.filter (othC n.name):=by
     refine List.filter_congr fun x hx=>?_
     have h2:(x.name.toList == n.name.toList)=false:=by
      rw[beq_eq_false_iff_ne]
      intro e
      exact zd7 hf x hx (zjk e)
     unfold othC
     rw[h2];rfl
    rw[this]
    have:=hfull.1
    simp <;> omega
  ·obtain ⟨hsm,hsn⟩:=zby hf
   have hnx:n.version=s.next:=by rw[h2];unfold nextC;rw[hf]
   obtain ⟨s1,s2,s3,s4,s5,s6,s7⟩:=h.sh s hsm
   have hnum:s.vs.length<40:=by have:=hfull.2;unfold numC at this;rw[hf] at this;exact this
   simp only
   refine ⟨by unfold updC;rw[List.length_map];exact h'.len,by rw[zf8 C n.name _ (by exact hsn)];exact h.nd,?_,zns h.nd hf hsn h.num (fun _ => .inr hfull.1)⟩
   intro x hx
   rcases zc3 hx with rfl|⟨hx,_⟩
   ·unfold putS
    simp only[List.length_append,List.length_singleton]
    refine ⟨by omega,by omega,by omega,?_,?_,fun h=>by omega,fun _=>⟨?_,by omega⟩⟩
    ·split <;> omega
    ·intro p hp
     rcases List.mem_append.1 hp with hp|hp
     ·have:=s5 p hp;omega
     ·rw[List.mem_singleton] at hp
      subst hp
      exact Nat.lt_succ_self _
    ·rw[zc4]
     split
     ·exact ⟨(n.version,n.ms),List.mem_append.2 (.inr (List.mem_singleton.2 rfl)),rfl⟩
     ·next hne =>
      obtain ⟨p,hp,e⟩:=zc4.1 (s7 (by omega)).1
      exact ⟨p,List.mem_append.2 (.inl hp),e⟩
   ·exact h'.sh x hx
 ·have hk1:¬ n.kind=1:=by rcases h1 with h|h <;> rw[h] <;> decide
  unfold pfC
  rw[if_neg hk1]
  unfold refC at h2
  rcases hf:fndC C n.name with _|s
  ·rw[hf] at h2;cases h2
  ·rw[hf] at h2
   simp only at h2 ⊢
   obtain ⟨hsm,hsn⟩:=zby hf
   obtain ⟨s1,s2,s3,s4,s5,s6,s7⟩:=h.sh s hsm
   split at h2
   ·cases h2
   ·next hlen =>
    split at h2
    ·cases h2
    ·next hhas =>
     have hhas:hasV s n.version=true:=by cases hh:hasV s n.version <;> simp_all
     obtain ⟨p0,hp0,ep0⟩:=zc4.1 hhas
     split at h2
     ·cases h2
     ·next hdrop =>
      split
      ·refine ⟨by unfold updC;rw[List.length_map];exact h'.len,by rw[zf8 C n.name _ (by exact hsn)];exact h.nd,?_,zns h.nd hf hsn h.num (fun h => .inl h)⟩
       intro x hx
       rcases zc3 hx with rfl|⟨hx,_⟩
       ·have h9:=s5 p0 hp0
        refine ⟨by show s.vs.length≤_;omega,s2,by show s.next≤_;omega,by show n.version≤_;omega,s5,fun h=>absurd h hlen,fun h=>⟨?_,(s7 h).2⟩⟩
        rw[zc4]
        exact ⟨p0,hp0,ep0⟩
       ·exact h'.sh x hx
      ·next hk2 =>
       have hk3:n.kind=3:=by rcases h1 with h|h;exact absurd h hk2;exact h
       have hle:(s.vs.filter (fun p=>decide (p.1≠n.version))).length≤s.vs.length:=List.length_filter_le _ _
       refine ⟨by unfold updC;rw[List.length_map];exact h'.len,by rw[zf8 C n.name _ (by exact hsn)];exact h.nd,?_,zns h.nd hf hsn h.num (fun h => .inl (by unfold dropS at h;simp only at h;omega))⟩
       intro x hx
       rcases zc3 hx with rfl|⟨hx,_⟩
       ·unfold dropS
        simp only
        refine ⟨by omega,s2,by omega,by split <;> omega,fun p hp=>s5 p ((List.mem_filter.1 hp).1),fun h=>by rw[if_pos h],fun h=>⟨?_,by have:=(s7 (by omega)).2;omega⟩⟩
        rw[if_neg (by omega),zc4]
        obtain ⟨p,hp,e⟩:=zc4.1 (s7 (by omega)).1
        refine ⟨p,List.mem_filter.2 ⟨hp,?_⟩,e⟩
        rw[e]
        simp only[decide_eq_true_eq]
        intro e2
        refine hdrop ⟨hk3,e2.symm,?_⟩
        have:(s.vs.filter (fun p=>decide (p.1≠n.version))).length<s.vs.length:=by
         rw[List.length_filter_lt_length_iff_exists]
         exact ⟨p0,hp0,by simp[ep0]⟩
        omega
       ·exact h'.sh x hx
theorem zwy:∀ (ns:List Nt) (C:Con) (n:Nt),Ch C ns→mayC (ns.foldl pfC C) n→NtOk n→WF (pfC (ns.foldl pfC C) n)→Ch C (ns++[n]):=by
 intro ns
 induction ns with
 |nil=>intro C n h hm hn hw;exact ⟨h,hm,hn,hw⟩
 |cons m ns ih=>intro C n h hm hn hw;exact ⟨h.1,h.2.1,h.2.2.1,ih _ n h.2.2.2 hm hn hw⟩
abbrev con (ns:List Nt):Con:=ns.foldl pfC []
def BS (w:World)(B g gd room k:Nat)(ns:List Nt):Prop:=∃ (bm:Nat) (A:Option Addr) (c:Nat) (S:St) (f:Int) (L:List Ly),Bz w B g gd bm A c S f L∧S.xs=jl ns∧S.room=room∧L.map Ly.s=con ns∧Ch [] ns∧Wk k (con ns)∧S.xs.length≤k*20000
theorem BS.below {w w':World}{B g gd room k:Nat}{ns:List Nt}(h:BS w B g gd room k ns)(hb:Below w.heap.size w w'):BS w' B g gd room k ns:=by
 obtain ⟨bm,A,c,S,f,L,h1,h2⟩:=h
 exact ⟨bm,A,c,S,f,L,h1.below hb,h2⟩
theorem BS.more {w:World}{B g gd room k:Nat}{ns:List Nt}(h:BS w B g gd room k ns):BS w B g gd room (k+1) ns:=by
 obtain ⟨bm,A,c,S,f,L,h1,h2,h3,h4,h5,h6,h7⟩:=h
 exact ⟨bm,A,c,S,f,L,h1,h2,h3,h4,h5,h6.mono (Nat.le_succ k),Nat.le_trans h7 (Nat.mul_le_mul_right _ (Nat.le_succ k))⟩
theorem BS.wk {w:World}{B g gd room k:Nat}{ns:List Nt}(h:BS w B g gd room k ns):Wk k (con ns):=by
 obtain ⟨bm,A,c,S,f,L,h1,h2,h3,h4,h5,h6,h7⟩:=h
 exact h6
def DS (w:World)(B gd room k:Nat)(ns:List Nt):Prop:=∃ (A:Option Addr) (c:Nat) (S:St) (f:Int),Blk w gd 93 (pc (.slice A S.xs.length c) S f)∧Own w B (.slice A S.xs.length c) S.xs∧Ok S∧S.fuse=none∧S.dead=false∧S.safe=S.xs.length∧(B≤gd∧B≤w.heap.size)∧S.xs=jl ns∧S.room=room∧Ch [] ns∧Wk k (con ns)∧S.xs.length≤k*20000
theorem DS.below {w w':World}{B gd room k:Nat}{ns:List Nt}(h:DS w B gd room k ns)(hb:Below w.heap.size w w'):DS w' B gd room k ns:=by
 obtain ⟨A,c,S,f,h1,h2,h3,h4,h5,h6,h7,h8⟩:=h
 exact ⟨A,c,S,f,zac h1 hb,zar h2 hb,h3,h4,h5,h6,⟨h7.1,Nat.le_trans h7.2 hb.size⟩,h8⟩
theorem BS.ds {w:World}{B g gd room k:Nat}{ns:List Nt}(h:BS w B g gd room k ns):DS w B gd room k ns:=by
 obtain ⟨bm,A,c,S,f,L,h1,h2,h3,h4,h5,h6,h7⟩:=h
 exact ⟨A,c,S,f,h1.bw.dk,h1.bw.own,h1.bw.ok,h1.bw.fu,h1.bw.up,h1.bw.sf,⟨h1.hg.2.1,h1.bw.b0l⟩,h2,h3,h5,h6,h7⟩
theorem zup (n m:Int)(h0:0<m):(if n.tmod m<0 then n.tmod m+m else n.tmod m)=n % m:=by
 have h1:=Int.emod_nonneg n (by omega:m≠0)
 have h2:=Int.emod_lt_of_pos n h0
 by_cases hn:0≤n
 ·rw[Int.tmod_eq_emod_of_nonneg hn,if_neg (by omega)]
 ·have e:=Int.tmod_eq_emod (a:=n) (b:=m)
  by_cases hd:m ∣ n
  ·rw[if_pos (.inr hd)] at e
   rw[e,if_neg (by omega)];omega
  ·rw[if_neg (by rintro (h|h) <;> contradiction)] at e
   have:(m.natAbs:Int)=m:=by omega
   rw[e,if_pos (by omega)];omega
theorem pick_any (n m:Int)(w:World)(h0:0<m)(h1:m≤1000000) :
  Calls Tryz.prog 6 #[.int .i64 n,.int .i64 m] w fun e w'=>e = .returned (.int .i64 (n % m))∧w=w':=by
 have hm0:(m == 0)=false:=by simp;omega
 have hf:=hid (zup n m h0)
 have hb : -m<n.tmod m∧n.tmod m<m:=by
  have:=Int.tmod_lt_of_pos n h0
  have h3:=Int.lt_tmod_of_pos n h0
  omega
 obtain ⟨hb1,hb2⟩:=hb
 go_enter Tryz.func6,Tryz.ntmps6
 go_wp2
 ·go_ret
  refine ⟨zrz ?_,rfl⟩
  rw[← hf.out,if_pos (by assumption)]
  done
 ·go_ret
  refine ⟨zrz ?_,rfl⟩
  rw[← hf.out,if_neg (by omega)]
def Acts (w:World)(L:Option Addr)(n:Nat):Prop:=0<n→∃ ad,L=some ad∧ad.block<w.heap.size∧∀ k,k<n→∃ a b c d:Int,w.cell? (ad.add (k*4))=some (.int .i64 a)∧w.cell? (ad.add (k*4+1))=some (.int .i64 b)∧w.cell? (ad.add (k*4+2))=some (.int .i64 c)∧w.cell? (ad.add (k*4+3))=some (.int .i64 d)
theorem zh7 (ad:Addr)(k j:Nat)(hj:0<j):(⟨(ad.add k).block,(ad.add k).off+j,none⟩:Addr)=ad.add (k+j):=by
 unfold Addr.add
 by_cases hk:k=0
 ·subst hk
  simp[show ¬ j=0 by omega]
 ·simp[hk,Nat.add_assoc]
theorem zwz (A:Option Addr)(n c m:Nat)(w:World)(hn:n≤c)(hn2:n≤9223372036854775807)(hA:A=none→n=0)(hm:m≤1000) :
  Calls Tryz.prog 4 #[.slice A n c,.int .i64 (m:Int)] w fun e w'=>e = .returned (.slice A (min n m) c)∧w'=w:=by
 rcases (show m<n∨n≤m by omega) with h|h
 ·have hc:m≤c:=by omega
  cases A with
  |none=>have:=hA rfl;omega
  |some ad =>
   have e:min n m=m:=by omega
   rw[e]
   go_enter Tryz.func4,Tryz.ntmps4
   go_wp2
   go_ret
   exact ⟨by simp,rfl⟩
 ·have e:min n m=n:=by omega
  rw[e]
  cases A with
  |none =>
   have h0:=hA rfl
   subst h0
   go_enter Tryz.func4,Tryz.ntmps4
   go_wp2
   go_ret
   exact ⟨by simp,rfl⟩
  |some ad =>
   go_enter Tryz.func4,Tryz.ntmps4
   go_wp2
   go_ret
   exact ⟨by simp,rfl⟩
def Know:Prop:=∀ w:World,Calls Tryz.prog 8 #[] w fun e w'=>e = .returned (.bool true)∧Below w.heap.size w w'
def IsOk (name:ByteArray):Prop:=∀ W:World,Calls Tryz.prog 27 #[.string name] W fun e w'=>e = .returned (.bool true)∧Below W.heap.size W w'
end Go.Proofs.YtmejdkniafjncaaGreatDoor.Oc
namespace Go.Proofs.YtmejdkniafjncaaGreatDoor.Dk
open Go Go.RowKit Go.ChangeShapes Go.WideShapes
abbrev Acts:=Oc.Acts
section
variable {H:Type}{enc:TypeId×Value→H}{w:World}
theorem zh8 {fuel:Nat}{cs:List Value}{x:DataW H×List MemPlace}(h:DataW.trod enc Tryz.prog w 0 (fun _=>true) true fuel 41 cs=some x) :
  ∀ j,j<4→∃ a:Int,cs[j]? = some (.int .i64 a):=by
 obtain ⟨xs,n,_,_,_,hlen,hg⟩:=DataW.trod_struct Tryz.underlying41 h
 intro j hj
 have one:∀ f:Field,f.type=3→f.offset=j→DataW.trod enc Tryz.prog w 0 (fun _=>true) true n f.type ((cs.drop f.offset).take (Tryz.prog.cellsOf f.type))=xs[j]? → (∃ y,xs[j]? = some y)→∃ a:Int,cs[j]? = some (.int .i64 a):=by
  intro f e1 e2 hf ⟨y,hy⟩
  rw[hy,e1,e2] at hf
  obtain ⟨a,hc,_⟩:=DataW.trod_int Tryz.underlying3 hf
  refine ⟨a,?_⟩
  have h0:=congrArg (·[0]?) hc
  simp only[List.getElem?_cons_zero] at h0
  rw[List.getElem?_take_of_lt (by rw[show Tryz.prog.cellsOf 3=1 by kernel_rfl];omega),List.getElem?_drop] at h0
  simpa using h0
 have hl:xs.length=4:=hlen
 have some_:∃ y,xs[j]? = some y:=⟨xs[j]'(by omega),List.getElem?_eq_getElem (by omega)⟩
 match j,hj with
 | 0,_=>exact one _ rfl rfl (hg 0 _ rfl) some_
 | 1,_=>exact one _ rfl rfl (hg 1 _ rfl) some_
 | 2,_=>exact one _ rfl rfl (hg 2 _ rfl) some_
 | 3,_=>exact one _ rfl rfl (hg 3 _ rfl) some_
theorem acts_open {A:Option Addr}{n c:Nat}{d:DataW H}{p:List MemPlace}(h:DataW.Trod enc Tryz.prog w 0 (fun _=>true) true 22 (.slice A n c) d p) :
  n≤c∧n≤9223372036854775807∧(A=none→n=0)∧Acts w A n:=by
 obtain ⟨fuel,hf⟩:=h
 rcases Deep.open_slice Tryz.underlying22 hf with ⟨hcs,_⟩|⟨a,len,cap,m,fu,D,Pl,hcs,hb,hl,hm,hmm,hx,hi⟩
 ·simp[Value.cells] at hcs
  obtain ⟨rfl,rfl,rfl⟩:=hcs
  exact ⟨Nat.le_refl _,by omega,fun _=>rfl,fun h=>by omega⟩
 ·simp[Value.cells] at hcs
  obtain ⟨rfl,rfl,rfl⟩:=hcs
  simp only[if_true] at hmm
  subst hmm
  have hC:Tryz.prog.cellsOf 41=4:=by kernel_rfl
  rw[hC] at hi
  have cell:∀ k,k<n→∀ j,j<4→∃ x:Int,w.cell? (a.add (k*4+j))=some (.int .i64 x):=by
   intro k hk j hj
   obtain ⟨cs',hc,ht⟩:=hi k (by omega)
   obtain ⟨_,_,hat⟩:=World.cells?_some hc
   obtain ⟨x,hx⟩:=zh8 ht j hj
   refine ⟨x,?_⟩
   have h1:=(hat j hj).trans hx
   have e:(a.add (k*4)).add j=a.add (k*4+j):=by
    unfold Addr.add
    by_cases h1:k*4=0 <;> by_cases h2:j=0 <;> simp[h1,h2,Nat.add_assoc]
   rwa[e] at h1
  refine ⟨hl,by unfold maxLen at hm;omega,fun e=>(by cases e),fun hn=>⟨a,rfl,?_,fun k hk=>?_⟩⟩
  ·obtain ⟨x,hx⟩:=cell 0 hn 0 (by omega)
   have:=World.block_lt_of_cell? w _ hx
   rwa[zbb] at this
  ·obtain ⟨x0,h0⟩:=cell k hk 0 (by omega)
   obtain ⟨x1,h1⟩:=cell k hk 1 (by omega)
   obtain ⟨x2,h2⟩:=cell k hk 2 (by omega)
   obtain ⟨x3,h3⟩:=cell k hk 3 (by omega)
   exact ⟨x0,x1,x2,x3,h0,h1,h2,h3⟩
end
end Go.Proofs.YtmejdkniafjncaaGreatDoor.Dk
namespace Go.Proofs.YtmejdkniafjncaaGreatDoor.Oc
open Go Go.RowKit Dk
theorem zuq {w:World}{g gd bm size:Nat}{D:Option Nat}{L:List Ly}(h:Bk w g gd bm D size L)(name:ByteArray) :
  Calls Tryz.prog 40 #[.pointer (some ⟨g,0,none⟩),.string name] w fun e w'=>e = .returned (if numOf L name=0 then .tuple #[.int .i64 0,.int .i64 11] else .tuple #[.int .i64 (liveOf L name:Int),.int .i64 0])∧Below w.heap.size w w':=by
 have HBK:=hid h
 clear h
 go_enter Tryz.func40,Tryz.ntmps40
 go_upto_region 2 with (go_at_call 68;refine (zcl HBK.out name).mono ?_;rintro e w2 ⟨rfl,hb⟩;have HBK2:=hid (zaf HBK.out hb);have HB:=hid hb;clear hb;unfold shv)
 have HS:Hid (Blk (w2.alloc (.cells #[.int .i64 (nextOf L name:Int),.int .i64 (liveOf L name:Int),.map (verOf L name)] 155)) w2.heap.size 155 #[.int .i64 (nextOf L name:Int),.int .i64 (liveOf L name:Int),.map (verOf L name)]):=hid (Blk.new w2 _ _)
 have HB3:Hid (Below w.heap.size w (w2.alloc (.cells #[.int .i64 (nextOf L name:Int),.int .i64 (liveOf L name:Int),.map (verOf L name)] 155))):=hid (HB.out.alloc HB.out.size _)
 have HBK3:Hid (Bk (w2.alloc (.cells #[.int .i64 (nextOf L name:Int),.int .i64 (liveOf L name:Int),.map (verOf L name)] 155)) g gd bm D size L):=hid (zaf HBK2.out (Below.new1 w2 _))
 clear HB HBK2
 generalize w2.alloc (.cells #[.int .i64 (nextOf L name:Int),.int .i64 (liveOf L name:Int),.map (verOf L name)] 155)=W3 at HS HB3 HBK3 ⊢
 generalize w2.heap.size=gs at HS ⊢
 obtain ⟨⟨s0,s1,s2⟩,sz⟩:=zat HS.out
 have hlen:=zkg HBK3.out name
 have hnum:=znl HBK3.out name
 obtain ⟨b1,b2,b3⟩:=hnum
 by_cases h0:numOf L name=0
 ·rw[h0] at hlen
  go_wp2
  go_ret2
  exact ⟨rfl,HB3.out⟩
 ·have hne:((numOf L name:Int) == 0)=false:=by simp;omega
  go_wp2
  go_ret2
  exact ⟨rfl,HB3.out⟩
def AllOne (cs:Array Value):Prop:=cs.all (·.oneCell')=true
def ReadIs (ms:List Int)(P:World→World→Array Value→Prop):Prop:=∀ (W:World) (ad:Addr) (c:Nat),RowR W ad c ms→0<ms.length→Calls Tryz.prog 87 #[.slice (some ad) ms.length c] W fun e w'=>∃ cs:Array Value,e = .returned (.tuple #[.agg cs,.int .i64 0])∧cs.size=59∧AllOne cs∧P W w' cs∧Below W.heap.size W w'
def GetOk (P:World→World→Array Value→Prop)(w:World)(e:Ending)(w':World):Prop:=∃ cs W W',e = .returned (.tuple #[.agg cs,.int .i64 0])∧cs.size=59∧AllOne cs∧Below w.heap.size w W∧P W W' cs∧Below W.heap.size W W'∧w.heap.size<W.heap.size∧Alt W' w' (fun k=>k=w.heap.size)∧Below w.heap.size w w'
theorem get_ok {w:World}{g gd bm size:Nat}{D:Option Nat}{L:List Ly}(h:Bk w g gd bm D size L){name:ByteArray}{l:Ly}(hf:fnd L name=some l)(version v2:Nat)(hv:v2=if version=0 then l.live else version)(hvb:version≤1000000){r:Vr}(hr:fndV l v2=some r){P:World→World→Array Value→Prop}(hread:ReadIs r.ms P) :
  Calls Tryz.prog 41 #[.pointer (some ⟨g,0,none⟩),.string name,.int .i64 (version:Int)] w (GetOk P w):=by
 have HBK:=hid h
 have HF:=hid hf
 have HR:=hid hr
 have HRD:=hid hread
 have HV:=hid hv
 clear h hf hr hread hv
 go_enter Tryz.func41,Tryz.ntmps41
 go_upto_region 1 with fail
 generalize hW:w.alloc _=W1
 have HZ:Hid (∃ z:Array Value,z.size=59∧Blk W1 w.heap.size 88 z):=hid ⟨_,rfl,by rw[← hW];exact Blk.new w _ _⟩
 have HB1:Hid (Below w.heap.size w W1):=hid (by rw[← hW];exact Below.new1 w _)
 clear hW
 obtain ⟨z,hzs,hzb⟩:=HZ.out
 have HZS:=hid hzs
 have HZB:=hid hzb
 clear HZ hzs hzb
 go_upto_region 2 with (go_at_call 68;refine (zcl (zaf HBK.out HB1.out) name).mono ?_;rintro e w2 ⟨rfl,hb⟩;have HB2:=hid (HB1.out.trans (hb.mono HB1.out.size));have HZB2:=hid (zac HZB.out hb);clear hb;rw[zkf HF.out];unfold shc)
 have HS:Hid (Blk (w2.alloc (.cells #[.int .i64 (l.next:Int),.int .i64 (l.live:Int),.map (some l.bv)] 155)) w2.heap.size 155 #[.int .i64 (l.next:Int),.int .i64 (l.live:Int),.map (some l.bv)]):=hid (Blk.new w2 _ _)
 have HB3:Hid (Below w.heap.size w (w2.alloc (.cells #[.int .i64 (l.next:Int),.int .i64 (l.live:Int),.map (some l.bv)] 155))):=hid (HB2.out.alloc HB2.out.size _)
 have HZB3:Hid (Blk (w2.alloc (.cells #[.int .i64 (l.next:Int),.int .i64 (l.live:Int),.map (some l.bv)] 155)) w.heap.size 88 z):=hid (HZB2.out.alloc _)
 clear HB2 HZB2
 generalize w2.alloc (.cells #[.int .i64 (l.next:Int),.int .i64 (l.live:Int),.map (some l.bv)] 155)=W3 at HS HB3 HZB3 ⊢
 generalize w2.heap.size=gs at HS ⊢
 obtain ⟨⟨s0,s1,s2⟩,sz⟩:=zat HS.out
 have HBK3:=hid (zaf HBK.out HB3.out)
 have hlen:=zcs HBK3.out (zas HF.out).1
 have hver:=zki HBK3.out (zas HF.out).1 v2
 have HRR:Hid (∀ W,Below w.heap.size w W→∃ ad c,r.x = .slice (some ad) r.ms.length c∧0<r.ms.length∧RowR W ad c r.ms):=hid fun W hb=>by
  have hbk:=zaf HBK.out hb
  obtain ⟨ad,c,e,h0,_,_,hrr⟩:=(hbk.sh l (zas HF.out).1).2.2 r (zg2 HR.out).1
  exact ⟨ad,c,e,h0,hrr⟩
 obtain ⟨ad,c,hx,hms,hrow⟩:=HRR.out W3 HB3.out
 have HROW:=hid hrow
 have HMS:=hid hms
 have hrx:((fndV l v2).map (·.x)).getD (.slice none 0 0) = .slice (some ad) r.ms.length c:=by rw[HR.out];exact hx
 have hrs:(fndV l v2).isSome=true:=by rw[HR.out];rfl
 rw[hrx,hrs] at hver
 have hpos:0<l.V.length:=List.length_pos_of_mem (zg2 HR.out).1
 have hne:((l.V.length:Int) == 0)=false:=by rw[beq_eq_false_iff_ne];omega
 clear hrx hrs hpos hx hms hrow
 obtain ⟨L2,hL2⟩:∃ L2,L2=r.ms.length:=⟨_,rfl⟩
 have HL2:=hid hL2
 rw[← hL2] at hver
 clear hL2
 have HCALL:Hid (∀ W,W=W3∨W=W3.drew→Calls Tryz.prog 87 #[.slice (some ad) L2 c] W fun e w'=>∃ cs:Array Value,e = .returned (.tuple #[.agg cs,.int .i64 0])∧cs.size=59∧AllOne cs∧P W w' cs∧Below W.heap.size W w'):=hid fun W hW=>by
  rw[HL2.out]
  rcases hW with rfl|rfl
  ·exact HRD.out W ad c HROW.out HMS.out
  ·exact HRD.out _ ad c (show RowR W3.drew ad c r.ms from HROW.out) HMS.out
 by_cases h0:version=0
 ·subst h0
  have hlv:v2=l.live:=by rw[HV.out,if_pos rfl]
  subst hlv
  go_wp2_with (first
   |(go_at_call 87;refine (HCALL.out _ (by first|exact .inl rfl|exact .inr rfl)).mono ?_;rintro e w4 ⟨cs,rfl,hc1,hc2,hp,hb4⟩;dsimp only;have HC1:=hid hc1;have HC2:=hid hc2;have HP:=hid hp;have HB4:=hid hb4;have HZB4:=hid (zac HZB3.out hb4);clear hc1 hc2 hp hb4)
   |(refine za0 _ rfl 88 _ _ rfl w.heap.size z cs 88 rfl rfl (by exact HZB4.out) (HC1.out.symm ▸ zau) (HZS.out.trans HC1.out.symm) HC2.out ?_;intro w5 hb5 ha5 hs5;have HB5:=hid hb5;have HA5:=hid ha5;clear hb5 ha5 hs5))
  refine bodyPost_ret (zbg rfl _ _ w.heap.size cs _ _ rfl HB5.out Tryz.underlying88 rfl (HC1.out.symm ▸ zau)) rfl ?_
  have hsz:w.heap.size<W3.heap.size:=HZB3.out.lt
  first
   |exact ⟨cs,W3,w4,rfl,HC1.out,HC2.out,HB3.out,HP.out,HB4.out,hsz,HA5.out,(HB3.out.trans (HB4.out.mono HB3.out.size)).trans (Alt.toBelow HA5.out (fun k _ e=>by rw[e];exact Nat.le_refl _) (Nat.le_trans HB3.out.size HB4.out.size))⟩
   |exact ⟨cs,W3.drew,w4,rfl,HC1.out,HC2.out,HB3.out.drew,HP.out,HB4.out,hsz,HA5.out,(HB3.out.drew.trans (HB4.out.mono HB3.out.size)).trans (Alt.toBelow HA5.out (fun k _ e=>by rw[e];exact Nat.le_refl _) (Nat.le_trans HB3.out.size HB4.out.size))⟩
 ·have hlv:v2=version:=by rw[HV.out,if_neg h0]
  subst hlv
  have hz:((v2:Int) == 0)=false:=by rw[beq_eq_false_iff_ne];omega
  go_wp2_with (first
   |(go_at_call 87;refine (HCALL.out _ (by first|exact .inl rfl|exact .inr rfl)).mono ?_;rintro e w4 ⟨cs,rfl,hc1,hc2,hp,hb4⟩;dsimp only;have HC1:=hid hc1;have HC2:=hid hc2;have HP:=hid hp;have HB4:=hid hb4;have HZB4:=hid (zac HZB3.out hb4);clear hc1 hc2 hp hb4)
   |(refine za0 _ rfl 88 _ _ rfl w.heap.size z cs 88 rfl rfl (by exact HZB4.out) (HC1.out.symm ▸ zau) (HZS.out.trans HC1.out.symm) HC2.out ?_;intro w5 hb5 ha5 hs5;have HB5:=hid hb5;have HA5:=hid ha5;clear hb5 ha5 hs5))
  refine bodyPost_ret (zbg rfl _ _ w.heap.size cs _ _ rfl HB5.out Tryz.underlying88 rfl (HC1.out.symm ▸ zau)) rfl ?_
  have hsz:w.heap.size<W3.heap.size:=HZB3.out.lt
  first
   |exact ⟨cs,W3,w4,rfl,HC1.out,HC2.out,HB3.out,HP.out,HB4.out,hsz,HA5.out,(HB3.out.trans (HB4.out.mono HB3.out.size)).trans (Alt.toBelow HA5.out (fun k _ e=>by rw[e];exact Nat.le_refl _) (Nat.le_trans HB3.out.size HB4.out.size))⟩
   |exact ⟨cs,W3.drew,w4,rfl,HC1.out,HC2.out,HB3.out.drew,HP.out,HB4.out,hsz,HA5.out,(HB3.out.drew.trans (HB4.out.mono HB3.out.size)).trans (Alt.toBelow HA5.out (fun k _ e=>by rw[e];exact Nat.le_refl _) (Nat.le_trans HB3.out.size HB4.out.size))⟩
def zM:Array Value:=#[.int .i64 0,.int .i64 0,.int .i64 0,.slice none 0 0,.slice none 0 0,.slice none 0 0,.slice none 0 0,.bool false,.int .u64 0,.string ⟨#[]⟩,.int .u64 0,.string ⟨#[]⟩,.int .i64 0,.int .i64 0,.int .i64 0,.slice none 0 0,.int .i64 0,.int .i64 0,.int .i64 0,.slice none 0 0,.slice none 0 0,.int .i64 0,.int .i64 0,.bool false,.int .u64 0,.string ⟨#[]⟩,.int .u64 0,.string ⟨#[]⟩,.bool false,.int .u64 0,.string ⟨#[]⟩,.int .u64 0,.string ⟨#[]⟩,.bool false,.int .u64 0,.string ⟨#[]⟩,.int .u64 0,.string ⟨#[]⟩,.slice none 0 0,.slice none 0 0,.bool false,.int .u64 0,.string ⟨#[]⟩,.int .u64 0,.string ⟨#[]⟩,.slice none 0 0,.slice none 0 0,.slice none 0 0,.slice none 0 0,.slice none 0 0,.bool false,.int .u64 0,.string ⟨#[]⟩,.int .u64 0,.string ⟨#[]⟩,.slice none 0 0,.slice none 0 0,.slice none 0 0,.slice none 0 0]
theorem zmb:zM.all (·.oneCell')=true:=by kernel_rfl
def GetErr (r:Int)(w:World)(e:Ending)(w':World):Prop:=e = .returned (.tuple #[.agg zM,.int .i64 r])∧Below w.heap.size w w'
theorem zw0 {w:World}{g gd bm size:Nat}{D:Option Nat}{L:List Ly}(h:Bk w g gd bm D size L){name:ByteArray}{l:Ly}(hf:fnd L name=some l)(version v2:Nat)(hv:v2=if version=0 then l.live else version)(hvb:version≤1000000)(hr:fndV l v2=none)(hpos:0<l.V.length) :
  Calls Tryz.prog 41 #[.pointer (some ⟨g,0,none⟩),.string name,.int .i64 (version:Int)] w (GetErr 16 w):=by
 have HBK:=hid h
 have HF:=hid hf
 have HR:=hid hr
 have HV:=hid hv
 clear h hf hr hv
 go_enter Tryz.func41,Tryz.ntmps41
 go_upto_region 1 with fail
 generalize hW:w.alloc _=W1
 have HZ:Hid (∃ z:Array Value,z.size=59∧Blk W1 w.heap.size 88 z):=hid ⟨_,rfl,by rw[← hW];exact Blk.new w _ _⟩
 have HB1:Hid (Below w.heap.size w W1):=hid (by rw[← hW];exact Below.new1 w _)
 clear hW
 obtain ⟨z,hzs,hzb⟩:=HZ.out
 have HZS:=hid hzs
 have HZB:=hid hzb
 clear HZ hzs hzb
 go_upto_region 2 with (go_at_call 68;refine (zcl (zaf HBK.out HB1.out) name).mono ?_;rintro e w2 ⟨rfl,hb⟩;have HB2:=hid (HB1.out.trans (hb.mono HB1.out.size));have HZB2:=hid (zac HZB.out hb);clear hb;rw[zkf HF.out];unfold shc)
 have HS:Hid (Blk (w2.alloc (.cells #[.int .i64 (l.next:Int),.int .i64 (l.live:Int),.map (some l.bv)] 155)) w2.heap.size 155 #[.int .i64 (l.next:Int),.int .i64 (l.live:Int),.map (some l.bv)]):=hid (Blk.new w2 _ _)
 have HB3:Hid (Below w.heap.size w (w2.alloc (.cells #[.int .i64 (l.next:Int),.int .i64 (l.live:Int),.map (some l.bv)] 155))):=hid (HB2.out.alloc HB2.out.size _)
 have HZB3:Hid (Blk (w2.alloc (.cells #[.int .i64 (l.next:Int),.int .i64 (l.live:Int),.map (some l.bv)] 155)) w.heap.size 88 z):=hid (HZB2.out.alloc _)
 clear HB2 HZB2
 generalize w2.alloc (.cells #[.int .i64 (l.next:Int),.int .i64 (l.live:Int),.map (some l.bv)] 155)=W3 at HS HB3 HZB3 ⊢
 generalize w2.heap.size=gs at HS ⊢
 obtain ⟨⟨s0,s1,s2⟩,sz⟩:=zat HS.out
 have HBK3:=hid (zaf HBK.out HB3.out)
 have hlen:=zcs HBK3.out (zas HF.out).1
 have hver:=zki HBK3.out (zas HF.out).1 v2
 have hrx:((fndV l v2).map (·.x)).getD (.slice none 0 0) = .slice none 0 0:=by rw[HR.out];rfl
 have hrs:(fndV l v2).isSome=false:=by rw[HR.out];rfl
 rw[hrx,hrs] at hver
 have hne:((l.V.length:Int) == 0)=false:=by rw[beq_eq_false_iff_ne];omega
 clear hrx hrs hpos
 by_cases h0:version=0
 ·subst h0
  have hlv:v2=l.live:=by rw[HV.out,if_pos rfl]
  subst hlv
  go_wp2_with (first
   |(refine za0 _ rfl 88 (.tmp 6) (.tmp 32) rfl w.heap.size z zM 88 rfl rfl (by exact HZB3.out) zau HZS.out zmb ?_;intro w5 hb5 ha5 hs5;have HB5:=hid hb5;have HA5:=hid ha5;clear hb5 ha5 hs5))
  refine bodyPost_ret (zbg rfl _ _ w.heap.size zM _ _ rfl HB5.out Tryz.underlying88 rfl zau) rfl ⟨rfl,?_⟩
  first
   |exact HB3.out.trans (Alt.toBelow HA5.out (fun k _ e=>by rw[e];exact Nat.le_refl _) HB3.out.size)
   |exact HB3.out.drew.trans (Alt.toBelow HA5.out (fun k _ e=>by rw[e];exact Nat.le_refl _) HB3.out.size)
 ·have hlv:v2=version:=by rw[HV.out,if_neg h0]
  subst hlv
  have hz:((v2:Int) == 0)=false:=by rw[beq_eq_false_iff_ne];omega
  go_wp2_with (first
   |(refine za0 _ rfl 88 (.tmp 6) (.tmp 32) rfl w.heap.size z zM 88 rfl rfl (by exact HZB3.out) zau HZS.out zmb ?_;intro w5 hb5 ha5 hs5;have HB5:=hid hb5;have HA5:=hid ha5;clear hb5 ha5 hs5))
  refine bodyPost_ret (zbg rfl _ _ w.heap.size zM _ _ rfl HB5.out Tryz.underlying88 rfl zau) rfl ⟨rfl,?_⟩
  first
   |exact HB3.out.trans (Alt.toBelow HA5.out (fun k _ e=>by rw[e];exact Nat.le_refl _) HB3.out.size)
   |exact HB3.out.drew.trans (Alt.toBelow HA5.out (fun k _ e=>by rw[e];exact Nat.le_refl _) HB3.out.size)
theorem zur {w:World}{g gd bm size:Nat}{D:Option Nat}{L:List Ly}(h:Bk w g gd bm D size L)(name:ByteArray)(version:Nat)(h0:numOf L name=0) :
  Calls Tryz.prog 41 #[.pointer (some ⟨g,0,none⟩),.string name,.int .i64 (version:Int)] w (GetErr 11 w):=by
 have HBK:=hid h
 clear h
 go_enter Tryz.func41,Tryz.ntmps41
 go_upto_region 1 with fail
 generalize hW:w.alloc _=W1
 have HZ:Hid (∃ z:Array Value,z.size=59∧Blk W1 w.heap.size 88 z):=hid ⟨_,rfl,by rw[← hW];exact Blk.new w _ _⟩
 have HB1:Hid (Below w.heap.size w W1):=hid (by rw[← hW];exact Below.new1 w _)
 clear hW
 obtain ⟨z,hzs,hzb⟩:=HZ.out
 have HZS:=hid hzs
 have HZB:=hid hzb
 clear HZ hzs hzb
 go_upto_region 2 with (go_at_call 68;refine (zcl (zaf HBK.out HB1.out) name).mono ?_;rintro e w2 ⟨rfl,hb⟩;have HB2:=hid (HB1.out.trans (hb.mono HB1.out.size));have HZB2:=hid (zac HZB.out hb);clear hb;unfold shv)
 have HS:Hid (Blk (w2.alloc (.cells #[.int .i64 (nextOf L name:Int),.int .i64 (liveOf L name:Int),.map (verOf L name)] 155)) w2.heap.size 155 #[.int .i64 (nextOf L name:Int),.int .i64 (liveOf L name:Int),.map (verOf L name)]):=hid (Blk.new w2 _ _)
 have HB3:Hid (Below w.heap.size w (w2.alloc (.cells #[.int .i64 (nextOf L name:Int),.int .i64 (liveOf L name:Int),.map (verOf L name)] 155))):=hid (HB2.out.alloc HB2.out.size _)
 have HZB3:Hid (Blk (w2.alloc (.cells #[.int .i64 (nextOf L name:Int),.int .i64 (liveOf L name:Int),.map (verOf L name)] 155)) w.heap.size 88 z):=hid (HZB2.out.alloc _)
 clear HB2 HZB2
 generalize w2.alloc (.cells #[.int .i64 (nextOf L name:Int),.int .i64 (liveOf L name:Int),.map (verOf L name)] 155)=W3 at HS HB3 HZB3 ⊢
 generalize w2.heap.size=gs at HS ⊢
 obtain ⟨⟨s0,s1,s2⟩,sz⟩:=zat HS.out
 have HBK3:=hid (zaf HBK.out HB3.out)
 have hlen:=zkg HBK3.out name
 rw[h0] at hlen
 go_wp2_with (first
  |(refine za0 _ rfl 88 (.tmp 6) (.tmp 18) rfl w.heap.size z zM 88 rfl rfl (by exact HZB3.out) zau HZS.out zmb ?_;intro w5 hb5 ha5 hs5;have HB5:=hid hb5;have HA5:=hid ha5;clear hb5 ha5 hs5))
 refine bodyPost_ret (zbg rfl _ _ w.heap.size zM _ _ rfl HB5.out Tryz.underlying88 rfl zau) rfl ⟨rfl,?_⟩
 first
  |exact HB3.out.trans (Alt.toBelow HA5.out (fun k _ e=>by rw[e];exact Nat.le_refl _) HB3.out.size)
  |exact HB3.out.drew.trans (Alt.toBelow HA5.out (fun k _ e=>by rw[e];exact Nat.le_refl _) HB3.out.size)
end Go.Proofs.YtmejdkniafjncaaGreatDoor.Oc
