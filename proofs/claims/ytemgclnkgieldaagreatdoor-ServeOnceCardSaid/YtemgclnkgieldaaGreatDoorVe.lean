/- A book's write where there is no room; a change (Point, Drop). -/
import Derived.Test.YtemgclnkgieldaaGreatDoorVd
set_option maxHeartbeats 4000000
set_option maxRecDepth 100000
namespace Go.Proofs.YtemgclnkgieldaaGreatDoor.Oc
open Go Go.RowKit Dk
structure Bz (w:World)(B g gd bm:Nat)(A:Option Addr)(c:Nat)(S:St)(f:Int)(L:List Ly):Prop where
 bw:Bw w g gd bm B A c S f L
 hg:B≤g∧B≤gd∧B≤bm
 hl:∀ l∈L,B≤l.g∧B≤l.bv
theorem Bz.below {w w':World}{B g gd bm c:Nat}{A:Option Addr}{S:St}{f:Int}{L:List Ly}(h:Bz w B g gd bm A c S f L)(hb:Below w.heap.size w w'):Bz w' B g gd bm A c S f L:=⟨zhd h.bw hb,h.hg,h.hl⟩
theorem Bz.D {w:World}{B g gd bm c:Nat}{A:Option Addr}{S:St}{f:Int}{L:List Ly}(h:Bz w B g gd bm A c S f L):∀ k,(Value.slice A S.xs.length c).ownBlock=some k→B≤k∧k<w.heap.size:=fun _ hk=>h.bw.own.base hk
theorem Bz.mt {w:World}{B g gd bm c:Nat}{A:Option Addr}{S:St}{f:Int}{L:List Ly}(h:Bz w B g gd bm A c S f L){k:Nat}(hk:Mt g gd bm (Value.slice A S.xs.length c).ownBlock L k):B≤k:=by
 rcases hk with e|e|e|e|e|e
 ·rw[e];exact h.hg.1
 ·rw[e];exact h.hg.2.1
 ·exact (h.D k e.symm).1
 ·rw[e];exact h.hg.2.2
 ·obtain ⟨l,hl,rfl⟩:=kO.1 e
  exact (h.hl l hl).1
 ·obtain ⟨l,hl,rfl⟩:=kO.1 e
  exact (h.hl l hl).2
theorem Alt.toBelow {w w':World}{B:Nat}{p:Nat→Prop}(h:Alt w w' p)(hp:∀ k,k<w.heap.size→p k→B≤k)(hB:B≤w.heap.size):Below B w w':=⟨h.os,h.tape,h.output,h.size,fun k hk=>h.block k (by omega) fun hpk=>by have:=hp k (by omega) hpk;omega⟩
def TB (w:World)(k:Nat):Prop:=(∃ es n,w.heap[k]? = some (.map es n))∨∃ cs t fr,w.heap[k]? = some (.cells cs t fr)∧(t=5∨t=157∨t=154∨t=240)
theorem TB.same {w w':World}{k:Nat}(h:w'.heap[k]? = w.heap[k]?):TB w' k↔TB w k:=by unfold TB;rw[h]
abbrev Kb (w w':World):Prop:=Alt w w' (TB w)
theorem Kb.trans {w w1 w2:World}(h1:Kb w w1)(h2:Kb w1 w2):Kb w w2:=Alt.trans h1 h2 (fun k hk hq=>Classical.byContradiction fun hn=>hn ((TB.same (h1.block k hk hn)).1 hq))
theorem Kb.of {w w':World}(hb:Below w.heap.size w w'):Kb w w':=alt_of_below hb
structure BK (B:Nat)(w w':World):Prop where
 bel:Below B w w'
 kb:Kb w w'
theorem BK.trans {B:Nat}{w w1 w2:World}(h1:BK B w w1)(h2:BK B w1 w2):BK B w w2:=⟨h1.bel.trans h2.bel,h1.kb.trans h2.kb⟩
theorem BK.of {B:Nat}{w w':World}(hb:Below w.heap.size w w')(hB:B≤w.heap.size):BK B w w':=⟨hb.mono hB,.of hb⟩
theorem Bz.tb {w:World}{B g gd bm c:Nat}{A:Option Addr}{S:St}{f:Int}{L:List Ly}(h:Bz w B g gd bm A c S f L){k:Nat}(hk:Mt g gd bm (Value.slice A S.xs.length c).ownBlock L k):TB w k:=by
 rcases hk with e|e|e|e|e|e
 ·rw[e];exact .inr ⟨_,_,_,h.bw.bk.blk,.inr (.inl rfl)⟩
 ·rw[e];exact .inr ⟨_,_,_,h.bw.dk,.inr (.inr (.inl rfl))⟩
 ·rcases h.bw.own.2 with ⟨e2,_⟩|⟨g',cap,cur,e2,_,hh,_⟩
  ·rw[e2] at e;cases e
  ·have e3:g'=k:=by rw[e2] at e;simpa [Value.ownBlock] using e.symm
   subst e3
   exact .inr ⟨_,_,_,hh,.inl rfl⟩
 ·rw[e]
  obtain ⟨es,c,hb,_⟩:=h.bw.bk.map
  exact .inl ⟨es,c,hb⟩
 ·obtain ⟨l,hl,rfl⟩:=kO.1 e
  exact .inr ⟨_,_,_,(h.bw.bk.sh l hl).1,.inr (.inr (.inr rfl))⟩
 ·obtain ⟨l,hl,rfl⟩:=kO.1 e
  obtain ⟨es,c,hb,_⟩:=(h.bw.bk.sh l hl).2.1
  exact .inl ⟨es,c,hb⟩
theorem Bz.bk_ {w w':World}{B g gd bm c:Nat}{A:Option Addr}{S:St}{f:Int}{L:List Ly}(h:Bz w B g gd bm A c S f L)(ha:Alt w w' (Mt g gd bm (Value.slice A S.xs.length c).ownBlock L)):BK B w w':=⟨Alt.toBelow ha (fun _ _ hk=>h.mt hk) h.bw.b0l,ha.mono fun _ hk=>h.tb hk⟩
theorem ztj {w:World}{B g gd bm c:Nat}{A:Option Addr}{S:St}{f:Int}{L:List Ly}(h:Bz w B g gd bm A c S f L){n:Nt}(hn:NtOk n)(lv:Int){X:Option Addr}{lx cx:Nat}(hx:n.kind=1→RowIs w (Mt g gd bm (Value.slice A S.xs.length c).ownBlock L) (.slice X lx cx) n.ms)(hfit:S.xs.length+(recN n).length≤S.room) :
  Calls Tryz.prog 86 #[.pointer (some ⟨g,0,none⟩),.agg (noteV n.kind n.name n.vy lv (.slice X lx cx))] w fun e w'=>e = .returned (.int .i64 0)∧∃ A' c' f',Bz w' B g gd bm A' c' (addS S (recN n)) f' L∧Below B w w'∧(n.kind=1→RowIs w' (Mt g gd bm (Value.slice A' (addS S (recN n)).xs.length c').ownBlock L) (.slice X lx cx) n.ms)∧Alt w w' (Mt g gd bm (Value.slice A S.xs.length c).ownBlock L):=by
 refine (zqv h.bw hn lv hx hfit).mono ?_
 rintro e w' ⟨rfl,A',c',f',hb,ha,hd⟩
 refine ⟨rfl,A',c',f',⟨hb,h.hg,h.hl⟩,Alt.toBelow ha ?_ h.bw.b0l,fun hk=>(hx hk).alt ha ?_ ?_,ha.mono ?_⟩
 ·rintro k _ (e|e|e)
  ·rw[e];exact h.hg.1
  ·rw[e];exact h.hg.2.1
  ·exact (h.D k e).1
 ·rintro k _ (e|e|e)
  ·exact .inl e
  ·exact .inr (.inl e)
  ·exact .inr (.inr (.inl e.symm))
 ·rintro k hk (e|e|e|e|e|e)
  ·exact .inl e
  ·exact .inr (.inl e)
  ·rcases hd with h1|h1
   ·exact .inr (.inr (.inl (by rw[← h1];exact e)))
   ·have:=h1 k e.symm;omega
  ·exact .inr (.inr (.inr (.inl e)))
  ·exact .inr (.inr (.inr (.inr (.inl e))))
  ·exact .inr (.inr (.inr (.inr (.inr e))))
 ·rintro k (e|e|e)
  ·exact .inl e
  ·exact .inr (.inl e)
  ·exact .inr (.inr (.inl e.symm))
theorem Bz.mtlt {w:World}{B g gd bm c:Nat}{A:Option Addr}{S:St}{f:Int}{L:List Ly}(h:Bz w B g gd bm A c S f L){k:Nat}(hk:Mt g gd bm (Value.slice A S.xs.length c).ownBlock L k):k<w.heap.size:=zy5 h.bw.bk (fun k hk=>(h.D k hk).2) h.bw.dk.lt hk
theorem zl8 {w:World}{B g gd bm c:Nat}{A:Option Addr}{S:St}{f:Int}{L:List Ly}(h:Bz w B g gd bm A c S f L)(hw:WF (L.map Ly.s)){n:Nt}(hm:mayC (L.map Ly.s) n)(hv:n.vy≤100000)(lv:Int)(x:Value)(hx:n.kind=1→RowIs w (Mt g gd bm (Value.slice A S.xs.length c).ownBlock L) x n.ms) :
  Calls Tryz.prog 87 #[.pointer (some ⟨g,0,none⟩),.agg (noteV n.kind n.name n.vy lv x)] w fun e w'=>e = .returned (.tuple #[])∧∃ L',Bz w' B g gd bm A c S f L'∧L'.map Ly.s=pfC (L.map Ly.s) n∧Below B w w'∧Alt w w' (Mb bm L):=by
 have hgd:gd<w.heap.size:=h.bw.dk.lt
 refine (ze6 h.bw.bk (ztg hw hm) lv x hv hx (zh9 hw).2.2.2 (fun k hk=>(h.D k hk).2) hgd).mono ?_
 rintro e w' ⟨rfl,L',hpf,hb,ha,hnw⟩
 have hbl:Below B w w':=Alt.toBelow ha (fun k _ hk=>h.mt (Mb.mt hk g gd _)) h.bw.b0l
 have ne1:∀ {k:Nat} {t:TypeId} {cs:Array Value},Blk w k t cs→t≠240→¬ Mb bm L k:=by
  rintro k t cs hk ht (e|e|e)
  ·exact h.bw.bk.map.ne_blk hk e.symm
  ·obtain ⟨l,hl,rfl⟩:=kO.1 e
   exact Blk.ne_ hk (h.bw.bk.sh l hl).1 ht rfl
  ·obtain ⟨l,hl,rfl⟩:=kO.1 e
   exact (h.bw.bk.sh l hl).2.1.ne_blk hk rfl
 refine ⟨rfl,L',⟨⟨hb,h.bw.dk.kept ha (ne1 h.bw.dk (by decide)),?_,h.bw.ok,h.bw.fu,h.bw.up,h.bw.sf,kH h.bw.b0l ha.size⟩,h.hg,fun l hl=>?_⟩,ztf hpf,hbl,ha⟩
 ·refine h.bw.own.keep ha fun k hk=>?_
  rcases h.bw.own.2 with ⟨e,_⟩|⟨g',cap,cur,e,_,hh,_⟩
  ·rw[e] at hk;cases hk
  ·have e2:g'=k:=by rw[e] at hk;simpa [Value.ownBlock] using hk
   subst e2
   exact ne1 (show Blk w g' 5 _ from hh) (by decide)
 ·rcases hnw l hl with ⟨l0,h0,e1,e2⟩|⟨h1,h2⟩
  ·rw[← e1, ← e2];exact h.hl l0 h0
  ·exact ⟨kH h.bw.b0l h1,kH h.bw.b0l h2⟩
theorem zqw {w:World}{B g gd bm c:Nat}{A:Option Addr}{S:St}{f:Int}{L:List Ly}(h:Bz w B g gd bm A c S f L)(kind:Int)(name:ByteArray)(vy:Nat)(hk:kind=2∨kind=3)(hv:vy≤1000000){r:Int}(hr:refC (L.map Ly.s) kind name vy=r)(hr0:(r == 0)=false) :
  Calls Tryz.prog 88 #[.pointer (some ⟨g,0,none⟩),.agg (noteV kind name vy 0 (.slice none 0 0))] w fun e w'=>e = .returned (.int .i64 r)∧Below w.heap.size w w':=by
 have HBW:=kA h
 have HR:Hid (refOf L kind name vy=r):=kA (by rw[← zkl];exact hr)
 have HK:=kA hk
 clear h hr hk
 go_enter Tryz.func88,Tryz.ntmps88
 unfold noteV
 go_upto_region 1 with fail
 have HN:Hid (Blk (w.alloc (.cells #[.int .i64 kind,.string name,.int .i64 (vy:Int),.int .i64 0,.slice none 0 0] 222)) w.heap.size 222 (noteV kind name vy 0 (.slice none 0 0))):=kA (Blk.new w _ _)
 have HB:Hid (Below w.heap.size w (w.alloc (.cells #[.int .i64 kind,.string name,.int .i64 (vy:Int),.int .i64 0,.slice none 0 0] 222))):=kA (Below.new1 w _)
 generalize w.alloc (.cells #[.int .i64 kind,.string name,.int .i64 (vy:Int),.int .i64 0,.slice none 0 0] 222)=W1 at HN HB ⊢
 obtain ⟨⟨n0,n1,n2,n3,n4⟩,nz⟩:=zan HN.out
 go_wp2_with (go_at_call 179;refine (ze5 (zal HBW.out.bw.bk HB.out) kind name vy 0 (.slice none 0 0) HK.out (by omega) rfl).mono ?_;rintro e w5 ⟨rfl,hb5⟩;rw[HR.out];have HB5:=kA hb5;clear hb5)
 go_ret
 exact ⟨rfl,HB.out.trans (HB5.out.mono HB.out.size)⟩
theorem znu {w:World}{B g gd bm c:Nat}{A:Option Addr}{S:St}{f:Int}{L:List Ly}(h:Bz w B g gd bm A c S f L)(hw:WF (L.map Ly.s)){n:Nt}(hn:NtOk n)(hk:n.kind=2∨n.kind=3)(hr:refC (L.map Ly.s) n.kind n.name n.vy=0)(hfit:S.xs.length+(recN n).length≤S.room) :
  Calls Tryz.prog 88 #[.pointer (some ⟨g,0,none⟩),.agg (noteV n.kind n.name n.vy 0 (.slice none 0 0))] w fun e w'=>e = .returned (.int .i64 0)∧∃ A' c' f' L',Bz w' B g gd bm A' c' (addS S (recN n)) f' L'∧L'.map Ly.s=pfC (L.map Ly.s) n∧BK B w w':=by
 have HBW:=kA h
 have HR:Hid (refOf L n.kind n.name n.vy=0):=kA (by rw[← zkl];exact hr)
 have HM:Hid (mayC (L.map Ly.s) n):=kA (.inr ⟨hk,hr⟩)
 have HK:=kA hk
 have HK1:Hid (∀ (W:World) (far:Nat→Prop) (x:Value),n.kind=1→RowIs W far x n.ms):=kA fun _ _ _ e=>by rw[e] at hk;rcases hk with e|e <;> cases e
 have HW:=kA hw
 have HOK:=kA hn
 have HFIT:=kA hfit
 have hver:=hn.ver
 clear h hr hk hw hn hfit
 go_enter Tryz.func88,Tryz.ntmps88
 unfold noteV
 go_upto_region 1 with fail
 have HN:Hid (Blk (w.alloc (.cells #[.int .i64 n.kind,.string n.name,.int .i64 (n.vy:Int),.int .i64 0,.slice none 0 0] 222)) w.heap.size 222 (noteV n.kind n.name n.vy 0 (.slice none 0 0))):=kA (Blk.new w _ _)
 have HB:Hid (Below w.heap.size w (w.alloc (.cells #[.int .i64 n.kind,.string n.name,.int .i64 (n.vy:Int),.int .i64 0,.slice none 0 0] 222))):=kA (Below.new1 w _)
 generalize w.alloc (.cells #[.int .i64 n.kind,.string n.name,.int .i64 (n.vy:Int),.int .i64 0,.slice none 0 0] 222)=W1 at HN HB ⊢
 obtain ⟨⟨n0,n1,n2,n3,n4⟩,nz⟩:=zan HN.out
 have HNM:Hid (¬ Mt g gd bm (Value.slice A S.xs.length c).ownBlock L w.heap.size):=kA fun hm=>Nat.lt_irrefl _ (HBW.out.mtlt hm)
 go_wp2_with (first
  |(go_at_call 179;refine (ze5 (zal HBW.out.bw.bk HB.out) n.kind n.name n.vy 0 (.slice none 0 0) HK.out (by omega) rfl).mono ?_;rintro e w5 ⟨rfl,hb5⟩;rw[HR.out];have HB5:=kA (HB.out.trans (hb5.mono HB.out.size));obtain ⟨⟨m0,m1,m2,m3,m4⟩,mz⟩:=zan (zab HN.out hb5);have HN5:=kA (zab HN.out hb5);clear hb5)
  |(go_at_call 86;refine (ztj (HBW.out.below HB5.out) HOK.out 0 (X:=none) (lx:=0) (cx:=0) (HK1.out _ _ _) HFIT.out).mono ?_;rintro e w6 ⟨rfl,A',c',f',hz6,hb6,_,ha6⟩;dsimp only;obtain ⟨⟨k0,k1,k2,k3,k4⟩,kz⟩:=zan (HN5.out.kept ha6 HNM.out);have HZ6:=kA hz6;have HB6:=kA ((HBW.out.below HB5.out).bk_ ha6);clear hz6 hb6 ha6)
  |(go_at_call 87;refine (zl8 HZ6.out HW.out HM.out (by omega) 0 (.slice none 0 0) (HK1.out _ _ _)).mono ?_;rintro e w7 ⟨rfl,L',hz7,hc7,hb7,ha7⟩;have HZ7:=kA hz7;have HC7:=kA hc7;have HB7:=kA (HZ6.out.bk_ (ha7.mono fun k hk=>hk.mt g gd _));clear hz7 hc7 hb7 ha7))
 go_ret
 exact ⟨rfl,A',c',f',L',HZ7.out,HC7.out,(BK.of HB5.out HBW.out.bw.b0l).trans (HB6.out.trans HB7.out)⟩
theorem zqx {w:World}{g:Nat}{old cs:Array Value}{t:TypeId}(hg:w.heap[g]? = some (.cells old t (0,0))):Blk (w.setRow g cs) g t cs∧Alt w (w.setRow g cs) (fun k=>k=g)∧(w.setRow g cs).heap.size=w.heap.size:=by
 refine ⟨?_,⟨rfl,rfl,rfl,by simp[World.setRow],fun k _ hk=>?_⟩,by simp[World.setRow]⟩
 ·show (w.heap.modify g _)[g]? = _
  rw[Array.getElem?_modify,kZ rfl,hg]
  rfl
 ·show (w.heap.modify g _)[k]? = _
  rw[Array.getElem?_modify,kT (fun e=>hk e.symm)]
section
variable {ops:Array Oper}{o:Oper}{a:Act}{K:Act→World→Prop}{Q:Exit→Act→World→Prop}
theorem zbt (w:World)(t:TypeId)(p v:Operand)(ho:o.op = .store t p v)(g:Nat)(old cs:Array Value)(t':TypeId)(hp:a.eval p = .pointer (some ⟨g,0,none⟩))(hv:a.eval v = .agg cs)
  (hg:w.heap[g]? = some (.cells old t' (0,0))) (hi:(Tryz.prog.info? t).map (·.size)=some cs.size) (hs:old.size=cs.size) (h1:cs.all (·.oneCell')=true)
  (hK:∀ w',Blk w' g t' cs→Alt w w' (fun k=>k=g)→w'.heap.size=w.heap.size→K (a.put o.dst undef) w'):Oper.wp Tryz.prog o a w K Q:=by
 have hrun:=run_storeVar_row (P:=Tryz.prog) w g t' t old cs hg hi hs h1
 obtain ⟨h2,h3,h4⟩:=zqx (cs:=cs) hg
 unfold Oper.wp
 simp[execOp,ho,hp,hv,Instr.storeAt,Instr.sureAddr,hrun,Result.andThen]
 exact hK _ h2 h3 h4
theorem znv (w:World)(t:TypeId)(p:Operand)(ho:o.op = .load t p)(g:Nat)(cs:Array Value)(t':TypeId)(fr:Nat×Nat)(d:TypeDesc)(hp:a.eval p = .pointer (some ⟨g,0,none⟩))
  (hg:w.heap[g]? = some (.cells cs t' fr)) (hu:Tryz.prog.underlying t=some d) (hd:(match d with | .struct _ | .array _ _=>true|_=>false)=true) (hi:(Tryz.prog.info? t).map (·.size)=some cs.size)
  (hK:K (a.put o.dst (.agg cs)) w):Oper.wp Tryz.prog o a w K Q:=by
 have hrun:=run_loadVar_row (P:=Tryz.prog) w g t' t cs fr d hg hu (by cases d <;> first|rfl|cases hd) hi
 unfold Oper.wp
 simp[execOp,ho,hp,Instr.loadAt,Instr.sureAddr,hrun,Result.andThen]
 exact hK
theorem zaw {rest:List Oper}(w:World)(hgd:o.guard=none)(t:TypeId)(p v:Operand)(ho:o.op = .store t p v)(g:Nat)(old cs:Array Value)(t':TypeId)(hp:a.eval p = .pointer (some ⟨g,0,none⟩))(hv:a.eval v = .agg cs)
  (hg:w.heap[g]? = some (.cells old t' (0,0))) (hi:(Tryz.prog.info? t).map (·.size)=some cs.size) (hs:old.size=cs.size) (h1:cs.all (·.oneCell')=true)
  (hK:∀ w',Blk w' g t' cs→Alt w w' (fun k=>k=g)→w'.heap.size=w.heap.size→wpList Tryz.prog ops Q rest (a.put o.dst undef) w'):wpList Tryz.prog ops Q (o :: rest) a w:=by
 refine wpList_plain hgd fun K' hK'=>?_
 exact zbt w t p v ho g old cs t' hp hv hg hi hs h1 fun w' h2 h3 h4=>hK' _ _ (hK w' h2 h3 h4)
theorem zar {rest:List Oper}(w:World)(hgd:o.guard=none)(t:TypeId)(p:Operand)(ho:o.op = .load t p)(g:Nat)(cs:Array Value)(t':TypeId)(fr:Nat×Nat)(d:TypeDesc)(hp:a.eval p = .pointer (some ⟨g,0,none⟩))
  (hg:w.heap[g]? = some (.cells cs t' fr)) (hu:Tryz.prog.underlying t=some d) (hd:(match d with | .struct _ | .array _ _=>true|_=>false)=true) (hi:(Tryz.prog.info? t).map (·.size)=some cs.size)
  (hK:wpList Tryz.prog ops Q rest (a.put o.dst (.agg cs)) w):wpList Tryz.prog ops Q (o :: rest) a w:=by
 refine wpList_plain hgd fun K' hK'=>?_
 exact znv w t p ho g cs t' fr d hp hg hu hd hi (hK' _ _ hK)
end
structure MOk (w:World)(cs:Array Value)(ms:List Int):Prop where
 size:cs.size=59
 check:∀ w',Below w.heap.size w w'→Calls Tryz.prog 46 #[.agg cs] w' fun e w''=>e = .returned (.int .i64 0)∧Below w'.heap.size w' w''
 lay:∀ w',Below w.heap.size w w'→Calls Tryz.prog 22 #[.agg cs] w' fun e w''=>∃ ad c,e = .returned (.tuple #[.slice (some ad) ms.length c,.int .i64 0])∧Rb w'' (some ad) ms∧RowR w'' ad c ms∧w'.heap.size≤ad.block∧Below w'.heap.size w' w''
theorem zvu {w:World}{B g gd bm c:Nat}{A:Option Addr}{S:St}{f:Int}{L:List Ly}(h:Bz w B g gd bm A c S f L)(hw:WF (L.map Ly.s)){name:ByteArray}{v:Nat}{ms:List Int}{cs:Array Value}(hn:NtOk ⟨1,name,v,ms⟩)(hv:v=nextC (L.map Ly.s) name)(hfu:fullC (L.map Ly.s) name=false)(hm:MOk w cs ms)
  (hfit:S.xs.length+(recN ⟨1,name,v,ms⟩).length≤S.room) :
  Calls Tryz.prog 36 #[.pointer (some ⟨g,0,none⟩),.string name,.agg cs] w fun e w'=>e = .returned (.tuple #[.int .i64 (v:Int),.int .i64 0])∧∃ A' c' f' L',Bz w' B g gd bm A' c' (addS S (recN ⟨1,name,v,ms⟩)) f' L'∧L'.map Ly.s=pfC (L.map Ly.s) ⟨1,name,v,ms⟩∧BK B w w':=by
 have HBW:=kA h
 have HFU:Hid (fullOf L name=false):=kA (by rw[← zpb];exact hfu)
 have HNX:Hid (nextOf L name=v):=kA (by rw[← zkk];exact hv.symm)
 have HMAY:Hid (mayC (L.map Ly.s) ⟨1,name,v,ms⟩):=kA (.inl ⟨rfl,hv,hfu⟩)
 have HW:=kA hw
 have HOK:=kA hn
 have HM:=kA hm
 have HLN:Hid (L.length≤100000):=kA (zh9 hw).2.2.1
 have HFIT:=kA hfit
 have hver:v≤100000:=hn.ver
 clear h hfu hv hw hn hm hfit
 go_enter Tryz.func36,Tryz.ntmps36
 have HMC:Hid (Blk (w.alloc (.cells cs 90)) w.heap.size 90 cs):=kA (Blk.new w _ _)
 have HB:Hid (Below w.heap.size w (w.alloc (.cells cs 90))):=kA (Below.new1 w _)
 have HI:Hid ((Tryz.prog.info? 90).map (·.size)=some cs.size):=kA (by rw[HM.out.size];exact zba)
 go_upto_region 1 with fail
 generalize w.alloc (.cells cs 90)=W1 at HMC HB ⊢
 go_upto_region 8 with (first
  |(go_at_call 82;refine (HOK.out.is _).mono ?_;rintro e w1 ⟨rfl,hb1⟩;have HB1:=kA (HB.out.trans (hb1.mono HB.out.size));have HM1:=kA (zab HMC.out hb1);clear hb1)
  |(go_at_call 46;refine (HM.out.check w1 HB1.out).mono ?_;rintro e w2 ⟨rfl,hb2⟩;have HB2:=kA (HB1.out.trans (hb2.mono HB1.out.size));have HM2:=kA (zab HM1.out hb2);clear hb2)
  |(go_at_call 83;refine (zo5 (zal HBW.out.bw.bk HB2.out) HLN.out name).mono ?_;rintro e w3 ⟨rfl,hb3⟩;rw[HFU.out];have HB3:=kA (HB2.out.trans (hb3.mono HB2.out.size));have HM3:=kA (zab HM2.out hb3);clear hb3)
  |(go_at_call 84;refine (zl5 (zal HBW.out.bw.bk HB3.out) name).mono ?_;rintro e w4 ⟨rfl,hb4⟩;rw[HNX.out];have HB4:=kA (HB3.out.trans (hb4.mono HB3.out.size));have HM4:=kA (zab HM3.out hb4);clear hb4)
  |(refine zar _ rfl 90 _ rfl w.heap.size cs 90 (0,0) _ rfl (by first|exact HM4.out|exact HM3.out|exact HM1.out) Tryz.underlying90 rfl HI.out ?_))
 have HN4:Hid (Blk (w4.alloc (.cells #[.int .i64 1,.string name,.int .i64 (v:Int),.int .i64 0,.slice none 0 0] 222)) w4.heap.size 222 (noteV 1 name v 0 (.slice none 0 0))):=kA (Blk.new w4 _ _)
 have HB5:Hid (Below w.heap.size w (w4.alloc (.cells #[.int .i64 1,.string name,.int .i64 (v:Int),.int .i64 0,.slice none 0 0] 222))):=kA (HB4.out.alloc HB4.out.size _)
 have HM5:Hid (Blk (w4.alloc (.cells #[.int .i64 1,.string name,.int .i64 (v:Int),.int .i64 0,.slice none 0 0] 222)) w.heap.size 90 cs):=kA (HM4.out.alloc _)
 have HW4:Hid (w.heap.size≤w4.heap.size):=kA HB4.out.size
 generalize w4.alloc (.cells #[.int .i64 1,.string name,.int .i64 (v:Int),.int .i64 0,.slice none 0 0] 222)=W5 at HN4 HB5 HM5 ⊢
 have HS5:Hid (w4.heap.size<W5.heap.size):=kA HN4.out.lt
 have HNM:Hid (∀ k,w.heap.size≤k→¬ Mt g gd bm (Value.slice A S.xs.length c).ownBlock L k):=kA fun k hk hm=>by have h1:k<w.heap.size:=HBW.out.mtlt hm;omega
 have HW7F:Hid (∀ (w6:World) (gm:Addr) (cm:Nat),Blk w6 w4.heap.size 222 (noteV 1 name v 0 (.slice none 0 0))→Below w.heap.size w w6→Rb w6 (some gm) ms→RowR w6 gm cm ms→W5.heap.size≤gm.block→Blk (w6.setCell ⟨w4.heap.size,4,none⟩ (.slice (some gm) ms.length cm)) w4.heap.size 222 (noteV 1 name v 0 (.slice (some gm) ms.length cm)) ∧
   Below w.heap.size w (w6.setCell ⟨w4.heap.size,4,none⟩ (.slice (some gm) ms.length cm))∧RowIs (w6.setCell ⟨w4.heap.size,4,none⟩ (.slice (some gm) ms.length cm)) (Mt g gd bm (Value.slice A S.xs.length c).ownBlock L) (.slice (some gm) ms.length cm) ms):=kA fun w6 gm cm h1 h2 h3 h3r h4=>by
  have h5:=HW4.out
  have h6:=HS5.out
  refine ⟨h1.set_ 4 _,h2.setCell (p:=⟨w4.heap.size,4,none⟩) h5 _,⟨_,cm,rfl,(HOK.out.md rfl).2.1,?_,HNM.out gm.block (by omega),h3r.keep (Below.heap_setCell w6 ⟨w4.heap.size,4,none⟩ _ gm.block (by show gm.block≠w4.heap.size;omega))⟩⟩
  exact h3.keep (p:=fun k=>k=w4.heap.size) ((Alt.refl w6 (fun k=>k=w4.heap.size)).set_ (a:=⟨w4.heap.size,4,none⟩) rfl _) (fun ad e hh=>by injection e with e;subst e;omega)
 go_wp2_with (first
  |(refine zar _ rfl 90 _ rfl w.heap.size cs 90 (0,0) _ rfl (by exact HM5.out) Tryz.underlying90 rfl HI.out ?_)
  |(go_at_call 22;refine (HM.out.lay W5 HB5.out).mono ?_;rintro e w6 ⟨gm,cm,rfl,hr6,hrr6,hg6,hb6⟩;have HR6:=kA hr6;have HRR6:=kA hrr6;have HG6:=kA hg6;have HB6:=kA (HB5.out.trans (hb6.mono HB5.out.size));have HN6:=kA (zab HN4.out hb6);obtain ⟨⟨n0,n1,n2,n3,n4⟩,nz⟩:=zan HN6.out;have HW7:=kA (HW7F.out w6 gm cm HN6.out HB6.out HR6.out HRR6.out HG6.out);clear hr6 hrr6 hg6 hb6)
  |(go_at_call 86;go_loud (refine (ztj (n:=⟨1,name,v,ms⟩) (HBW.out.below HW7.out.2.1) HOK.out 0 (fun _=>HW7.out.2.2) HFIT.out).mono ?_;rintro e w8 ⟨rfl,A',c',f',hz8,hb8,hx8,ha8⟩;dsimp only;obtain ⟨⟨k0,k1,k2,k3,k4⟩,kz⟩:=zan (HW7.out.1.kept ha8 (HNM.out _ HW4.out));have HZ8:=kA hz8;have HB8:=kA ((HBW.out.below HW7.out.2.1).bk_ ha8);have HX8:=kA hx8;have HN8:=kA (HW7.out.1.kept ha8 (HNM.out _ HW4.out));clear hz8 hb8 hx8 ha8))
  |(go_at_call 87;go_loud (refine (zl8 (n:=⟨1,name,v,ms⟩) HZ8.out HW.out HMAY.out hver 0 _ HX8.out).mono ?_;rintro e w9 ⟨rfl,L',hz9,hc9,hb9,ha9⟩;have j2:=(zan (HN8.out.kept ha9 (fun hm=>HNM.out _ HW4.out (hm.mt g gd _)))).1.2.2.1;have HZ9:=kA hz9;have HC9:=kA hc9;have HB9:=kA (HZ8.out.bk_ (ha9.mono fun k hk=>hk.mt g gd _));clear hz9 hc9 hb9 ha9)))
 go_ret2
 exact ⟨rfl,A',c',f',L',HZ9.out,HC9.out,(BK.of HW7.out.2.1 HBW.out.bw.b0l).trans (HB8.out.trans HB9.out)⟩
theorem znw {w:World}{b0 n c:Nat}{A:Option Addr}{xs:List Int}(h:Own w b0 (.slice A n c) xs):c≤9223372036854775807:=by
 rcases h.2 with ⟨e,_⟩|⟨g',cap,cur,e,_,_,_,h4,_⟩
 ·injection e with _ _ e3;omega
 ·injection e with _ _ e3
  unfold maxLen at h4
  omega
structure Wk (k:Nat)(C:Con):Prop where
 len:C.length≤k
 nd:(C.map Sh.name).Nodup
 sh:∀ s∈C,s.vs.length≤k∧1≤s.next∧s.next≤k+1∧s.live≤k∧(∀ p∈s.vs,p.1<s.next)∧(s.vs.length=0→s.live=0)∧(0<s.vs.length→hasV s s.live=true∧s.vs.length≤40)
 num:(C.filter (fun s=>decide (0<s.vs.length))).length≤20
theorem Wk.wf {k:Nat}{C:Con}(h:Wk k C)(hk:k≤900):WF C :=
 ⟨by have:=h.len;omega,fun s hs=>by obtain ⟨h1,h2,h3,h4,h5,h6,h7⟩:=h.sh s hs;exact ⟨by omega,by omega,by omega,h5,h6,h7⟩,h.num⟩
theorem Wk.nil:Wk 0 []:=⟨kJ _,List.nodup_nil,(fun _ h=>by cases h),by simp⟩
theorem Wk.mono {k k':Nat}{C:Con}(h:Wk k C)(hk:k≤k'):Wk k' C :=
 ⟨kH h.len hk,h.nd,fun s hs=>by obtain ⟨h1,h2,h3,h4,h5,h6,h7⟩:=h.sh s hs;exact ⟨by omega,h2,by omega,by omega,h5,h6,h7⟩,h.num⟩
theorem zc7 {C:Con}{name:ByteArray}{s:Sh}(h:fndC C name=some s):s∈C∧s.name=name:=⟨List.mem_of_find?_eq_some h,by simpa using List.find?_some h⟩
theorem zd7 {C:Con}{name:ByteArray}(h:fndC C name=none):∀ s∈C,s.name≠name:=fun s hs=>by simpa using List.find?_eq_none.1 h s hs
theorem zgd (C:Con)(name:ByteArray)(s':Sh)(h:s'.name=name):(updC C name s').map Sh.name=C.map Sh.name:=by
 unfold updC
 rw[qK]
 refine List.map_congr_left fun s _=>?_
 show (if s.name=name then s' else s).name=s.name
 split
 ·next e=>rw[h,e]
 ·rfl
theorem zeo {C:Con}{name:ByteArray}{s' x:Sh}(h:x∈updC C name s'):x=s'∨(x∈C∧x.name≠name):=by
 obtain ⟨s,hs,e⟩:=kO.1 h
 split at e
 ·exact .inl e.symm
 ·next hne=>exact .inr ⟨by rw[← e];exact hs,by rw[← e];exact hne⟩
theorem zy6 (bs:ByteArray):∀ (n i:Nat) (r:List UInt8),n=bs.size - i→ByteArray.toList.loop bs i r=r.reverse++bs.data.toList.drop i:=by
 intro n
 induction n with
 |zero =>
  intro i r h
  rw[ByteArray.toList.loop,kT (by omega),List.drop_of_length_le (by show bs.data.size≤i;have:bs.size=bs.data.size:=rfl;omega),qI]
 |succ n ih =>
  intro i r h
  have hi:i<bs.data.size:=by have:bs.size=bs.data.size:=rfl;omega
  rw[ByteArray.toList.loop,kZ (by omega),ih (i+1) _ (by omega),List.drop_eq_getElem_cons (l:=bs.data.toList) (i:=i) (by simpa using hi)]
  have:bs.get! i=bs.data.toList[i]'(by simpa using hi):=by
   show bs.data[i]! = _
   rw[getElem!_pos bs.data i hi];rfl
  rw[this]
  simp
theorem zft (bs:ByteArray):bs.toList=bs.data.toList:=by
 unfold ByteArray.toList
 rw[zy6 bs _ 0 [] rfl];simp
theorem zl9 {a b:ByteArray}(h:a.toList=b.toList):a=b:=by
 rw[zft,zft] at h
 exact ByteArray.ext (Array.toList_inj.1 h)
theorem zj0 (p:Sh→Bool):∀ (C:Con) (name:ByteArray) (s s':Sh),(C.map Sh.name).Nodup→s∈C→s.name=name→s'.name=name →
  ((updC C name s').filter p).length+(if p s=true then 1 else 0)=(C.filter p).length+(if p s'=true then 1 else 0):=by
 intro C
 induction C with
 |nil=>intro _ _ _ _ h;cases h
 |cons x C ih =>
  intro name s s' hn hs e1 e2
  rw[kM,List.nodup_cons] at hn
  rcases List.mem_cons.1 hs with rfl|hs'
  ·have hrest:updC C name s'=C:=by
    unfold updC
    conv=>rhs;rw[← List.map_id C]
    refine List.map_congr_left fun y hy=>?_
    rw[kT];rfl
    intro e
    exact hn.1 (kO.2 ⟨y,hy,by rw[e,e1]⟩)
   have:updC (s :: C) name s'=s' :: C:=by
    show (if s.name=name then s' else s) :: updC C name s'=_
    rw[kZ e1,hrest]
   rw[this,qL,qL]
   cases p s <;> cases p s' <;> simp
  ·have hx:x.name≠name:=fun e=>hn.1 (kO.2 ⟨s,hs',by rw[e1,e]⟩)
   have:updC (x :: C) name s'=x :: updC C name s':=by
    show (if x.name=name then s' else x) :: updC C name s'=_
    rw[kT hx]
   have:=ih name s s' hn.2 hs' e1 e2
   rw[‹updC (x :: C) name s'=_›,qL,qL]
   cases p x <;> simp only[if_true,if_false,List.length_cons,Bool.false_eq_true] <;> omega
theorem oth_le (C:Con)(name:ByteArray)(hn:(C.map Sh.name).Nodup):(C.filter (fun s=>decide (0<s.vs.length))).length≤(C.filter (othC name)).length+1:=by
 induction C with
 |nil=>simp
 |cons x C ih =>
  rw[kM,List.nodup_cons] at hn
  by_cases hx:x.name=name
  ·have h1:∀ s∈C,othC name s=decide (0<s.vs.length):=fun s hs=>by
    have:s.name≠name:=fun e=>hn.1 (kO.2 ⟨s,hs,by rw[e,hx]⟩)
    have h2:(s.name.toList == name.toList)=false:=by
     rw[kS]
     intro e
     exact this (zl9 e)
    unfold othC
    rw[h2];rfl
   rw[qL,qL]
   have h3:C.filter (othC name)=C.filter (fun s=>decide (0<s.vs.length)):=List.filter_congr h1
   rw[h3]
   split <;> split <;> simp <;> omega
  ·have:=ih hn.2
   rw[qL,qL]
   have h2:(x.name.toList == name.toList)=false:=by
    rw[kS]
    intro e
    exact hx (zl9 e)
   have h4:othC name x=decide (0<x.vs.length):=by unfold othC;rw[h2];rfl
   rw[h4]
   split <;> simp <;> omega
theorem znx {C:Con}{name:ByteArray}{s s':Sh}(hn:(C.map Sh.name).Nodup)(hs:fndC C name=some s)(hs':s'.name=name)(h:(C.filter (fun s=>decide (0<s.vs.length))).length≤20)(h2:0<s'.vs.length→0<s.vs.length∨(C.filter (othC name)).length<20) :
  ((updC C name s').filter (fun s=>decide (0<s.vs.length))).length≤20:=by
 obtain ⟨h3,h4⟩:=zc7 hs
 have h5:=zj0 (fun s=>decide (0<s.vs.length)) C name s s' hn h3 h4 hs'
 have h6:=oth_le C name hn
 simp only[decide_eq_true_eq] at h5
 by_cases h7:0<s'.vs.length
 ·rcases h2 h7 with h8|h8
  ·rw[kZ h7,kZ h8] at h5
   omega
  ·rw[kZ h7] at h5
   by_cases h9:0<s.vs.length
   ·rw[kZ h9] at h5;omega
   ·rw[kT h9] at h5
    -- those with versions are among the others
    have h10:(C.filter (fun s=>decide (0<s.vs.length))).length≤(C.filter (othC name)).length:=by
     have:C.filter (fun s=>decide (0<s.vs.length))=C.filter (othC name):=by
      refine List.filter_congr fun x hx=>?_
      by_cases hxn:x.name=name
      ·have hxs:x=s:=by
        have:∀ (C:Con),(C.map Sh.name).Nodup→x∈C→s∈C→x.name=s.name→x=s:=by
         intro C
         induction C with
         |nil=>intro _ h;cases h
         |cons y C ih =>
          intro hn hx hs e
          rw[kM,List.nodup_cons] at hn
          rcases List.mem_cons.1 hx with rfl|hx
          ·rcases List.mem_cons.1 hs with rfl|hs
           ·rfl
           ·exact absurd (kO.2 ⟨s,hs,e.symm⟩) hn.1
          ·rcases List.mem_cons.1 hs with hsy|hs
           ·exact absurd (kO.2 ⟨x,hx,by rw[e,hsy]⟩) hn.1
           ·exact ih hn.2 hx hs e
        exact this C hn hx h3 (by rw[hxn,h4])
       subst hxs
       have e1:decide (0<x.vs.length)=false:=by simpa using h9
       unfold othC
       rw[e1,Bool.and_false]
      ·have h2:(x.name.toList == name.toList)=false:=by
        rw[kS]
        intro e
        exact hxn (zl9 e)
       unfold othC
       rw[h2];rfl
     rw[this]
     exact kJ _
    omega
 ·rw[kT h7] at h5
  omega
theorem zdt {s:Sh}{v:Nat}:hasV s v=true↔∃ p∈s.vs,p.1=v:=by
 unfold hasV
 rw[List.any_eq_true]
 simp
theorem wk_pf {k:Nat}{C:Con}(h:Wk k C){n:Nt}(hm:mayC C n)(_hk:k≤900):Wk (k+1) (pfC C n):=by
 have h':=h.mono (Nat.le_succ k)
 rcases hm with ⟨h1,h2,h3⟩|⟨h1,h2⟩
 ·have hfull:(C.filter (othC n.name)).length<20∧numC C n.name<40:=by
   unfold fullC at h3
   simp only[Bool.or_eq_false_iff,decide_eq_false_iff_not] at h3
   omega
  unfold pfC
  rw[kZ h1]
  rcases hf:fndC C n.name with _|s
  ·have hnx:n.vy=1:=by rw[h2];unfold nextC;rw[hf]
   simp only
   refine ⟨by have:=h.len;simp;omega,?_,?_,?_⟩
   ·rw[kL,List.nodup_append]
    refine ⟨h.nd,by simp,?_⟩
    intro a ha b hb
    rw[kM,List.map_nil,kP] at hb
    subst hb
    obtain ⟨s,hs,rfl⟩:=kO.1 ha
    exact zd7 hf s hs
   ·intro s hs
    rcases kU.1 hs with hs|hs
    ·exact h'.sh s hs
    ·rw[kP] at hs
     subst hs
     simp[hasV,hnx] <;> omega
   ·rw[List.filter_append,kI]
    have:C.filter (fun s=>decide (0<s.vs.length))=C.filter (othC n.name):=by
     refine List.filter_congr fun x hx=>?_
     have h2:(x.name.toList == n.name.toList)=false:=by
      rw[kS]
      intro e
      exact zd7 hf x hx (zl9 e)
     unfold othC
     rw[h2];rfl
    rw[this]
    have:=hfull.1
    simp <;> omega
  ·obtain ⟨hsm,hsn⟩:=zc7 hf
   have hnx:n.vy=s.next:=by rw[h2];unfold nextC;rw[hf]
   obtain ⟨s1,s2,s3,s4,s5,s6,s7⟩:=h.sh s hsm
   have hnum:s.vs.length<40:=by have:=hfull.2;unfold numC at this;rw[hf] at this;exact this
   simp only
   refine ⟨by unfold updC;rw[kN];exact h'.len,by rw[zgd C n.name _ (by exact hsn)];exact h.nd,?_,znx h.nd hf hsn h.num (fun _ => .inr hfull.1)⟩
   intro x hx
   rcases zeo hx with rfl|⟨hx,_⟩
   ·unfold putS
    simp only[kI,qJ]
    refine ⟨by omega,by omega,by omega,?_,?_,fun h=>by omega,fun _=>⟨?_,by omega⟩⟩
    ·split <;> omega
    ·intro p hp
     rcases kU.1 hp with hp|hp
     ·have:=s5 p hp;omega
     ·rw[kP] at hp
      subst hp
      exact Nat.lt_succ_self _
    ·rw[zdt]
     split
     ·exact ⟨(n.vy,n.ms),kU.2 (.inr (kP.2 rfl)),rfl⟩
     ·next hne =>
      obtain ⟨p,hp,e⟩:=zdt.1 (s7 (by omega)).1
      exact ⟨p,kU.2 (.inl hp),e⟩
   ·exact h'.sh x hx
 ·have hk1:¬ n.kind=1:=by rcases h1 with h|h <;> rw[h] <;> decide
  unfold pfC
  rw[kT hk1]
  unfold refC at h2
  rcases hf:fndC C n.name with _|s
  ·rw[hf] at h2;cases h2
  ·rw[hf] at h2
   simp only at h2 ⊢
   obtain ⟨hsm,hsn⟩:=zc7 hf
   obtain ⟨s1,s2,s3,s4,s5,s6,s7⟩:=h.sh s hsm
   split at h2
   ·cases h2
   ·next hlen =>
    split at h2
    ·cases h2
    ·next hhas =>
     have hhas:hasV s n.vy=true:=by cases hh:hasV s n.vy <;> simp_all
     obtain ⟨p0,hp0,ep0⟩:=zdt.1 hhas
     split at h2
     ·cases h2
     ·next hdrop =>
      split
      ·refine ⟨by unfold updC;rw[kN];exact h'.len,by rw[zgd C n.name _ (by exact hsn)];exact h.nd,?_,znx h.nd hf hsn h.num (fun h => .inl h)⟩
       intro x hx
       rcases zeo hx with rfl|⟨hx,_⟩
       ·have h9:=s5 p0 hp0
        refine ⟨by show s.vs.length≤_;omega,s2,by show s.next≤_;omega,by show n.vy≤_;omega,s5,fun h=>absurd h hlen,fun h=>⟨?_,(s7 h).2⟩⟩
        rw[zdt]
        exact ⟨p0,hp0,ep0⟩
       ·exact h'.sh x hx
      ·next hk2 =>
       have hk3:n.kind=3:=by rcases h1 with h|h;exact absurd h hk2;exact h
       have hle:(s.vs.filter (fun p=>decide (p.1≠n.vy))).length≤s.vs.length:=List.length_filter_le _ _
       refine ⟨by unfold updC;rw[kN];exact h'.len,by rw[zgd C n.name _ (by exact hsn)];exact h.nd,?_,znx h.nd hf hsn h.num (fun h => .inl (by unfold dropS at h;simp only at h;omega))⟩
       intro x hx
       rcases zeo hx with rfl|⟨hx,_⟩
       ·unfold dropS
        simp only
        refine ⟨by omega,s2,by omega,by split <;> omega,fun p hp=>s5 p ((List.mem_filter.1 hp).1),fun h=>by rw[kZ h],fun h=>⟨?_,by have:=(s7 (by omega)).2;omega⟩⟩
        rw[kT (by omega),zdt]
        obtain ⟨p,hp,e⟩:=zdt.1 (s7 (by omega)).1
        refine ⟨p,List.mem_filter.2 ⟨hp,?_⟩,e⟩
        rw[e]
        simp only[decide_eq_true_eq]
        intro e2
        refine hdrop ⟨hk3,e2.symm,?_⟩
        have:(s.vs.filter (fun p=>decide (p.1≠n.vy))).length<s.vs.length:=by
         rw[List.length_filter_lt_length_iff_exists]
         exact ⟨p0,hp0,by simp[ep0]⟩
        omega
       ·exact h'.sh x hx
theorem zy7:∀ (ns:List Nt) (C:Con) (n:Nt),Ch C ns→mayC (ns.foldl pfC C) n→NtOk n→WF (pfC (ns.foldl pfC C) n)→Ch C (ns++[n]):=by
 intro ns
 induction ns with
 |nil=>intro C n h hm hn hw;exact ⟨h,hm,hn,hw⟩
 |cons m ns ih=>intro C n h hm hn hw;exact ⟨h.1,h.2.1,h.2.2.1,ih _ n h.2.2.2 hm hn hw⟩
abbrev con (ns:List Nt):Con:=ns.foldl pfC []
def BS (w:World)(B g gd room k:Nat)(ns:List Nt):Prop:=∃ (bm:Nat) (A:Option Addr) (c:Nat) (S:St) (f:Int) (L:List Ly),Bz w B g gd bm A c S f L∧S.xs=jl ns∧S.room=room∧L.map Ly.s=con ns∧Ch [] ns∧Wk k (con ns)∧S.xs.length≤k*20000
theorem BS.below {w w':World}{B g gd room k:Nat}{ns:List Nt}(h:BS w B g gd room k ns)(hb:Below w.heap.size w w'):BS w' B g gd room k ns:=by
 obtain ⟨bm,A,c,S,f,L,h1,h2⟩:=h
 exact ⟨bm,A,c,S,f,L,h1.below hb,h2⟩
theorem BS.more {w:World}{B g gd room k:Nat}{ns:List Nt}(h:BS w B g gd room k ns):BS w B g gd room (k+1) ns:=by
 obtain ⟨bm,A,c,S,f,L,h1,h2,h3,h4,h5,h6,h7⟩:=h
 exact ⟨bm,A,c,S,f,L,h1,h2,h3,h4,h5,h6.mono (Nat.le_succ k),kH h7 (Nat.mul_le_mul_right _ (Nat.le_succ k))⟩
def DS (w:World)(B gd room k:Nat)(ns:List Nt):Prop:=∃ (A:Option Addr) (c:Nat) (S:St) (f:Int),Blk w gd 154 (pc (.slice A S.xs.length c) S f)∧Own w B (.slice A S.xs.length c) S.xs∧Ok S∧S.fuse=none∧S.dead=false∧S.safe=S.xs.length∧(B≤gd∧B≤w.heap.size)∧S.xs=jl ns∧S.room=room∧Ch [] ns∧Wk k (con ns)∧S.xs.length≤k*20000
theorem DS.below {w w':World}{B gd room k:Nat}{ns:List Nt}(h:DS w B gd room k ns)(hb:Below w.heap.size w w'):DS w' B gd room k ns:=by
 obtain ⟨A,c,S,f,h1,h2,h3,h4,h5,h6,h7,h8⟩:=h
 exact ⟨A,c,S,f,zab h1 hb,zam h2 hb,h3,h4,h5,h6,⟨h7.1,kH h7.2 hb.size⟩,h8⟩
theorem zvv {w:World}{g gd bm size:Nat}{D:Option Nat}{L:List Ly}(h:Bk w g gd bm D size L)(name:ByteArray) :
  Calls Tryz.prog 41 #[.pointer (some ⟨g,0,none⟩),.string name] w fun e w'=>e = .returned (if numOf L name=0 then .tuple #[.int .i64 0,.int .i64 11] else .tuple #[.int .i64 (liveOf L name:Int),.int .i64 0])∧Below w.heap.size w w':=by
 have HBK:=kA h
 clear h
 go_enter Tryz.func41,Tryz.ntmps41
 go_upto_region 2 with (go_at_call 90;refine (zdk HBK.out name).mono ?_;rintro e w2 ⟨rfl,hb⟩;have HBK2:=kA (zal HBK.out hb);have HB:=kA hb;clear hb;unfold shv)
 have HS:Hid (Blk (w2.alloc (.cells #[.int .i64 (nextOf L name:Int),.int .i64 (liveOf L name:Int),.map (verOf L name)] 240)) w2.heap.size 240 #[.int .i64 (nextOf L name:Int),.int .i64 (liveOf L name:Int),.map (verOf L name)]):=kA (Blk.new w2 _ _)
 have HB3:Hid (Below w.heap.size w (w2.alloc (.cells #[.int .i64 (nextOf L name:Int),.int .i64 (liveOf L name:Int),.map (verOf L name)] 240))):=kA (HB.out.alloc HB.out.size _)
 have HBK3:Hid (Bk (w2.alloc (.cells #[.int .i64 (nextOf L name:Int),.int .i64 (liveOf L name:Int),.map (verOf L name)] 240)) g gd bm D size L):=kA (zal HBK2.out (Below.new1 w2 _))
 clear HB HBK2
 generalize w2.alloc (.cells #[.int .i64 (nextOf L name:Int),.int .i64 (liveOf L name:Int),.map (verOf L name)] 240)=W3 at HS HB3 HBK3 ⊢
 generalize w2.heap.size=gs at HS ⊢
 obtain ⟨⟨s0,s1,s2⟩,sz⟩:=zat HS.out
 have hlen:=zkf HBK3.out name
 have hnum:=zno HBK3.out name
 obtain ⟨b1,b2,b3⟩:=hnum
 by_cases h0:numOf L name=0
 ·rw[h0] at hlen
  go_wp2
  go_ret2
  exact ⟨rfl,HB3.out⟩
 ·have hne:((numOf L name:Int) == 0)=false:=by simp;omega
  go_wp2
  go_ret2
  exact ⟨rfl,HB3.out⟩
def AllOne (cs:Array Value):Prop:=cs.all (·.oneCell')=true
def ReadIs (ms:List Int)(P:World→World→Array Value→Prop):Prop:=∀ (W:World) (ad:Addr) (c:Nat),RowR W ad c ms→0<ms.length→Calls Tryz.prog 35 #[.slice (some ad) ms.length c] W fun e w'=>∃ cs:Array Value,e = .returned (.tuple #[.agg cs,.int .i64 0])∧cs.size=59∧AllOne cs∧P W w' cs∧Below W.heap.size W w'
def GetOk (P:World→World→Array Value→Prop)(w:World)(e:Ending)(w':World):Prop:=∃ cs W W',e = .returned (.tuple #[.agg cs,.int .i64 0])∧cs.size=59∧AllOne cs∧Below w.heap.size w W∧P W W' cs∧Below W.heap.size W W'∧w.heap.size<W.heap.size∧Alt W' w' (fun k=>k=w.heap.size)∧Below w.heap.size w w'
theorem get_ok {w:World}{g gd bm size:Nat}{D:Option Nat}{L:List Ly}(h:Bk w g gd bm D size L){name:ByteArray}{l:Ly}(hf:fnd L name=some l)(vy v2:Nat)(hv:v2=if vy=0 then l.live else vy)(hvb:vy≤1000000){r:Vr}(hr:fndV l v2=some r){P:World→World→Array Value→Prop}(hread:ReadIs r.ms P) :
  Calls Tryz.prog 40 #[.pointer (some ⟨g,0,none⟩),.string name,.int .i64 (vy:Int)] w (GetOk P w):=by
 have HBK:=kA h
 have HF:=kA hf
 have HR:=kA hr
 have HRD:=kA hread
 have HV:=kA hv
 clear h hf hr hread hv
 go_enter Tryz.func40,Tryz.ntmps40
 go_upto_region 1 with fail
 generalize hW:w.alloc _=W1
 have HZ:Hid (∃ z:Array Value,z.size=59∧Blk W1 w.heap.size 90 z):=kA ⟨_,rfl,by rw[← hW];exact Blk.new w _ _⟩
 have HB1:Hid (Below w.heap.size w W1):=kA (by rw[← hW];exact Below.new1 w _)
 clear hW
 obtain ⟨z,hzs,hzb⟩:=HZ.out
 have HZS:=kA hzs
 have HZB:=kA hzb
 clear HZ hzs hzb
 go_upto_region 2 with (go_at_call 90;refine (zdk (zal HBK.out HB1.out) name).mono ?_;rintro e w2 ⟨rfl,hb⟩;have HB2:=kA (HB1.out.trans (hb.mono HB1.out.size));have HZB2:=kA (zab HZB.out hb);clear hb;rw[zo4 HF.out];unfold shc)
 have HS:Hid (Blk (w2.alloc (.cells #[.int .i64 (l.next:Int),.int .i64 (l.live:Int),.map (some l.bv)] 240)) w2.heap.size 240 #[.int .i64 (l.next:Int),.int .i64 (l.live:Int),.map (some l.bv)]):=kA (Blk.new w2 _ _)
 have HB3:Hid (Below w.heap.size w (w2.alloc (.cells #[.int .i64 (l.next:Int),.int .i64 (l.live:Int),.map (some l.bv)] 240))):=kA (HB2.out.alloc HB2.out.size _)
 have HZB3:Hid (Blk (w2.alloc (.cells #[.int .i64 (l.next:Int),.int .i64 (l.live:Int),.map (some l.bv)] 240)) w.heap.size 90 z):=kA (HZB2.out.alloc _)
 clear HB2 HZB2
 generalize w2.alloc (.cells #[.int .i64 (l.next:Int),.int .i64 (l.live:Int),.map (some l.bv)] 240)=W3 at HS HB3 HZB3 ⊢
 generalize w2.heap.size=gs at HS ⊢
 obtain ⟨⟨s0,s1,s2⟩,sz⟩:=zat HS.out
 have HBK3:=kA (zal HBK.out HB3.out)
 have hlen:=zds HBK3.out (zax HF.out).1
 have hver:=znp HBK3.out (zax HF.out).1 v2
 have HRR:Hid (∀ W,Below w.heap.size w W→∃ ad c,r.x = .slice (some ad) r.ms.length c∧0<r.ms.length∧RowR W ad c r.ms):=kA fun W hb=>by
  have hbk:=zal HBK.out hb
  obtain ⟨ad,c,e,h0,_,_,hrr⟩:=(hbk.sh l (zax HF.out).1).2.2 r (zhb HR.out).1
  exact ⟨ad,c,e,h0,hrr⟩
 obtain ⟨ad,c,hx,hms,hrow⟩:=HRR.out W3 HB3.out
 have HROW:=kA hrow
 have HMS:=kA hms
 have hrx:((fndV l v2).map (·.x)).getD (.slice none 0 0) = .slice (some ad) r.ms.length c:=by rw[HR.out];exact hx
 have hrs:(fndV l v2).isSome=true:=by rw[HR.out];rfl
 rw[hrx,hrs] at hver
 have hpos:0<l.V.length:=List.length_pos_of_mem (zhb HR.out).1
 have hne:((l.V.length:Int) == 0)=false:=by rw[kS];omega
 clear hrx hrs hpos hx hms hrow
 obtain ⟨L2,hL2⟩:∃ L2,L2=r.ms.length:=⟨_,rfl⟩
 have HL2:=kA hL2
 rw[← hL2] at hver
 clear hL2
 have HCALL:Hid (∀ W,W=W3∨W=W3.drew→Calls Tryz.prog 35 #[.slice (some ad) L2 c] W fun e w'=>∃ cs:Array Value,e = .returned (.tuple #[.agg cs,.int .i64 0])∧cs.size=59∧AllOne cs∧P W w' cs∧Below W.heap.size W w'):=kA fun W hW=>by
  rw[HL2.out]
  rcases hW with rfl|rfl
  ·exact HRD.out W ad c HROW.out HMS.out
  ·exact HRD.out _ ad c (show RowR W3.drew ad c r.ms from HROW.out) HMS.out
 by_cases h0:vy=0
 ·subst h0
  have hlv:v2=l.live:=by rw[HV.out,kZ rfl]
  subst hlv
  go_wp2_with (first
   |(go_at_call 35;refine (HCALL.out _ (by first|exact .inl rfl|exact .inr rfl)).mono ?_;rintro e w4 ⟨cs,rfl,hc1,hc2,hp,hb4⟩;dsimp only;have HC1:=kA hc1;have HC2:=kA hc2;have HP:=kA hp;have HB4:=kA hb4;have HZB4:=kA (zab HZB3.out hb4);clear hc1 hc2 hp hb4)
   |(refine zaw _ rfl 90 _ _ rfl w.heap.size z cs 90 rfl rfl (by exact HZB4.out) (HC1.out.symm ▸ zba) (HZS.out.trans HC1.out.symm) HC2.out ?_;intro w5 hb5 ha5 hs5;have HB5:=kA hb5;have HA5:=kA ha5;clear hb5 ha5 hs5))
  refine bodyPost_ret (zbs rfl _ _ w.heap.size cs _ _ rfl HB5.out Tryz.underlying90 rfl (HC1.out.symm ▸ zba)) rfl ?_
  have hsz:w.heap.size<W3.heap.size:=HZB3.out.lt
  first
   |exact ⟨cs,W3,w4,rfl,HC1.out,HC2.out,HB3.out,HP.out,HB4.out,hsz,HA5.out,(HB3.out.trans (HB4.out.mono HB3.out.size)).trans (Alt.toBelow HA5.out (fun k _ e=>by rw[e];exact kJ _) (kH HB3.out.size HB4.out.size))⟩
   |exact ⟨cs,W3.drew,w4,rfl,HC1.out,HC2.out,HB3.out.drew,HP.out,HB4.out,hsz,HA5.out,(HB3.out.drew.trans (HB4.out.mono HB3.out.size)).trans (Alt.toBelow HA5.out (fun k _ e=>by rw[e];exact kJ _) (kH HB3.out.size HB4.out.size))⟩
 ·have hlv:v2=vy:=by rw[HV.out,kT h0]
  subst hlv
  have hz:((v2:Int) == 0)=false:=by rw[kS];omega
  go_wp2_with (first
   |(go_at_call 35;refine (HCALL.out _ (by first|exact .inl rfl|exact .inr rfl)).mono ?_;rintro e w4 ⟨cs,rfl,hc1,hc2,hp,hb4⟩;dsimp only;have HC1:=kA hc1;have HC2:=kA hc2;have HP:=kA hp;have HB4:=kA hb4;have HZB4:=kA (zab HZB3.out hb4);clear hc1 hc2 hp hb4)
   |(refine zaw _ rfl 90 _ _ rfl w.heap.size z cs 90 rfl rfl (by exact HZB4.out) (HC1.out.symm ▸ zba) (HZS.out.trans HC1.out.symm) HC2.out ?_;intro w5 hb5 ha5 hs5;have HB5:=kA hb5;have HA5:=kA ha5;clear hb5 ha5 hs5))
  refine bodyPost_ret (zbs rfl _ _ w.heap.size cs _ _ rfl HB5.out Tryz.underlying90 rfl (HC1.out.symm ▸ zba)) rfl ?_
  have hsz:w.heap.size<W3.heap.size:=HZB3.out.lt
  first
   |exact ⟨cs,W3,w4,rfl,HC1.out,HC2.out,HB3.out,HP.out,HB4.out,hsz,HA5.out,(HB3.out.trans (HB4.out.mono HB3.out.size)).trans (Alt.toBelow HA5.out (fun k _ e=>by rw[e];exact kJ _) (kH HB3.out.size HB4.out.size))⟩
   |exact ⟨cs,W3.drew,w4,rfl,HC1.out,HC2.out,HB3.out.drew,HP.out,HB4.out,hsz,HA5.out,(HB3.out.drew.trans (HB4.out.mono HB3.out.size)).trans (Alt.toBelow HA5.out (fun k _ e=>by rw[e];exact kJ _) (kH HB3.out.size HB4.out.size))⟩
def zM:Array Value:=#[.int .i64 0,.int .i64 0,.int .i64 0,.slice none 0 0,.slice none 0 0,.slice none 0 0,.slice none 0 0,.bool false,.int .u64 0,.string ⟨#[]⟩,.int .u64 0,.string ⟨#[]⟩,.int .i64 0,.int .i64 0,.int .i64 0,.slice none 0 0,.int .i64 0,.int .i64 0,.int .i64 0,.slice none 0 0,.slice none 0 0,.int .i64 0,.int .i64 0,.bool false,.int .u64 0,.string ⟨#[]⟩,.int .u64 0,.string ⟨#[]⟩,.bool false,.int .u64 0,.string ⟨#[]⟩,.int .u64 0,.string ⟨#[]⟩,.bool false,.int .u64 0,.string ⟨#[]⟩,.int .u64 0,.string ⟨#[]⟩,.slice none 0 0,.slice none 0 0,.bool false,.int .u64 0,.string ⟨#[]⟩,.int .u64 0,.string ⟨#[]⟩,.slice none 0 0,.slice none 0 0,.slice none 0 0,.slice none 0 0,.slice none 0 0,.bool false,.int .u64 0,.string ⟨#[]⟩,.int .u64 0,.string ⟨#[]⟩,.slice none 0 0,.slice none 0 0,.slice none 0 0,.slice none 0 0]
theorem zM_one:zM.all (·.oneCell')=true:=by kernel_rfl
def GetErr (r:Int)(w:World)(e:Ending)(w':World):Prop:=e = .returned (.tuple #[.agg zM,.int .i64 r])∧Below w.heap.size w w'
theorem zvw {w:World}{g gd bm size:Nat}{D:Option Nat}{L:List Ly}(h:Bk w g gd bm D size L)(name:ByteArray)(vy:Nat)(h0:numOf L name=0) :
  Calls Tryz.prog 40 #[.pointer (some ⟨g,0,none⟩),.string name,.int .i64 (vy:Int)] w (GetErr 11 w):=by
 have HBK:=kA h
 clear h
 go_enter Tryz.func40,Tryz.ntmps40
 go_upto_region 1 with fail
 generalize hW:w.alloc _=W1
 have HZ:Hid (∃ z:Array Value,z.size=59∧Blk W1 w.heap.size 90 z):=kA ⟨_,rfl,by rw[← hW];exact Blk.new w _ _⟩
 have HB1:Hid (Below w.heap.size w W1):=kA (by rw[← hW];exact Below.new1 w _)
 clear hW
 obtain ⟨z,hzs,hzb⟩:=HZ.out
 have HZS:=kA hzs
 have HZB:=kA hzb
 clear HZ hzs hzb
 go_upto_region 2 with (go_at_call 90;refine (zdk (zal HBK.out HB1.out) name).mono ?_;rintro e w2 ⟨rfl,hb⟩;have HB2:=kA (HB1.out.trans (hb.mono HB1.out.size));have HZB2:=kA (zab HZB.out hb);clear hb;unfold shv)
 have HS:Hid (Blk (w2.alloc (.cells #[.int .i64 (nextOf L name:Int),.int .i64 (liveOf L name:Int),.map (verOf L name)] 240)) w2.heap.size 240 #[.int .i64 (nextOf L name:Int),.int .i64 (liveOf L name:Int),.map (verOf L name)]):=kA (Blk.new w2 _ _)
 have HB3:Hid (Below w.heap.size w (w2.alloc (.cells #[.int .i64 (nextOf L name:Int),.int .i64 (liveOf L name:Int),.map (verOf L name)] 240))):=kA (HB2.out.alloc HB2.out.size _)
 have HZB3:Hid (Blk (w2.alloc (.cells #[.int .i64 (nextOf L name:Int),.int .i64 (liveOf L name:Int),.map (verOf L name)] 240)) w.heap.size 90 z):=kA (HZB2.out.alloc _)
 clear HB2 HZB2
 generalize w2.alloc (.cells #[.int .i64 (nextOf L name:Int),.int .i64 (liveOf L name:Int),.map (verOf L name)] 240)=W3 at HS HB3 HZB3 ⊢
 generalize w2.heap.size=gs at HS ⊢
 obtain ⟨⟨s0,s1,s2⟩,sz⟩:=zat HS.out
 have HBK3:=kA (zal HBK.out HB3.out)
 have hlen:=zkf HBK3.out name
 rw[h0] at hlen
 go_wp2_with (first
  |(refine zaw _ rfl 90 (.tmp 6) (.tmp 18) rfl w.heap.size z zM 90 rfl rfl (by exact HZB3.out) zba HZS.out zM_one ?_;intro w5 hb5 ha5 hs5;have HB5:=kA hb5;have HA5:=kA ha5;clear hb5 ha5 hs5))
 refine bodyPost_ret (zbs rfl _ _ w.heap.size zM _ _ rfl HB5.out Tryz.underlying90 rfl zba) rfl ⟨rfl,?_⟩
 first
  |exact HB3.out.trans (Alt.toBelow HA5.out (fun k _ e=>by rw[e];exact kJ _) HB3.out.size)
  |exact HB3.out.drew.trans (Alt.toBelow HA5.out (fun k _ e=>by rw[e];exact kJ _) HB3.out.size)
theorem zvx (n m:Int)(h0:0<m):(if n.tmod m<0 then n.tmod m+m else n.tmod m)=n % m:=by
 have h1:=Int.emod_nonneg n (by omega:m≠0)
 have h2:=Int.emod_lt_of_pos n h0
 by_cases hn:0≤n
 ·rw[Int.tmod_eq_emod_of_nonneg hn,kT (by omega)]
 ·have e:=Int.tmod_eq_emod (a:=n) (b:=m)
  by_cases hd:m ∣ n
  ·rw[kZ (.inr hd)] at e
   rw[e,kT (by omega)];omega
  ·rw[kT (by rintro (h|h) <;> contradiction)] at e
   have:(m.natAbs:Int)=m:=by omega
   rw[e,kZ (by omega)];omega
theorem pick_any (n m:Int)(w:World)(h0:0<m)(h1:m≤1000000) :
  Calls Tryz.prog 4 #[.int .i64 n,.int .i64 m] w fun e w'=>e = .returned (.int .i64 (n % m))∧w=w':=by
 have hm0:(m == 0)=false:=by simp;omega
 have hf:=kA (zvx n m h0)
 have hb : -m<n.tmod m∧n.tmod m<m:=by
  have:=Int.tmod_lt_of_pos n h0
  have h3:=Int.lt_tmod_of_pos n h0
  omega
 obtain ⟨hb1,hb2⟩:=hb
 go_enter Tryz.func4,Tryz.ntmps4
 go_wp2
 ·go_ret
  refine ⟨zss ?_,rfl⟩
  rw[← hf.out,kZ (by assumption)]
  done
 ·go_ret
  refine ⟨zss ?_,rfl⟩
  rw[← hf.out,kT (by omega)]
theorem zib (ad:Addr)(k j:Nat)(hj:0<j):(⟨(ad.add k).block,(ad.add k).off+j,none⟩:Addr)=ad.add (k+j):=by
 unfold Addr.add
 by_cases hk:k=0
 ·subst hk
  simp[show ¬ j=0 by omega]
 ·simp[hk,Nat.add_assoc]
def nA:ByteArray:=⟨#[97]⟩
def IsOk (name:ByteArray):Prop:=∀ W:World,Calls Tryz.prog 82 #[.string name] W fun e w'=>e = .returned (.bool true)∧Below W.heap.size W w'
def Mdl (n:Int)(ms:List Int):Prop:=IsB ms∧0<ms.length∧ms.length≤12000∧ReadOk ms∧∀ W,Calls Tryz.prog 11 #[.int .i64 n] W fun e w'=>∃ cs,e = .returned (.agg cs)∧MOk w' cs ms∧Below W.heap.size W w'
theorem ntA {kind:Int}{v:Nat}{ms:List Int}(hk:kind=1∨kind=2∨kind=3)(hv:v≤100000)(his:IsOk nA)(hm:kind=1→IsB ms∧0<ms.length∧ms.length≤12000∧ReadOk ms):NtOk ⟨kind,nA,v,ms⟩ :=
 ⟨(by decide:nA.size≤20),(by decide:0<nA.size),(by decide:strOf (nums nA)=nA),hv,hk,his,hm⟩
end Go.Proofs.YtemgclnkgieldaaGreatDoor.Oc
