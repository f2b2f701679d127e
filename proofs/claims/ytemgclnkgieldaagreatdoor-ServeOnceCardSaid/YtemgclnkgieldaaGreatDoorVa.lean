/- Plain law of the disks (no program in sight); rows, blocks, what may have changed. -/
import Derived.Test.YtemgclnkgieldaaGreatDoorProg
import Derived.WalkSpells
import Derived.WalkLawsBesides
import Derived.Lib.Hide
import Derived.BigQuiet
import Derived.Deep.AppendLies
import Derived.Deep.RegionHeld3
import Derived.Deep.Upon
import Derived.Deep.CutBlock
import Derived.Laws.CopyOwn
set_option maxHeartbeats 4000000
set_option maxRecDepth 100000
namespace Go.Proofs.YtemgclnkgieldaaGreatDoor.Dk
open Go Go.RowKit
set_option linter.defProp false
def kB:=@List.getElem_cons_zero
def kC:=@List.getElem_cons_succ
def kD:=@List.getElem_toArray
def kE:=@List.setIfInBounds_toArray
def kF:=@List.set_cons_succ
def kG:=@List.set_cons_zero
def kH:=@Nat.le_trans
def kI:=@List.length_append
def kJ:=@Nat.le_refl
def kK:=@List.getElem?_eq_some_iff
def kL:=@List.map_append
def kM:=@List.map_cons
def kN:=@List.length_map
def kO:=@List.mem_map
def kP:=@List.mem_singleton
def kQ:=@decide_eq_false
def kR:=@List.append_assoc
def kS:=@beq_eq_false_iff_ne
def kT:=@if_neg
def kU:=@List.mem_append
def kV:=@List.getElem?_eq_getElem
def kW:=@decide_eq_true
def kX:=@Nat.zero_le
def kY:=@List.getElem?_append_right
def kZ:=@if_pos
def qB:=@List.getElem?_append_left
def qD:=@List.flatten_cons
def qE:=@Nat.lt_of_lt_of_le
def qG:=@List.eq_nil_of_length_eq_zero
def qH:=@List.mem_of_getElem?
def qI:=@List.append_nil
def qJ:=@List.length_singleton
def qK:=@List.map_map
def qL:=@List.filter_cons
def qM:=@Nat.mod_eq_of_lt
def qN:=@List.flatMap_cons
def qO:=@List.mem_cons_self
def qP:=@List.mem_cons_of_mem
def qQ:=@List.flatten_append
def qR:=@IntWalk.i64_in
theorem kA {p:Prop} (h:p):RowKit.Hid p:=h
structure St where
 xs:List Int
 room:Nat
 safe:Nat
 fuse:Option Nat
 dead:Bool
def wr (S:St)(b:List Int):Int×St :=
 if S.dead=true then (15,S) else if S.room<S.xs.length+b.length then (14,S) else
  match S.fuse with
  |none=>(0,{ S with xs:=S.xs++b })
  |some k=>if b.length≤k then (0,{ S with xs:=S.xs++b,fuse:=some (k - b.length) }) else (15,{ S with xs:=S.xs++b.take k,fuse:=some 0,dead:=true })
def sy (S:St):Int×St:=if S.dead=true then (15,S) else (0,{ S with safe:=S.xs.length })
def sw (S:St)(b:List Int):Int×St :=
 if S.dead=true then (15,S) else if S.room<b.length then (14,S) else
  match S.fuse with
  |none=>(0,{ S with xs:=b,safe:=b.length })
  |some k=>if b.length≤k then (0,{ S with xs:=b,safe:=b.length,fuse:=some (k - b.length) }) else (15,{ S with fuse:=some 0,dead:=true })
def fu (S:St)(n:Nat):St:={ S with fuse:=some n }
def Ok (S:St):Prop:=S.xs.length≤S.room∧S.room≤4194304∧S.safe≤S.xs.length∧∀ k,S.fuse=some k→k≤1000000
structure Alt (w w':World)(p:Nat→Prop):Prop where
 os:w'.os=w.os
 tape:w'.tape=w.tape
 output:w'.output=w.output
 size:w.heap.size≤w'.heap.size
 block:∀ k,k<w.heap.size→¬ p k→w'.heap[k]? = w.heap[k]?
section
variable {w w' w'':World}{p q:Nat→Prop}
theorem Alt.refl (w:World)(p:Nat→Prop):Alt w w p:=⟨rfl,rfl,rfl,kJ _,fun _ _ _=>rfl⟩
theorem Alt.mono (h:Alt w w' p)(hp:∀ k,p k→q k):Alt w w' q:=⟨h.os,h.tape,h.output,h.size,fun k hk hq=>h.block k hk fun h=>hq (hp k h)⟩
theorem Alt.trans (h:Alt w w' p)(h':Alt w' w'' q)(hp:∀ k,k<w.heap.size→q k→p k):Alt w w'' p :=
 ⟨h'.os.trans h.os,h'.tape.trans h.tape,h'.output.trans h.output,kH h.size h'.size,fun k hk hk'=>(h'.block k (qE hk h.size) fun hq=>hk' (hp k hk hq)).trans (h.block k hk hk')⟩
theorem Alt.drewN (h:Alt w w' p)(n:Nat):Alt w (w'.drewN n) p:=⟨h.os,h.tape,h.output,h.size,h.block⟩
theorem Alt.set_ (h:Alt w w' p){a:Addr}(hp:p a.block)(v:Value):Alt w (w'.setCell a v) p :=
 ⟨h.os,h.tape,h.output,by simpa using h.size,fun k hk hk'=>(Below.heap_setCell w' a v k (fun e=>hk' (by rw[e];exact hp))).trans (h.block k hk hk')⟩
theorem Alt.alloc (h:Alt w w' p)(o:Obj):Alt w (w'.alloc o) p :=
 ⟨h.os,h.tape,h.output,by have:=h.size;simp;omega,fun k hk hk'=>(Below.heap_alloc w' o k (qE hk h.size)).trans (h.block k hk hk')⟩
theorem Alt.grown {row:Option Nat}(h:Alt w w' p)(hg:w'.grownBy w'' row)(hr:∀ g,row=some g→g<w.heap.size→p g):Alt w w'' p :=
 ⟨hg.os.trans h.os,hg.tape.trans h.tape,hg.output.trans h.output,kH h.size hg.size,fun k hk hk' =>
  (hg.block k (qE hk h.size) (fun e=>hk' (hr k e.symm hk))).trans (h.block k hk hk')⟩
theorem Alt.below {B:Nat}(h:Alt w w' p)(hp:∀ k,p k→B≤k)(hB:B≤w.heap.size):Below B w w':=⟨h.os,h.tape,h.output,h.size,fun k hk=>h.block k (by omega) fun hpk=>by have:=hp k hpk;omega⟩
end
def Blk (w:World)(g:Nat)(t:TypeId)(cs:Array Value):Prop:=w.heap[g]? = some (.cells cs t (0,0))
section
variable {w w':World}{g:Nat}{t:TypeId}{cs:Array Value}
theorem Blk.lt (h:Blk w g t cs):g<w.heap.size:=lt_of_block h
theorem Blk.cell (h:Blk w g t cs)(i:Nat):w.cell? ⟨g,i,none⟩=cs[i]?:=by
 unfold Blk at h;simp[World.cell?,h]
theorem Blk.frozen (h:Blk w g t cs)(i:Nat):w.frozen? ⟨g,i,none⟩=false:=by
 unfold Blk at h
 simp[World.frozen?,h]
theorem Blk.new (w:World)(t:TypeId)(cs:Array Value):Blk (w.alloc (.cells cs t)) w.heap.size t cs:=heap_alloc_new w _
theorem Blk.drewN (h:Blk w g t cs)(n:Nat):Blk (w.drewN n) g t cs:=h
theorem Blk.alloc (h:Blk w g t cs)(o:Obj):Blk (w.alloc o) g t cs:=(Below.heap_alloc w o g h.lt).trans h
theorem Blk.set_ (h:Blk w g t cs)(i:Nat)(u:Value):Blk (w.setCell ⟨g,i,none⟩ u) g t (cs.setIfInBounds i u):=by
 unfold Blk at h ⊢
 simp[World.setCell,Array.getElem?_modify,h]
theorem Blk.far (h:Blk w g t cs){p:Addr}(hp:g≠p.block)(u:Value):Blk (w.setCell p u) g t cs:=(Below.heap_setCell w p u g hp).trans h
theorem Blk.grown {row:Option Nat}(h:Blk w g t cs)(hb:w.grownBy w' row)(hg:some g≠row):Blk w' g t cs:=(hb.block g h.lt hg).trans h
theorem Blk.kept {p:Nat→Prop}(h:Blk w g t cs)(hb:Alt w w' p)(hg:¬ p g):Blk w' g t cs:=(hb.block g h.lt hg).trans h
theorem Blk.ne_ {g':Nat}{t':TypeId}{cs':Array Value}(h:Blk w g t cs)(h':Blk w g' t' cs')(hne:t≠t'):g≠g':=by
 rintro rfl
 unfold Blk at h h'
 rw[h] at h'
 injection h' with h'
 injection h' with _ ht
 exact hne ht
end
def Own (w:World)(base:Nat)(v:Value)(xs:List Int):Prop:=w.ownsRow base 5 1 v xs.length (xs.map (Value.int .u8))
section
variable {w w':World}{b0:Nat}{v:Value}{xs:List Int}{g:Nat}{t:TypeId}{cs:Array Value}
theorem Own.slice (h:Own w b0 v xs):∃ A c,v = .slice A xs.length c∧(0<xs.length→∃ g,A=some ⟨g,0,none⟩):=by
 rcases h.2 with ⟨rfl,hn⟩|⟨g,cap,cur,rfl,_⟩
 ·exact ⟨none,0,by rw[hn],fun h=>by omega⟩
 ·exact ⟨_,_,rfl,fun _=>⟨g,rfl⟩⟩
theorem Own.ne (h:Own w b0 v xs)(hg:Blk w g t cs)(hne:5≠t):v.ownBlock≠some g:=by
 rcases h.2 with ⟨rfl,_⟩|⟨g',cap,cur,rfl,_,hh,_⟩
 ·simp[Value.ownBlock]
 ·intro he
  have:g'=g:=by simpa [Value.ownBlock] using he
  subst this
  exact Blk.ne_ (t:=5) hh hg hne rfl
theorem Own.base (h:Own w b0 v xs){k:Nat}(hk:v.ownBlock=some k):b0≤k∧k<w.heap.size:=h.lt k hk
theorem Own.keep {p:Nat→Prop}(h:Own w b0 v xs)(hb:Alt w w' p)(hv:∀ k,v.ownBlock=some k→¬ p k):Own w' b0 v xs:=by
 refine ⟨h.1,?_⟩
 rcases h.2 with h0|⟨g,cap,cur,rfl,h1,h2,h3⟩
 ·exact .inl h0
 ·exact .inr ⟨g,cap,cur,rfl,h1,(hb.block g (lt_of_block h2) (hv g rfl)).trans h2,h3⟩
theorem Own.take_ (h:Own w b0 v xs){k:Nat}(hk:k≤xs.length):∃ v',Own w b0 v' (xs.take k)∧v'.ownBlock=v.ownBlock∧(∀ A n c,v = .slice A n c→v' = .slice A k c):=by
 rcases h.2 with ⟨rfl,h0⟩|⟨g,cap,cur,rfl,h1,h2,h3,h4,h5,h6⟩
 ·refine ⟨.slice none 0 0,⟨by simp <;> omega,.inl ⟨rfl,by simp <;> omega⟩⟩,rfl,fun A n c e=>?_⟩
  injection e with e1 e2 e3
  subst e1;subst e2;subst e3
  rw[show k=0 by omega]
 ·refine ⟨.slice (some ⟨g,0,none⟩) k cap,⟨by simp,.inr ⟨g,cap,cur,by rw[show (xs.take k).length=k by simp;omega],h1,h2,by simp;omega,h4,h5,?_⟩⟩,rfl,fun A n c e=>?_⟩
  ·rw[show (xs.take k).length=k by simp;omega,List.map_take, ← h6,Nat.mul_one,List.take_take,Nat.mul_one,Nat.min_eq_left hk]
  ·injection e with e1 e2 e3
   subst e1;subst e2;subst e3;rfl
end
theorem za8 (a:Addr)(n:Nat):(a.add n).block=a.block:=by unfold Addr.add;split <;> rfl
theorem zdy {w:World}{g:Nat}{t:TypeId}{a b c d e f:Value}(h:Blk w g t #[a,b,c,d,e,f]) :
  (w.cell? ⟨g,0,none⟩=some a∧w.cell? ⟨g,1,none⟩=some b∧w.cell? ⟨g,2,none⟩=some c∧w.cell? ⟨g,3,none⟩=some d∧w.cell? ⟨g,4,none⟩=some e∧w.cell? ⟨g,5,none⟩=some f) ∧
  ∀ i,w.frozen? ⟨g,i,none⟩=false :=
 ⟨⟨h.cell 0,h.cell 1,h.cell 2,h.cell 3,h.cell 4,h.cell 5⟩,h.frozen⟩
def pc (v:Value)(S:St)(f:Int):Array Value:=#[v,.int .i64 S.room,.int .i64 S.safe,.bool S.dead,.bool S.fuse.isSome,.int .i64 f]
theorem zss {k:IntKind}{a b:Int}(h:a=b):Ending.returned (.int k a) = .returned (.int k b):=by rw[h]
theorem zvk (n:Int)(w:World)(h0 : -10≤n)(h1:n≤4194304) :
  Calls Tryz.prog 16 #[.int .i64 n] w fun e w'=>e = .returned (.pointer (some ⟨w.heap.size,0,none⟩)) ∧
   w'=w.alloc (.cells (pc (.slice none 0 0) ⟨[],n.toNat,0,none,false⟩ 0) 154):=by
 go_enter Tryz.func16,Tryz.ntmps16
 rcases (show n<0∨0≤n by omega) with h|h
 ·have e:n.toNat=0:=by omega
  go_wp2
  go_ret
  refine ⟨rfl,?_⟩
  simp[pc,e]
 ·have e:((n.toNat:Nat):Int)=n:=by omega
  go_wp2
  go_ret
  refine ⟨rfl,?_⟩
  simp[pc,e]
theorem zst (g:Nat)(A:Option Addr)(c:Nat)(S:St)(f:Int)(w:World)(h:Blk w g 154 (pc (.slice A S.xs.length c) S f)) :
  Calls Tryz.prog 200 #[.pointer (some ⟨g,0,none⟩)] w fun e w'=>e = .returned (.int .i64 (sy S).1) ∧
   Blk w' g 154 (pc (.slice A S.xs.length c) (sy S).2 f)∧Alt w w' (fun k=>k=g):=by
 obtain ⟨⟨c0,c1,c2,c3,c4,c5⟩,fz⟩:=zdy h
 have H:=kA h
 clear h
 rcases hd:S.dead with _|_
 ·have HD:=kA hd
  rw[hd] at c3
  clear hd
  go_enter Tryz.func200,Tryz.ntmps200
  go_wp2
  go_ret
  refine ⟨?_,?_,(Alt.refl w (fun k=>k=g)).set_ rfl _⟩
  ·rw[sy,kT (by rw[HD.out];decide)];rfl
  ·have h2:=H.out.set_ 2 (.int .i64 (S.xs.length:Int))
   rw[sy,kT (by rw[HD.out];decide)]
   simpa [pc] using h2
 ·have HD:=kA hd
  rw[hd] at c3
  clear hd
  go_enter Tryz.func200,Tryz.ntmps200
  go_wp2
  go_ret
  refine ⟨?_,?_,Alt.refl w (fun k=>k=g)⟩
  ·rw[sy,kZ HD.out];rfl
  ·rw[sy,kZ HD.out];exact H.out
theorem zsu (g n:Nat)(v:Value)(S:St)(f:Int)(w:World)(h:Blk w g 154 (pc v S f))(hf:S.fuse=none) :
  Calls Tryz.prog 76 #[.pointer (some ⟨g,0,none⟩),.int .i64 n] w fun e w'=>e = .returned (.int .i64 n)∧w'=w:=by
 obtain ⟨⟨c0,c1,c2,c3,c4,c5⟩,fz⟩:=zdy h
 rw[hf] at c4
 clear h hf
 go_enter Tryz.func76,Tryz.ntmps76
 go_wp2
 go_ret
 exact ⟨rfl,rfl⟩
theorem zsv (g n k:Nat)(v:Value)(S:St)(w:World)(h:Blk w g 154 (pc v S (k:Int)))(hf:S.fuse=some k)(hn:n≤k)(hk:k≤1000000) :
  Calls Tryz.prog 76 #[.pointer (some ⟨g,0,none⟩),.int .i64 n] w fun e w'=>e = .returned (.int .i64 n)∧w'=w.setCell ⟨g,5,none⟩ (.int .i64 ((k - n:Nat):Int)):=by
 obtain ⟨⟨c0,c1,c2,c3,c4,c5⟩,fz⟩:=zdy h
 rw[hf] at c4
 have e:=kA (show ((k - n:Nat):Int)=(k:Int) - n by omega)
 clear h hf
 go_enter Tryz.func76,Tryz.ntmps76
 go_wp2
 go_ret
 refine ⟨rfl,?_⟩
 rw[e.out]
theorem zlv (g n k:Nat)(v:Value)(S:St)(w:World)(h:Blk w g 154 (pc v S (k:Int)))(hf:S.fuse=some k)(hn:k<n)(_hk:n≤1000000) :
  Calls Tryz.prog 76 #[.pointer (some ⟨g,0,none⟩),.int .i64 n] w fun e w'=>e = .returned (.int .i64 k)∧w'=(w.setCell ⟨g,3,none⟩ (.bool true)).setCell ⟨g,5,none⟩ (.int .i64 0):=by
 obtain ⟨⟨c0,c1,c2,c3,c4,c5⟩,fz⟩:=zdy h
 rw[hf] at c4
 clear h hf
 go_enter Tryz.func76,Tryz.ntmps76
 go_wp2
 go_ret
 refine ⟨rfl,?_⟩
 simp
theorem zj9:(Tryz.prog.info? 5).map (fun i=>(i.zero,i.size,i.bytes))=some (some (.int .u8 0),1,1):=by kernel_rfl
def Rb (w:World)(A:Option Addr)(ys:List Int):Prop:=0<ys.length→∃ ad,A=some ad∧ad.block<w.heap.size∧∀ j u,(ys.map (Value.int .u8))[j]? = some u→w.cell? (ad.add j)=some u
theorem Rb.keep {w w':World}{A:Option Addr}{ys:List Int}{p:Nat→Prop}(h:Rb w A ys)(hk:Alt w w' p)(hp:∀ ad,A=some ad→¬ p ad.block):Rb w' A ys:=fun hn=>by
 obtain ⟨ad,e,hb,hc⟩:=h hn
 exact ⟨ad,e,qE hb hk.size,fun j u hu=>(World.cell?_of_block (by rw[za8];exact hk.block _ hb (hp ad e))).trans (hc j u hu)⟩
theorem Rb.take_ {w:World}{A:Option Addr}{ys:List Int}(h:Rb w A ys)(k:Nat):Rb w A (ys.take k):=fun hn=>by
 obtain ⟨ad,e,hb,hc⟩:=h (by simp at hn;omega)
 refine ⟨ad,e,hb,fun j u hu=>hc j u ?_⟩
 rw[List.map_take] at hu
 rw[List.getElem?_take] at hu
 split at hu
 ·exact hu
 ·cases hu
theorem Rb.of_own {w:World}{b0:Nat}{A:Option Addr}{n c:Nat}{xs:List Int}(h:Own w b0 (.slice A n c) xs):Rb w A xs:=fun hn=>by
 obtain ⟨g,cap,hv,_,hlt⟩:=World.ownsRow.form h hn
 injection hv with hA
 subst hA
 exact ⟨_,rfl,hlt,World.ownsRow.cells h (g:=g) rfl⟩
theorem Rb.nil (w:World)(A:Option Addr):Rb w A []:=fun h=>by simp at h
theorem zlw (ys:List Int):∀ u∈ys.map (Value.int .u8),u.oneCell'=true:=by
 intro u hu
 obtain ⟨x,_,rfl⟩:=kO.1 hu
 rfl
theorem zyv (w:World){b0:Nat}{v:Value}{xs:List Int}(hown:Own w b0 v xs){A:Option Addr}{c:Nat}{ys:List Int}(hy:Rb w A ys)(ty:TypeId)(hb:xs.length+ys.length≤100000000)(hbase:b0≤w.heap.size) :
  ∃ A' c' w',(Builtin.append_ #[31,31] ty #[v,.slice A ys.length c]).run Tryz.prog w = .ok (.slice A' (xs.length+ys.length) c') w' ∧
   Own w' b0 (.slice A' (xs.length+ys.length) c') (xs++ys)∧w.grownBy w' v.ownBlock∧((Value.slice A' (xs.length+ys.length) c').ownBlock=v.ownBlock∨(Value.slice A' (xs.length+ys.length) c').ownBlock=some w.heap.size):=by
 obtain ⟨i0,hi0,hz0,hz1,hz2⟩:=info_parts zj9
 have fin:∀ v' w',(Builtin.append_ #[31,31] ty #[v,.slice A ys.length c]).run Tryz.prog w = .ok v' w'→Own w' b0 v' (xs++ys)→w.grownBy w' v.ownBlock→(v'.ownBlock=v.ownBlock∨v'.ownBlock=some w.heap.size) →
   ∃ A' c' w',(Builtin.append_ #[31,31] ty #[v,.slice A ys.length c]).run Tryz.prog w = .ok (.slice A' (xs.length+ys.length) c') w' ∧
   Own w' b0 (.slice A' (xs.length+ys.length) c') (xs++ys)∧w.grownBy w' v.ownBlock∧((Value.slice A' (xs.length+ys.length) c').ownBlock=v.ownBlock∨(Value.slice A' (xs.length+ys.length) c').ownBlock=some w.heap.size):=by
  intro v' w' h1 h2 h3 h4
  obtain ⟨A',c',rfl,_⟩:=h2.slice
  rw[kI] at h1 h2 h4
  exact ⟨A',c',w',h1,h2,h3,h4⟩
 rcases A with _|ad
 ·have h0:ys=[]:=by
   rcases ys with _|⟨y,ys⟩
   ·rfl
   ·obtain ⟨_,h,_⟩:=hy (by simp)
    cases h
  subst h0
  refine fin v w ?_ (by simpa using hown) ⟨rfl,rfl,rfl,kJ _,fun _ _ _=>rfl⟩ (.inl rfl)
  rcases hown.2 with ⟨rfl,hn⟩|⟨g,cap,cur,rfl,_,hg,hcap,_,hsz,_⟩
  ·simp[Builtin.append_,run_underlying Tryz.underlying31,sizeOf,typeInfo,hi0,Builtin.lenOf,Builtin.firstCells]
  ·have:=run_append_room_src (P:=Tryz.prog) w 31 31 ty 5 i0 Tryz.underlying31 hi0 g 0 xs.length cap (.slice none 0 c) 0 [] (Src.ofNil w Tryz.underlying31 c) hcap (fun j hj=>by simp at hj) (fun j hj=>by simp at hj)
   simpa [World.setCells] using this
 ·by_cases h0:ys.length=0
  ·have h0:ys=[]:=qG h0
   subst h0
   obtain ⟨v',w',h1,h2,h3,_,h5⟩:=run_append_own_at (P:=Tryz.prog) w b0 31 ty 5 i0 _ 1 1 Tryz.underlying31 hi0 hz0 hz1 hz2 rfl (by decide) v xs.length (xs.map (Value.int .u8)) hown ad 0 c [] rfl (fun j u h=>by simp at h) (fun u h=>by simp at h) (by unfold maxLen;simp at hb;omega) (by simp at hb;omega) hbase
   refine fin v' w' h1 ?_ h3 h5
   simpa [Own] using h2
  ·obtain ⟨ad',e,_,hc⟩:=hy (by omega)
   cases e
   obtain ⟨v',w',h1,h2,h3,_,h5⟩:=run_append_own_at (P:=Tryz.prog) w b0 31 ty 5 i0 _ 1 1 Tryz.underlying31 hi0 hz0 hz1 hz2 rfl (by decide) v xs.length (xs.map (Value.int .u8)) hown ad ys.length c (ys.map (Value.int .u8)) (by simp) hc (zlw ys) (by unfold maxLen;omega) (by omega) hbase
   refine fin v' w' h1 ?_ h3 h5
   unfold Own
   rw[kI,kL];exact h2
theorem zw9 {o:Oper}{a:Act}{K:Act→World→Prop}{Q:Exit→Act→World→Prop}(w:World)(s x:Operand)
  (ho:o.op = .call { callee := .builtin .append,args:=#[s,x],argTypes:=#[31,31] })
  {b0:Nat} {v:Value} {xs:List Int} (hs:a.eval s=v) (hown:Own w b0 v xs) {A:Option Addr} {c:Nat} {ys:List Int} (hx:a.eval x = .slice A ys.length c) (hy:Rb w A ys) (hb:xs.length+ys.length≤100000000) (hbase:b0≤w.heap.size)
  (h:∀ A' c' w',Own w' b0 (.slice A' (xs.length+ys.length) c') (xs++ys)→w.grownBy w' v.ownBlock→((Value.slice A' (xs.length+ys.length) c').ownBlock=v.ownBlock∨(Value.slice A' (xs.length+ys.length) c').ownBlock=some w.heap.size)→K (a.put o.dst (.slice A' (xs.length+ys.length) c')) w'):o.wp Tryz.prog a w K Q:=by
 obtain ⟨A',c',w',hr,h2,h3,h4⟩:=zyv w hown hy (c:=c) o.type hb hbase
 unfold Oper.wp execOp
 simp only[ho,resolve,invoke,builtin,Sem.run_bind,Sem.run_pure,Result.andThen_ok,List.map_toArray,kM,List.map_nil,hs,hx,hr]
 exact h A' c' w' h2 h3 h4
theorem zdh {ops:Array Oper}{rest:List Oper}{o:Oper}{a:Act}{Q:Exit→Act→World→Prop}(w:World)(hgd:o.guard=none)(s x:Operand)
  (ho:o.op = .call { callee := .builtin .append,args:=#[s,x],argTypes:=#[31,31] })
  {b0:Nat} {v:Value} {xs:List Int} (hs:a.eval s=v) (hown:Own w b0 v xs) {A:Option Addr} {c:Nat} {ys:List Int} (hx:a.eval x = .slice A ys.length c) (hy:Rb w A ys) (hb:xs.length+ys.length≤100000000) (hbase:b0≤w.heap.size)
  (h:∀ A' c' w',Own w' b0 (.slice A' (xs.length+ys.length) c') (xs++ys)→w.grownBy w' v.ownBlock→((Value.slice A' (xs.length+ys.length) c').ownBlock=v.ownBlock∨(Value.slice A' (xs.length+ys.length) c').ownBlock=some w.heap.size)→wpList Tryz.prog ops Q rest (a.put o.dst (.slice A' (xs.length+ys.length) c')) w'):wpList Tryz.prog ops Q (o :: rest) a w :=
 wpList_plain hgd fun _ hK=>zw9 w s x ho hs hown hx hy hb hbase fun A' c' w' h2 h3 h4=>hK _ _ (h A' c' w' h2 h3 h4)
theorem zka {ops:Array Oper}{o:Oper}{a:Act}{K:Act→World→Prop}{Q:Exit→Act→World→Prop}{E:Prop}(w:World)(hgd:o.guard=none)(s x:Operand)
  (ho:o.op = .call { callee := .builtin .append,args:=#[s,x],argTypes:=#[31,31] })
  {b0:Nat} {v:Value} {xs:List Int} (hs:a.eval s=v) (hown:Own w b0 v xs) {A:Option Addr} {c:Nat} {ys:List Int} (hx:a.eval x = .slice A ys.length c) (hy:Rb w A ys) (hb:xs.length+ys.length≤100000000) (hbase:b0≤w.heap.size)
  (h:∀ A' c' w',Own w' b0 (.slice A' (xs.length+ys.length) c') (xs++ys)→w.grownBy w' v.ownBlock→((Value.slice A' (xs.length+ys.length) c').ownBlock=v.ownBlock∨(Value.slice A' (xs.length+ys.length) c').ownBlock=some w.heap.size)→K (a.put o.dst (.slice A' (xs.length+ys.length) c')) w') :
  if Region.wanted o (yielded ops a.tmps)=true then Oper.wp Tryz.prog o a w K Q else E:=by
 have hw:Region.wanted o (yielded ops a.tmps)=true:=by simp[Region.wanted,hgd]
 rw[kZ hw]
 exact zw9 w s x ho hs hown hx hy hb hbase h
theorem zsw (w:World):Own (w.alloc (.cells #[] 5)) w.heap.size (.slice (some ⟨w.heap.size,0,none⟩) 0 0) [] :=
 World.ownsRow_made w #[] 0 (kJ _) (by unfold maxLen;omega) rfl
theorem zfm (A:Option Addr)(c:Nat)(ys:List Int)(w:World)(hy:Rb w A ys)(hl:ys.length≤10000000)(hA:A=none→ys.length=0∧c=0) :
  Calls Tryz.prog 77 #[.slice A ys.length c] w fun e w'=>∃ A' c',e = .returned (.slice A' ys.length c')∧Own w' w.heap.size (.slice A' ys.length c') ys∧Alt w w' (fun _=>False):=by
 have HY:=kA hy
 clear hy
 have q:∀ W a n c n' c',(binOp .eql 31 (.slice a n c) (.slice none n' c')).run Tryz.prog W = .ok (.bool a.isNone) W:=fun W a n c n' c'=>Lib.run_eql_slice_nil W _ _ a n c n' c' Tryz.underlying31
 rcases A with _|ad
 ·obtain ⟨h0,rfl⟩:=hA rfl
  obtain rfl:ys=[]:=qG h0
  clear hA h0
  go_enter Tryz.func77,Tryz.ntmps77
  go_wp2
  go_ret
  exact ⟨none,0,rfl,World.ownsRow_nil _ _ _ _,Alt.refl _ _⟩
 ·clear hA
  go_enter Tryz.func77,Tryz.ntmps77
  go_wp2_with (at_builtin;refine zdh _ rfl _ _ rfl rfl (zsw w) (ys:=ys) rfl (HY.out.keep (Alt.alloc (Alt.refl w (fun _=>False)) _) (fun _ _ h=>h)) (by simp;omega) (by simp) ?_;intro A' c' w1 hown hgrow _)
  go_ret
  simp only[List.nil_append,List.length_nil,Nat.zero_add] at hown
  refine ⟨A',c',by simp,hown,?_⟩
  refine (Alt.alloc (Alt.refl w (fun _=>False)) _).grown hgrow (fun g hg hlt=>?_)
  have e:w.heap.size=g:=by injection (show some w.heap.size=some g from hg)
  omega
theorem Own.none_ {w:World}{b0 n c:Nat}{xs:List Int}(h:Own w b0 (.slice none n c) xs):xs.length=0∧c=0:=by
 rcases h.2 with ⟨e,h0⟩|⟨g,cap,cur,e,_⟩
 ·injection e with _ _ e3
  exact ⟨h0,e3⟩
 ·injection e with e;cases e
theorem zkb {w:World}{b0 b1:Nat}{v:Value}{xs:List Int}(h:Own w b1 v xs)(hb:b0≤b1):Own w b0 v xs:=by
 refine ⟨h.1,?_⟩
 rcases h.2 with h0|⟨g',cap,cur,h1,h2,h3⟩
 ·exact .inl h0
 ·exact .inr ⟨g',cap,cur,h1,by omega,h3⟩
theorem Blk.to {w:World}{g:Nat}{t:TypeId}{cs cs':Array Value}(h:Blk w g t cs')(e:cs'=cs):Blk w g t cs:=e ▸ h
theorem zh2 {w:World}{b0 n c:Nat}{A:Option Addr}{xs:List Int}(h:Own w b0 (.slice A n c) xs):n=xs.length∧xs.length≤c:=by
 rcases h.2 with ⟨e,h0⟩|⟨g,cap,cur,e,_,_,h3,_⟩
 ·injection e with _ e2 e3;omega
 ·injection e with _ e2 e3;omega
def WPost (w:World)(g b0:Nat)(v:Value)(r:Int×St)(e:Ending)(w':World):Prop :=
 e = .returned (.int .i64 r.1)∧∃ A' c' f',Blk w' g 154 (pc (.slice A' r.2.xs.length c') r.2 f')∧(∀ k,r.2.fuse=some k→f'=k)∧Own w' b0 (.slice A' r.2.xs.length c') r.2.xs ∧
  Alt w w' (fun k=>k=g∨v.ownBlock=some k)∧((Value.slice A' r.2.xs.length c').ownBlock=v.ownBlock∨∀ k,(Value.slice A' r.2.xs.length c').ownBlock=some k→w.heap.size≤k)
theorem zqj (g:Nat)(A B:Option Addr)(c d b0:Nat)(S:St)(f:Int)(ys:List Int)(w:World)(h:Blk w g 154 (pc (.slice A S.xs.length c) S f))(hf:∀ k,S.fuse=some k→f=k)
  (ho:Own w b0 (.slice A S.xs.length c) S.xs) (hok:Ok S) (hy:Rb w B ys) (_hB:B=none→ys.length=0∧d=0) (hl:ys.length≤1000000) (hd:ys.length≤d) (hBg:∀ ad,B=some ad→¬ ad.block=g) (hb0:b0≤w.heap.size) :
  Calls Tryz.prog 199 #[.pointer (some ⟨g,0,none⟩),.slice B ys.length d] w (WPost w g b0 (.slice A S.xs.length c) (wr S ys)):=by
 obtain ⟨⟨c0,c1,c2,c3,c4,c5⟩,fz⟩:=zdy h
 obtain ⟨k1,k2,k3,k4⟩:=hok
 have hne:=kA (ho.ne h (by decide))
 have H:=kA h
 have HO:=kA ho
 have HY:=kA hy
 clear h ho hy
 rcases hdd:S.dead with _|_
 ·by_cases hr:S.room<S.xs.length+ys.length
  ·have hw:Hid (wr S ys=(14,S)):=by show _=_;rw[wr,kT (by rw[hdd];decide),kZ hr]
   rw[hdd] at c3
   clear hdd
   go_enter Tryz.func199,Tryz.ntmps199
   go_wp2
   go_quiet (fail)
   go_wp2
   go_ret
   rw[hw.out]
   exact ⟨rfl,A,c,f,H.out.drewN _,hf,HO.out,(Alt.refl w _).drewN _,.inl rfl⟩
  ·have hw0:=kA (show ¬ S.dead=true by rw[hdd];decide)
   have hr0:=kA hr
   have hsd:=kA hdd
   have hr1:S.xs.length+ys.length≤S.room:=by omega
   rw[hdd] at c3
   clear hdd hr
   rcases hfu:S.fuse with _|k
   ·have hw:Hid (wr S ys=(0,{ S with xs:=S.xs++ys })):=by show _=_;rw[wr,kT hw0.out,kT hr0.out,hfu]
    have HFU:=kA hfu
    clear hfu
    go_enter Tryz.func199,Tryz.ntmps199
    go_wp2
    go_quiet (fail)
    go_wp2
    go_region_law (first
      |(refine zka _ rfl _ _ rfl (v := .slice A S.xs.length c) rfl (by exact HO.out) (ys:=ys) rfl (by exact HY.out) (by first|omega|(simp;omega)) (by first|exact hb0|simpa using hb0) ?_;intro A' c' w1 hown hgrow hblk;have HB1:Hid (Blk w1 g 154 (pc (.slice A S.xs.length c) S f)):=Blk.grown (by exact H.out) hgrow (fun e=>hne.out e.symm);have fz1:=HB1.out.frozen 0;have cz1:w1.cell? ⟨g,0,none⟩=some (.slice A S.xs.length c):=HB1.out.cell 0;have cz3:w1.cell? ⟨g,3,none⟩=some (.bool false):=by { refine (HB1.out.cell 3).trans ?_;simp[pc,hsd.out] })
      |(go_simp;go_at_call 76;refine (zsu g ys.length _ S f _ (by exact H.out) HFU.out).mono ?_;rintro e w1 ⟨rfl,rfl⟩))
    all_goals
     go_wp2
     go_ret
     rw[hw.out]
     refine ⟨rfl,A',c',f,Blk.to (HB1.out.set_ 0 _) (by simp[pc]),hf,?_,?_,?_⟩
     ·exact Own.keep (p:=fun k=>k=g) (by simpa using hown) ((Alt.refl w1 (fun k=>k=g)).set_ rfl _) (fun k hk e=>by
       subst e
       exact Own.ne (v := .slice A' (S.xs.length+ys.length) c') hown HB1.out (by decide) (by simpa using hk))
     ·exact (((Alt.refl w _).drewN _).grown hgrow (fun k hk _ => .inr hk)).set_ (.inl rfl) _
     ·rcases hblk with e|e
      ·left;simpa using e
      ·right
       intro k hk
       simp only[kI] at hk
       rw[e] at hk
       injection hk with hk
       rw[← hk];exact kJ _
   ·have hk:=k4 k hfu
    obtain rfl:=hf k hfu
    by_cases hin:ys.length≤k
    ·have hw:Hid (wr S ys=(0,{ S with xs:=S.xs++ys,fuse:=some (k - ys.length) })):=by show _=_;rw[wr,kT hw0.out,kT hr0.out,hfu];simp only[];rw[kZ hin]
     have HFU:=kA hfu
     clear hfu hf
     go_enter Tryz.func199,Tryz.ntmps199
     go_wp2
     go_quiet (fail)
     go_wp2
     go_region_law (first
      |(refine zka _ rfl _ _ rfl (v := .slice A S.xs.length c) rfl (by exact HO.out.keep (((Alt.refl w (fun k=>k=g)).drewN _).set_ rfl _) (fun k hk e=>hne.out (by rw[hk,e]))) (ys:=ys) rfl (by exact HY.out.keep (((Alt.refl w (fun k=>k=g)).drewN _).set_ rfl _) hBg) (by first|omega|(simp;omega)) (by first|exact hb0|simpa using hb0) ?_;intro A' c' w1 hown hgrow hblk;have HB1:Hid (Blk w1 g 154 ((pc (.slice A S.xs.length c) S k).setIfInBounds 5 (.int .i64 ((k - ys.length:Nat):Int)))):=Blk.grown (by exact (H.out.drewN _).set_ 5 _) hgrow (fun e=>hne.out e.symm);have fz1:=HB1.out.frozen 0;have cz1:w1.cell? ⟨g,0,none⟩=some (.slice A S.xs.length c):=by { refine (HB1.out.cell 0).trans ?_;simp[pc] };have cz3:w1.cell? ⟨g,3,none⟩=some (.bool false):=by { refine (HB1.out.cell 3).trans ?_;simp[pc,hsd.out] })
      |(go_simp;go_at_call 76;refine (zsv g ys.length k _ S _ (by exact H.out) HFU.out hin hk).mono ?_;rintro e w1 ⟨rfl,rfl⟩))
     all_goals
      go_wp2
      go_ret
      rw[hw.out]
      refine ⟨rfl,A',c',((k - ys.length:Nat):Int),Blk.to (HB1.out.set_ 0 _) (by simp[pc,HFU.out]),?_,?_,?_,?_⟩
      ·intro j hj
       have e:k - ys.length=j:=by simpa using hj
       omega
      ·exact Own.keep (p:=fun k=>k=g) (by simpa using hown) ((Alt.refl w1 (fun k=>k=g)).set_ rfl _) (fun k hk e=>by
        subst e
        exact Own.ne (v := .slice A' (S.xs.length+(ys).length) c') hown HB1.out (by decide) (by simpa using hk))
      ·exact ((((Alt.refl w _).drewN _).set_ (.inl rfl) _).grown hgrow (fun k hk _ => .inr hk)).set_ (.inl rfl) _
      ·rcases hblk with e|e
       ·left;simpa using e
       ·right
        intro k hk
        simp only[kI] at hk
        rw[e] at hk
        injection hk with hk
        simp at hk
        omega
    ·have hw:Hid (wr S ys=(15,{ S with xs:=S.xs++ys.take k,fuse:=some 0,dead:=true })):=by show _=_;rw[wr,kT hw0.out,kT hr0.out,hfu];simp only[];rw[kT hin]
     have HE:=kA (show (ys.take k).length=k by simp;omega)
     have hov:k<ys.length:=by omega
     have hkd:k≤d:=by omega
     have HFU:=kA hfu
     clear hfu hf hin
     go_enter Tryz.func199,Tryz.ntmps199
     go_wp2
     go_quiet (fail)
     go_wp2
     go_region_law (first
      |(refine zka _ rfl _ _ rfl (v := .slice A S.xs.length c) rfl (by exact HO.out.keep ((((Alt.refl w (fun k=>k=g)).drewN _).set_ rfl _).set_ rfl _) (fun k hk e=>hne.out (by rw[hk,e]))) (ys:=ys.take k) (by rw[HE.out];rfl) (by exact (HY.out.take_ k).keep ((((Alt.refl w (fun k=>k=g)).drewN _).set_ rfl _).set_ rfl _) hBg) (by first|omega|(simp;omega)) (by first|exact hb0|simpa using hb0) ?_;intro A' c' w1 hown hgrow hblk;have HB1:Hid (Blk w1 g 154 (((pc (.slice A S.xs.length c) S k).setIfInBounds 3 (.bool true)).setIfInBounds 5 (.int .i64 0))):=Blk.grown (by exact ((H.out.drewN _).set_ 3 _).set_ 5 _) hgrow (fun e=>hne.out e.symm);have fz1:=HB1.out.frozen 0;have cz1:w1.cell? ⟨g,0,none⟩=some (.slice A S.xs.length c):=by { refine (HB1.out.cell 0).trans ?_;simp[pc] };have cz3:w1.cell? ⟨g,3,none⟩=some (.bool true):=by { refine (HB1.out.cell 3).trans ?_;simp[pc,hsd.out] })
      |(go_simp;go_at_call 76;refine (zlv g ys.length k _ S _ (by exact H.out) HFU.out hov (by omega)).mono ?_;rintro e w1 ⟨rfl,rfl⟩))
     all_goals
      go_wp2
      go_ret
      rw[hw.out]
      refine ⟨rfl,A',c',0,Blk.to (HB1.out.set_ 0 _) (by simp[pc,HFU.out]),?_,?_,?_,?_⟩
      ·intro j hj
       have e:0=j:=by simpa using hj
       omega
      ·exact Own.keep (p:=fun k=>k=g) (by simpa using hown) ((Alt.refl w1 (fun k=>k=g)).set_ rfl _) (fun q hq e=>by
        subst e
        exact Own.ne (v := .slice A' (S.xs.length+(ys.take k).length) c') hown HB1.out (by decide) (by simpa using hq))
      ·exact (((((Alt.refl w _).drewN _).set_ (.inl rfl) _).set_ (.inl rfl) _).grown hgrow (fun k hk _ => .inr hk)).set_ (.inl rfl) _
      ·rcases hblk with e|e
       ·left;simpa using e
       ·right
        intro k hk
        simp only[kI] at hk
        rw[e] at hk
        injection hk with hk
        simp at hk
        omega
 ·have hw:Hid (wr S ys=(15,S)):=by show _=_;rw[wr,kZ hdd]
  rw[hdd] at c3
  clear hdd
  go_enter Tryz.func199,Tryz.ntmps199
  go_wp2
  go_ret
  rw[hw.out]
  exact ⟨rfl,A,c,f,H.out,hf,HO.out,Alt.refl w _,.inl rfl⟩
theorem zsx (g:Nat)(A B:Option Addr)(c d b0:Nat)(S:St)(f:Int)(ys:List Int)(w:World)(h:Blk w g 154 (pc (.slice A S.xs.length c) S f))(hf:∀ k,S.fuse=some k→f=k)
  (ho:Own w b0 (.slice A S.xs.length c) S.xs) (hok:Ok S) (hy:Rb w B ys) (hB:B=none→ys.length=0∧d=0) (hl:ys.length≤1000000) (hBg:∀ ad,B=some ad→¬ ad.block=g) (hb0:b0≤w.heap.size) :
  Calls Tryz.prog 30 #[.pointer (some ⟨g,0,none⟩),.slice B ys.length d] w (WPost w g b0 (.slice A S.xs.length c) (sw S ys)):=by
 obtain ⟨⟨c0,c1,c2,c3,c4,c5⟩,fz⟩:=zdy h
 obtain ⟨k1,k2,k3,k4⟩:=hok
 have hne:=kA (ho.ne h (by decide))
 have H:=kA h
 have HO:=kA ho
 have HY:=kA hy
 clear h ho hy
 rcases hdd:S.dead with _|_
 ·by_cases hr:S.room<ys.length
  ·have hw:Hid (sw S ys=(14,S)):=by show _=_;rw[sw,kT (by rw[hdd];decide),kZ hr]
   rw[hdd] at c3
   clear hdd
   go_enter Tryz.func30,Tryz.ntmps30
   go_wp2
   go_ret
   rw[hw.out]
   exact ⟨rfl,A,c,f,H.out,hf,HO.out,Alt.refl w _,.inl rfl⟩
  ·have hw0:=kA (show ¬ S.dead=true by rw[hdd];decide)
   have hr0:=kA hr
   have hsd:=kA hdd
   have hr1:ys.length≤S.room:=by omega
   rw[hdd] at c3
   clear hdd hr
   rcases hfu:S.fuse with _|k
   ·have hw:Hid (sw S ys=(0,{ S with xs:=ys,safe:=ys.length })):=by show _=_;rw[sw,kT hw0.out,kT hr0.out,hfu]
    have HFU:=kA hfu
    clear hfu
    go_enter Tryz.func30,Tryz.ntmps30
    go_wp2_with (first
      |(go_at_call 76;refine (zsu g ys.length _ S f _ (by exact H.out) HFU.out).mono ?_;rintro e w1 ⟨rfl,hw1⟩;rw[hw1];clear hw1 w1)
      |(go_at_call 77;refine (zfm B d ys _ (by exact HY.out) (by omega) hB).mono ?_;rintro e w1 ⟨A',c',rfl,hown,halt⟩;have HB1:Hid (Blk w1 g 154 (pc (.slice A S.xs.length c) S f)):=Blk.kept (by exact H.out) halt (fun h=>h);have fz1:=HB1.out.frozen 0;have fz2:=HB1.out.frozen 2;have cz0:w1.cell? ⟨g,0,none⟩=some (.slice A S.xs.length c):=by { refine (HB1.out.cell 0).trans ?_;simp[pc] };have cz2:w1.cell? ⟨g,2,none⟩=some (.int .i64 S.safe):=by { refine (HB1.out.cell 2).trans ?_;simp[pc] }))
    go_ret
    rw[hw.out]
    refine ⟨rfl,A',c',f,Blk.to ((HB1.out.set_ 0 _).set_ 2 _) (by simp[pc]),?_,?_,?_,?_⟩
    ·exact hf
    ·exact zkb (Own.keep (p:=fun k=>k=g) hown (((Alt.refl w1 (fun k=>k=g)).set_ rfl _).set_ rfl _) (fun k hk e=>by
      subst e
      exact Own.ne hown HB1.out (by decide) hk)) (by first|exact hb0|simpa using hb0)
    ·exact ((Alt.trans (Alt.refl w _) halt (fun _ _ h=>h.elim)).set_ (.inl rfl) _).set_ (.inl rfl) _
    ·right
     intro k hk
     have:=(Own.base hown hk).1
     first|exact this|simpa using this
   ·have hk:=k4 k hfu
    obtain rfl:=hf k hfu
    by_cases hin:ys.length≤k
    ·have hw:Hid (sw S ys=(0,{ S with xs:=ys,safe:=ys.length,fuse:=some (k - ys.length) })):=by show _=_;rw[sw,kT hw0.out,kT hr0.out,hfu];simp only[];rw[kZ hin]
     have HFU:=kA hfu
     clear hfu hf
     go_enter Tryz.func30,Tryz.ntmps30
     go_wp2_with (first
       |(go_at_call 76;refine (zsv g ys.length k _ S _ (by exact H.out) HFU.out hin hk).mono ?_;rintro e w1 ⟨rfl,rfl⟩)
       |(go_at_call 77;refine (zfm B d ys _ (by exact HY.out.keep (((Alt.refl w (fun k=>k=g))).set_ rfl _) hBg) (by omega) hB).mono ?_;rintro e w1 ⟨A',c',rfl,hown,halt⟩;have HB1:Hid (Blk w1 g 154 ((pc (.slice A S.xs.length c) S k).setIfInBounds 5 (.int .i64 ((k - ys.length:Nat):Int)))):=Blk.kept (by exact H.out.set_ 5 _) halt (fun h=>h);have fz1:=HB1.out.frozen 0;have fz2:=HB1.out.frozen 2;have cz0:w1.cell? ⟨g,0,none⟩=some (.slice A S.xs.length c):=by { refine (HB1.out.cell 0).trans ?_;simp[pc] };have cz2:w1.cell? ⟨g,2,none⟩=some (.int .i64 S.safe):=by { refine (HB1.out.cell 2).trans ?_;simp[pc] }))
     go_ret
     rw[hw.out]
     refine ⟨rfl,A',c',((k - ys.length:Nat):Int),Blk.to ((HB1.out.set_ 0 _).set_ 2 _) (by simp[pc,HFU.out]),?_,?_,?_,?_⟩
     ·intro j hj
      have e:k - ys.length=j:=by simpa using hj
      omega
     ·exact zkb (Own.keep (p:=fun k=>k=g) hown (((Alt.refl w1 (fun k=>k=g)).set_ rfl _).set_ rfl _) (fun k hk e=>by
       subst e
       exact Own.ne hown HB1.out (by decide) hk)) (by first|exact hb0|simpa using hb0)
     ·exact ((Alt.trans ((Alt.refl w _).set_ (.inl rfl) _) halt (fun _ _ h=>h.elim)).set_ (.inl rfl) _).set_ (.inl rfl) _
     ·right
      intro k hk
      have:=(Own.base hown hk).1
      first|exact this|simpa using this
    ·have hw:Hid (sw S ys=(15,{ S with fuse:=some 0,dead:=true })):=by show _=_;rw[sw,kT hw0.out,kT hr0.out,hfu];simp only[];rw[kT hin]
     have hov:k<ys.length:=by omega
     have HFU:=kA hfu
     clear hfu hf hin
     go_enter Tryz.func30,Tryz.ntmps30
     go_wp2_with (go_at_call 76;refine (zlv g ys.length k _ S _ (by exact H.out) HFU.out hov (by omega)).mono ?_;rintro e w1 ⟨rfl,rfl⟩)
     go_ret
     rw[hw.out]
     refine ⟨rfl,A,c,0,Blk.to ((H.out.set_ 3 _).set_ 5 _) (by simp[pc,HFU.out]),?_,?_,((Alt.refl w _).set_ (.inl rfl) _).set_ (.inl rfl) _,.inl rfl⟩
     ·intro j hj
      have e:0=j:=by simpa using hj
      omega
     ·exact HO.out.keep (((Alt.refl w (fun k=>k=g)).set_ rfl _).set_ rfl _) (fun k hk e=>hne.out (by rw[hk,e]))
 ·have hw:Hid (sw S ys=(15,S)):=by show _=_;rw[sw,kZ hdd]
  rw[hdd] at c3
  clear hdd
  go_enter Tryz.func30,Tryz.ntmps30
  go_wp2
  go_ret
  rw[hw.out]
  exact ⟨rfl,A,c,f,H.out,hf,HO.out,Alt.refl w _,.inl rfl⟩
end Go.Proofs.YtemgclnkgieldaaGreatDoor.Dk
namespace Go.Proofs.YtemgclnkgieldaaGreatDoor.Oc
open Go Go.RowKit Dk
def nums (s:ByteArray):List Int:=s.data.toList.map fun b=>(b.toNat:Int)
theorem zaj (s:ByteArray):(nums s).length=s.size:=by unfold nums;rw[kN];rfl
theorem zeu (s:ByteArray):byteCells s=(nums s).map (Value.int .u8):=by
 unfold byteCells nums
 rw[qK];rfl
theorem zkc {α:Type}(l:List α)(o:Nat)(v:α)(h:o<l.length):(l.set o v).take (o+1)=l.take o++[v]:=by
 rw[List.take_add_one,List.getElem?_set_self h]
 rw[List.take_set_of_le (kJ o)]
 rfl
theorem zgt {g:Nat}{t:TypeId}:∀ (vs:List Value) (o:Nat) (w:World) (cs:Array Value),Blk w g t cs→o+vs.length≤cs.size →
  ∃ cs',Blk (w.setCells g o vs) g t cs'∧cs'.size=cs.size∧cs'.toList.take (o+vs.length)=cs.toList.take o++vs
 | [],o,w,cs,h,_=>⟨cs,h,rfl,by simp⟩
 |v :: r,o,w,cs,h,hs=>by
  have hs':o+r.length+1≤cs.size:=by simpa [Nat.add_assoc] using hs
  obtain ⟨cs',h1,h2,h3⟩:=zgt r (o+1) (w.setCell ⟨g,o,none⟩ v) (cs.setIfInBounds o v) (h.set_ o v) (by simp;omega)
  refine ⟨cs',h1,by rw[h2];simp,?_⟩
  have e:o+(v :: r).length=o+1+r.length:=by simp;omega
  rw[e,h3,Array.toList_setIfInBounds,zkc _ _ _ (by simp;omega)]
  simp
theorem zfn (b:Nat):∀ (vs:List Value) (o:Nat) (w:World),(w.setCells b o vs).tape=w.tape
 | [],_,_=>rfl
 |_v :: r,o,_w=>(zfn b r (o+1) _).trans rfl
theorem zdi (b:Nat):∀ (vs:List Value) (o:Nat) (w:World),(w.setCells b o vs).heap.size=w.heap.size
 | [],_,_=>rfl
 |v :: r,o,w=>(zdi b r (o+1) _).trans (by simp)
theorem zyw (w:World){b0:Nat}{v:Value}{xs:List Int}(hown:Own w b0 v xs)(s:ByteArray)(ty:TypeId)(hb:xs.length+s.size≤100000000)(hbase:b0≤w.heap.size) :
  ∃ A' c' w',(Builtin.append_ #[31,9] ty #[v,.string s]).run Tryz.prog w = .ok (.slice A' (xs.length+s.size) c') w' ∧
   Own w' b0 (.slice A' (xs.length+s.size) c') (xs++nums s)∧w.grownBy w' v.ownBlock∧((Value.slice A' (xs.length+s.size) c').ownBlock=v.ownBlock∨(Value.slice A' (xs.length+s.size) c').ownBlock=some w.heap.size):=by
 obtain ⟨i0,hi0,hz0,hz1,hz2⟩:=info_parts zj9
 have hsrc:Src Tryz.prog i0.size 9 (.string s) s.size (byteCells s) w:=by rw[hz1];exact Src.ofString w Tryz.underlying9 s
 have hln:=zaj s
 have hlb:(byteCells s).length=s.size:=byteCells_length s
 have grown:∀ (old:Nat),old<xs.length+s.size→∀ (row:Option Nat),
   Own (w.drew.alloc (.cells (((xs.map (Value.int .u8))++byteCells s).toArray++Builtin.zeroCells (Value.int .u8 0).cells (grownCap w (xs.length+s.size) old 5 - (xs.length+s.size))) 5)) b0
    (.slice (some ⟨w.heap.size,0,none⟩) (xs.length+s.size) (grownCap w (xs.length+s.size) old 5)) (xs++nums s) ∧
   w.grownBy (w.drew.alloc (.cells (((xs.map (Value.int .u8))++byteCells s).toArray++Builtin.zeroCells (Value.int .u8 0).cells (grownCap w (xs.length+s.size) old 5 - (xs.length+s.size))) 5)) row:=by
  intro old ho row
  have hge:=grownCap_ge w (xs.length+s.size) old 5
  have hcm:grownCap w (xs.length+s.size) old 5≤maxLen:=grownCap_le_maxLen w _ old 5 (by unfold maxLen;omega)
  have hlen:(xs++nums s).length=xs.length+s.size:=by rw[kI,hln]
  refine ⟨⟨by rw[kN];omega,.inr ⟨w.heap.size,_,_,by rw[hlen],hbase,heap_alloc_new w.drew _,by rw[hlen];exact hge,hcm,?_,?_⟩⟩,⟨rfl,rfl,rfl,by simp,fun k hk _=>heap_alloc_old w.drew _ hk⟩⟩
  ·simp only[Array.size_append,List.size_toArray,size_zeroCells,kI,kN,hlb]
   show xs.length+s.size+(grownCap w (xs.length+s.size) old 5 - (xs.length+s.size))*1=_
   omega
  ·rw[zeu, ← kL,Array.toList_append,hlen,Nat.mul_one]
   have e:xs.length+s.size=((xs++nums s).map (Value.int .u8)).length:=by rw[kN,hlen]
   rw[e]
   exact List.take_left
 rcases hown.2 with ⟨rfl,hn⟩|⟨g,cap,cur,rfl,hbg,hg,hnc,hcm,hcs,htake⟩
 ·have hx:xs=[]:=qG hn
  subst hx
  by_cases hm:s.size=0
  ·refine ⟨none,0,w,?_,?_,⟨rfl,rfl,rfl,kJ _,fun _ _ _=>rfl⟩,Or.inl rfl⟩
   ·rw[hm]
    simp[Builtin.append_,run_underlying Tryz.underlying31,run_underlying Tryz.underlying9,sizeOf,typeInfo,hi0,Builtin.lenOf,hm,Builtin.firstCells]
   ·have:nums s=[]:=qG (by rw[hln,hm])
    rw[this,hm]
    exact World.ownsRow_nil _ _ _ _
  ·have hr:=run_append_grow_src (P:=Tryz.prog) w 31 9 ty 5 i0 (.int .u8 0) Tryz.underlying31 hi0 hz0 none 0 0 [] (by simp[Builtin.firstCells]) (.string s) s.size (byteCells s) hsrc (by omega) (by simp at hb;omega) (by rw[hz2];exact growslice_fits (by omega) (by simp at hb;omega))
   have hgr:=grown 0 (by simp;omega) (Value.ownBlock (.slice none 0 0))
   simp only[List.length_nil,List.map_nil,List.nil_append,Nat.zero_add] at hr hgr ⊢
   exact ⟨_,_,_,hr,hgr.1,hgr.2,Or.inr rfl⟩
 ·by_cases hroom:xs.length+s.size≤cap
  ·have hr:=run_append_room_src (P:=Tryz.prog) w 31 9 ty 5 i0 Tryz.underlying31 hi0 g 0 xs.length cap (.string s) s.size (byteCells s) hsrc hroom
    (fun j hj=>by
     rw[cell_of_row _ _ _ cur 5 (0,0) hg,hz1,Array.getElem?_eq_getElem (by omega)];rfl)
    (fun j hj=>Blk.frozen (cs:=cur) hg _)
   rw[hz1,Nat.mul_one,Nat.zero_add] at hr
   obtain ⟨cs',h1,h2,h3⟩:=zgt (byteCells s) xs.length w cur hg (by omega)
   have hlen:(xs++nums s).length=xs.length+s.size:=by rw[kI,hln]
   refine ⟨_,_,_,hr,⟨by rw[kN];omega,.inr ⟨g,cap,cs',by rw[hlen],hbg,h1,by rw[hlen];exact hroom,hcm,by rw[h2];exact hcs,?_⟩⟩,⟨World.os_setCells w _ _ _,zfn _ _ _ _,World.output_setCells w _ _ _,Nat.le_of_eq (zdi _ _ _ _).symm,fun k hk hne=>World.heap_setCells_other w g _ _ hk (fun e=>hne (by rw[e];rfl))⟩,Or.inl rfl⟩
   rw[hlen,Nat.mul_one, ← hlb,h3,zeu,kL]
   rw[Nat.mul_one] at htake
   rw[htake]
  ·have holds:∀ j u,(xs.map (Value.int .u8))[j]? = some u→w.cell? ((⟨g,0,none⟩:Addr).add j)=some u:=World.ownsRow.cells hown (g:=g) rfl
   have hr:=run_append_grow_src (P:=Tryz.prog) w 31 9 ty 5 i0 (.int .u8 0) Tryz.underlying31 hi0 hz0 (some ⟨g,0,none⟩) xs.length cap (xs.map (Value.int .u8)) (run_firstCells_some w.drew i0.size xs.length ⟨g,0,none⟩ xs.length cap _ (by rw[hz1];simp) (by simpa using holds)) (.string s) s.size (byteCells s) hsrc (by omega) (by omega) (by rw[hz2];exact growslice_fits (by omega) (by omega))
   have hgr:=grown cap (by omega) (Value.ownBlock (.slice (some ⟨g,0,none⟩) xs.length cap))
   exact ⟨_,_,_,hr,hgr.1,hgr.2,Or.inr rfl⟩
def cnt (n:Nat):List Int:=if n<128 then [(n:Int)] else [((n % 128+128:Nat):Int),((n / 128:Nat):Int)]
structure Grow (w w':World)(v v':Value):Prop where
 alt:Alt w w' (fun k=>v.ownBlock=some k)
 blk:∀ k,v'.ownBlock=some k→k<w.heap.size→v.ownBlock=some k
theorem Grow.refl (w:World)(v:Value):Grow w w v v:=⟨Alt.refl _ _,fun _ h _=>h⟩
theorem Grow.trans {w w1 w2:World}{v v1 v2:Value}(h:Grow w w1 v v1)(h':Grow w1 w2 v1 v2):Grow w w2 v v2 :=
 ⟨h.alt.trans h'.alt fun k hk e=>h.blk k e hk,fun k e hk=>h.blk k (h'.blk k e (qE hk h.alt.size)) hk⟩
theorem Grow.of_app {w w':World}{v v':Value}(hg:w.grownBy w' v.ownBlock)(hb:v'.ownBlock=v.ownBlock∨v'.ownBlock=some w.heap.size):Grow w w' v v' :=
 ⟨⟨hg.os,hg.tape,hg.output,hg.size,fun k hk hne=>hg.block k hk fun e=>hne e.symm⟩,fun k e hk=>by
  rcases hb with h|h
  ·rw[← h];exact e
  ·rw[h] at e;injection e with e;omega⟩
theorem Grow.alloc {w w':World}{v v':Value}(h:Grow w w' v v')(o:Obj):Grow w (w'.alloc o) v v':=⟨h.alt.alloc o,h.blk⟩
theorem Grow.of_alloc {w w':World}{v v':Value}{o:Obj}(h:Grow (w.alloc o) w' v v')(_hv:∀ k,v.ownBlock=some k→k<w.heap.size):Grow w w' v v' :=
 ⟨⟨h.alt.os,h.alt.tape,h.alt.output,kH (by simp) h.alt.size,fun k hk hne=>(h.alt.block k (by simp;omega) hne).trans (Below.heap_alloc w o k hk)⟩,fun k e hk=>h.blk k e (by simp;omega)⟩
theorem or128 (m:Nat):bits .or .u8 ((m:Int) % 256) 128=((m % 128+128:Nat):Int):=by
 have h:∀ r<256,bits .or .u8 ((r:Nat):Int) 128=((r % 128+128:Nat):Int):=by decide +kernel
 have e:(m:Int) % 256=((m % 256:Nat):Int):=by omega
 rw[e,h (m % 256) (Nat.mod_lt _ (by decide))]
 omega
theorem zvl (w:World)(x:Int):∀ j u,([x].map (Value.int .u8))[j]? = some u→(w.alloc (.cells #[.int .u8 x] 5)).cell? ((⟨w.heap.size,0,none⟩:Addr).add j)=some u:=fun j u hj=>by
 have hb:=Blk.new w 5 #[.int .u8 x]
 have e:(⟨w.heap.size,0,none⟩:Addr).add j=⟨w.heap.size,j,none⟩:=by unfold Addr.add;simp;intro h;exact h.symm
 rw[e,Blk.cell hb j]
 rw[← hj]
 cases j <;> simp
theorem Rb.one (w:World)(x:Int):Rb (w.alloc (.cells #[.int .u8 x] 5)) (some ⟨w.heap.size,0,none⟩) [x]:=fun _ =>
 ⟨_,rfl,by simp,fun j u hj=>by
  have:=zvl w x j u hj
  exact this⟩
theorem zsy {w:World}{b0 c:Nat}{A:Option Addr}{xs:List Int}(n:Nat)(hown:Own w b0 (.slice A xs.length c) xs)(hn:n<16384)(hb:xs.length≤90000000)(hbase:b0≤w.heap.size) :
  Calls Tryz.prog 114 #[.slice A xs.length c,.int .i64 (n:Int)] w fun e w'=>∃ A' c',e = .returned (.slice A' (xs++cnt n).length c')∧Own w' b0 (.slice A' (xs++cnt n).length c') (xs++cnt n)∧Grow w w' (.slice A xs.length c) (.slice A' (xs++cnt n).length c'):=by
 have HO:=kA hown
 clear hown
 have hn0:(0:Int)≤(n:Int):=by omega
 go_enter Tryz.func114,Tryz.ntmps114
 go_wp2
 go_loopw [0,1] (fun v0 v1 wr=>∃ (m c':Nat) (A':Option Addr) (ys:List Int),v1 = .int .i64 (m:Int)∧v0 = .slice A' (xs++ys).length c'∧m<16384∧ys.length≤1∧Hid (ys++cnt m=cnt n)∧Hid (Own wr b0 (.slice A' (xs++ys).length c') (xs++ys))∧Hid (Grow w wr (.slice A xs.length c) (.slice A' (xs++ys).length c'))∧(128≤m→ys=[])) (fun _ v1 _=>(intOf v1).toNat)
 case atStart=>exact ⟨n,c,A,[],rfl,by simp,hn,by simp,rfl,kA (by simpa using HO.out),kA (by simpa using Grow.refl _ _),fun _=>rfl⟩
 case round =>
  obtain ⟨m,c',A',ys,rfl,rfl,hm,hy1,hcnt,HO1,HG1,hys⟩:=hrel
  by_cases h128:128≤m
  ·have hys0:=hys h128
   subst hys0
   clear hys hy1
   have h1:(128:Int)≤(m:Int):=by omega
   have hor:=or128 m
   have hdec:decide ((128:Int)≤(m:Int))=true:=kW h1
   go_wp2_with (first
    |(at_builtin;refine zdh _ rfl _ _ rfl (v := .slice A' (xs++[]).length c') (by simp;rfl) (Own.keep HO1.out ((Alt.refl wr (fun _=>False)).alloc _) (fun _ _ h=>h)) (ys:=[((m % 128+128:Nat):Int)]) (by rfl) (Rb.one _ _) (by simp;omega) (kH hbase (kH HG1.out.alt.size (by simp))) ?_;intro A2 c2 w2 hown2 hgrow2 hblk2))
   have e1:cnt m=[((m % 128+128:Nat):Int),((m / 128:Nat):Int)]:=kT (by omega)
   have e2:cnt (m / 128)=[((m / 128:Nat):Int)]:=kZ (by omega)
   refine ⟨⟨m / 128,c2,A2,[((m % 128+128:Nat):Int)],by go_num,by simp,by omega,by simp,kA (by rw[e2, ← hcnt.out,e1];rfl),kA (by simpa using hown2),kA ?_,fun h=>absurd h (by omega)⟩,by simp[intOf];omega⟩
   have hg:=HG1.out.trans ((Grow.of_app hgrow2 hblk2).of_alloc fun k hk=>(Own.base HO1.out hk).2)
   simpa using hg
  ·have h1:¬ (128:Int)≤(m:Int):=by omega
   have hdec:decide ((128:Int)≤(m:Int))=false:=kQ h1
   have hmod:(m:Int) % 256=(m:Int):=by omega
   have e1:Hid (cnt m=[(m:Int)]):=kA (kZ (by omega))
   go_wp2_with (first
    |(at_builtin;refine zdh _ rfl _ _ rfl (v := .slice A' (xs++ys).length c') rfl (Own.keep HO1.out ((Alt.refl wr (fun _=>False)).alloc _) (fun _ _ h=>h)) (ys:=[(m:Int)]) (by rfl) (Rb.one _ _) (by simp;omega) (kH hbase (kH HG1.out.alt.size (by simp))) ?_;intro A2 c2 w2 hown2 hgrow2 hblk2))
   have hz:cnt n=ys++[(m:Int)]:=by rw[← hcnt.out,e1.out]
   have hl:(xs++cnt n).length=xs.length+ys.length+1:=by rw[hz];simp;omega
   have hg:=HG1.out.trans ((Grow.of_app hgrow2 hblk2).of_alloc fun k hk=>(Own.base HO1.out hk).2)
   have ho:Own w2 b0 (.slice A2 (xs.length+ys.length+1) c2) (xs++cnt n):=by rw[hz];simpa using hown2
   have hg2:Grow w w2 (.slice A xs.length c) (.slice A2 (xs.length+ys.length+1) c2):=by simpa using hg
   go_ret
   refine ⟨A2,c2,?_,?_,?_⟩
   ·first|rw[hl]|(rw[kI] at hl;simp only[hl])|skip
    try rfl
   ·first|(rw[hl];exact ho)|(rw[kI] at hl;rw[hl];exact ho)
   ·first|(rw[hl];exact hg2)|(rw[kI] at hl;rw[hl];exact hg2)
theorem ze3 {w:World}{b0:Nat}{A:Option Addr}{L c:Nat}{xs:List Int}(h:Own w b0 (.slice A L c) xs):L=xs.length:=by
 obtain ⟨A',c',e,_⟩:=h.slice
 injection e with _ e _
theorem zxa {w:World}{b0 L c:Nat}{A:Option Addr}{xs:List Int}(n:Nat)(hown:Own w b0 (.slice A L c) xs)(hn:n<16384)(hb:xs.length≤90000000)(hbase:b0≤w.heap.size) :
  Calls Tryz.prog 114 #[.slice A L c,.int .i64 (n:Int)] w fun e w'=>∃ A' L' c',e = .returned (.slice A' L' c')∧Own w' b0 (.slice A' L' c') (xs++cnt n)∧Grow w w' (.slice A L c) (.slice A' L' c'):=by
 obtain rfl:=ze3 hown
 refine (zsy n hown hn hb hbase).mono ?_
 rintro e w' ⟨A',c',rfl,h1,h2⟩
 exact ⟨A',_,c',rfl,h1,h2⟩
structure Wr (w:World)(b0 g:Nat)(v:Value)(xs:List Int):Prop where
 blk:Blk w g 246 #[v]
 own:Own w b0 v xs
 base:b0≤w.heap.size
structure GrowW (w w':World)(g:Nat)(v v':Value):Prop where
 alt:Alt w w' (fun k=>k=g∨v.ownBlock=some k)
 blk:∀ k,v'.ownBlock=some k→k<w.heap.size→v.ownBlock=some k
theorem GrowW.refl (w:World)(g:Nat)(v:Value):GrowW w w g v v:=⟨Alt.refl _ _,fun _ h _=>h⟩
theorem GrowW.trans {w w1 w2:World}{g:Nat}{v v1 v2:Value}(h:GrowW w w1 g v v1)(h':GrowW w1 w2 g v1 v2):GrowW w w2 g v v2 :=
 ⟨h.alt.trans h'.alt fun k hk e=>e.imp id fun e=>h.blk k e hk,fun k e hk=>h.blk k (h'.blk k e (qE hk h.alt.size)) hk⟩
theorem Wr.step {w w1:World}{b0 g:Nat}{v:Value}{xs ys:List Int}{A:Option Addr}{L c:Nat}(h:Wr w b0 g v xs)(ho:Own w1 b0 (.slice A L c) ys)(hg:Grow w w1 v (.slice A L c)) :
  Wr (w1.setCell ⟨g,0,none⟩ (.slice A L c)) b0 g (.slice A L c) ys∧GrowW w (w1.setCell ⟨g,0,none⟩ (.slice A L c)) g v (.slice A L c):=by
 have hb1:Blk w1 g 246 #[v]:=(hg.alt.block g h.blk.lt (h.own.ne h.blk (by decide))).trans h.blk
 refine ⟨⟨hb1.set_ 0 _,ho.keep ((Alt.refl w1 (fun k=>k=g)).set_ rfl _) (fun k hk e=>?_),by have:=hg.alt.size;have:=h.base;simp;omega⟩,Alt.set_ (p:=fun k=>k=g∨v.ownBlock=some k) (a:=⟨g,0,none⟩) (hg.alt.mono fun k hk=>Or.inr hk) (Or.inl rfl) _,hg.blk⟩
 subst e
 exact ho.ne hb1 (by decide) hk
theorem zqk {w:World}{b0 g L c:Nat}{A:Option Addr}{xs:List Int}(n:Nat)(h:Wr w b0 g (.slice A L c) xs)(hn:n<16384)(hb:xs.length≤90000000) :
  Calls Tryz.prog 97 #[.pointer (some ⟨g,0,none⟩),.int .i64 (n:Int)] w fun e w'=>e = .returned (.tuple #[])∧∃ A' L' c',Wr w' b0 g (.slice A' L' c') (xs++cnt n)∧GrowW w w' g (.slice A L c) (.slice A' L' c'):=by
 have H:=kA h
 have c0:w.cell? ⟨g,0,none⟩=some (.slice A L c):=h.blk.cell 0
 have fz:=h.blk.frozen 0
 clear h
 go_enter Tryz.func97,Tryz.ntmps97
 go_wp2_with (first
  |(go_at_call 114;refine (zxa n H.out.own hn hb H.out.base).mono ?_;rintro e w1 ⟨A1,L1,c1,rfl,ho1,hg1⟩;have hs1:=H.out.step ho1 hg1;have hb1:Blk w1 g 246 #[.slice A L c]:=(hg1.alt.block g H.out.blk.lt (H.out.own.ne H.out.blk (by decide))).trans H.out.blk;have d0:w1.cell? ⟨g,0,none⟩=some (.slice A L c):=hb1.cell 0;have dz:=hb1.frozen 0;have HS:=kA hs1;clear ho1 hg1 hb1 hs1))
 go_end0
 exact ⟨rfl,A1,L1,c1,HS.out⟩
theorem zql {ops:Array Oper}{rest:List Oper}{o:Oper}{a:Act}{Q:Exit→Act→World→Prop}(w:World)(hgd:o.guard=none)(s x:Operand)
  (ho:o.op = .call { callee := .builtin .append,args:=#[s,x],argTypes:=#[31,9] })
  {b0:Nat} {v:Value} {xs:List Int} {t:ByteArray} (hs:a.eval s=v) (hown:Own w b0 v xs) (hx:a.eval x = .string t) (hb:xs.length+t.size≤100000000) (hbase:b0≤w.heap.size)
  (h:∀ A' L' c' w',Own w' b0 (.slice A' L' c') (xs++nums t)→Grow w w' v (.slice A' L' c')→wpList Tryz.prog ops Q rest (a.put o.dst (.slice A' L' c')) w'):wpList Tryz.prog ops Q (o :: rest) a w:=by
 refine wpList_plain hgd fun K hK=>?_
 obtain ⟨A',c',w',hr,h2,h3,h4⟩:=zyw w hown t o.type hb hbase
 unfold Oper.wp execOp
 simp only[ho,resolve,invoke,builtin,Sem.run_bind,Sem.run_pure,Result.andThen_ok,List.map_toArray,kM,List.map_nil,hs,hx,hr]
 exact hK _ _ (h A' _ c' w' h2 (Grow.of_app h3 h4))
theorem zfo {w:World}{b0 g L c:Nat}{A:Option Addr}{xs:List Int}(s:ByteArray)(h:Wr w b0 g (.slice A L c) xs)(hn:s.size<16384)(hb:xs.length≤80000000) :
  Calls Tryz.prog 376 #[.pointer (some ⟨g,0,none⟩),.string s] w fun e w'=>e = .returned (.tuple #[])∧∃ A' L' c',Wr w' b0 g (.slice A' L' c') (xs++(cnt s.size++nums s))∧GrowW w w' g (.slice A L c) (.slice A' L' c'):=by
 have H:=kA h
 clear h
 have hcl:(cnt s.size).length≤2:=by unfold cnt;split <;> simp
 go_enter Tryz.func376,Tryz.ntmps376
 go_wp2_with (first
  |(go_at_call 97;refine (zqk s.size H.out hn (by omega)).mono ?_;rintro e w1 ⟨rfl,A1,L1,c1,hw1,hg1⟩;have c0:w1.cell? ⟨g,0,none⟩=some (.slice A1 L1 c1):=hw1.blk.cell 0;have fz:=hw1.blk.frozen 0;have HW1:=kA hw1;have HG1:=kA hg1;clear hw1 hg1)
  |(at_builtin;refine zql _ rfl _ _ rfl rfl HW1.out.own rfl (by rw[kI];omega) HW1.out.base ?_;intro A2 L2 c2 w2 ho2 hg2;have hs2:=HW1.out.step ho2 hg2;have hb2:Blk w2 g 246 #[.slice A1 L1 c1]:=(hg2.alt.block g HW1.out.blk.lt (HW1.out.own.ne HW1.out.blk (by decide))).trans HW1.out.blk;have d0:w2.cell? ⟨g,0,none⟩=some (.slice A1 L1 c1):=hb2.cell 0;have dz:=hb2.frozen 0;have HS:=kA hs2;clear ho2 hg2 hb2 hs2))
 go_end0
 refine ⟨rfl,A2,L2,c2,?_,HG1.out.trans HS.out.2⟩
 rw[← kR]
 exact HS.out.1
theorem infoB:(Tryz.prog.info? 5).map (·.size)=some 1:=by kernel_rfl
theorem zi9 {α:Type}(L cs:List α)(h:cs.length=L.length):splice L 0 cs=cs:=by
 unfold splice
 rw[List.take_zero,Nat.zero_add,h,List.drop_length]
 simp
theorem zqm (w:World)(n:Nat)(h:n≤90000000):∃ Z:List Value,Z.length=n∧(Instr.makeSlice 31 (.int .i64 (n:Int)) (.int .i64 (n:Int))).run Tryz.prog w = .ok (.slice (some ⟨w.heap.size,0,none⟩) n n) (w.alloc (.cells Z.toArray 5)):=by
 obtain ⟨i0,hi0,hz0,hz1,hz2⟩:=info_parts zj9
 have:=run_make (P:=Tryz.prog) w 31 5 i0 _ Tryz.underlying31 hi0 hz0 .i64 .i64 (n:Int) (n:Int) (by omega) (by omega) (by rw[hz2];omega) (by omega)
 have e1:((n:Int)).toNat=n:=by omega
 rw[e1] at this
 generalize hM:madeCells (Value.int .u8 0).cells (n*i0.size)=M at this
 have hs:M.size=n:=by rw[← hM,size_madeCells,hz1,Nat.mul_one]
 exact ⟨M.toList,by simpa using hs,by simpa using this⟩
theorem zfp {w:World}{c:Nat}{A:Option Addr}{xs:List Int}(h:Rb w A xs)(hb:xs.length≤90000000) :
  Calls Tryz.prog 116 #[.slice A xs.length c] w fun e w'=>∃ A' L' c',e = .returned (.slice A' L' c')∧Own w' w.heap.size (.slice A' L' c') xs∧Below w.heap.size w w':=by
 obtain ⟨Z,hZ,hmk⟩:=zqm w xs.length hb
 have HZ:=kA hZ
 have H1:=kA (h.keep (Alt.alloc (Alt.refl w (fun _=>False)) (.cells Z.toArray 5)) (fun _ _ h=>h))
 have HN:=Blk.new w 5 Z.toArray
 obtain ⟨ws,hws⟩:∃ ws,ws=xs.map (Value.int .u8):=⟨_,rfl⟩
 have HWS:=kA hws
 have HB0:Hid (Below w.heap.size w (w.alloc (.cells Z.toArray 5))):=kA ((Below.refl _ _).alloc (kJ _) _)
 have HNN:=kA HN
 clear h hZ hws HN
 generalize hn:xs.length=n at hmk hb HZ ⊢
 have HNL:=kA hn
 clear hn
 have h1:(n:Int)≤90000000:=by omega
 go_enter Tryz.func116,Tryz.ntmps116
 go_wp2_with (first
  |((refine wpList_copy_splice rfl _ _ 31 31 rfl 5 Tryz.underlying31 infoB _ _ _ _ _ _ rfl rfl w.heap.size 0 Z 5 HNN.out ws (by rw[HWS.out,kN,HNL.out];exact (Nat.min_self n).symm) (fun hp=>⟨rfl,by
    obtain ⟨ad,e,_,hc⟩:=H1.out (by rw[HWS.out,kN] at hp;exact hp)
    exact ⟨ad,e,by rw[HWS.out];exact hc⟩⟩) (by rw[HWS.out,kN,HNL.out,HZ.out];omega) (by rw[HWS.out];exact zlw xs) w.heap.size w HB0.out (kJ _) ?_);intro w1 hrow1 hbel1))
 go_ret
 refine ⟨_,_,_,rfl,⟨by rw[kN,Nat.mul_one],.inr ⟨w.heap.size,n,_,by rw[HNL.out],kJ _,hrow1.out,by rw[HNL.out];exact kJ _,by unfold maxLen;omega,?_,?_⟩⟩,hbel1⟩
 ·rw[zi9 Z ws (by rw[HWS.out,kN,HNL.out,HZ.out]),HWS.out]
  simp[HNL.out]
 ·rw[zi9 Z ws (by rw[HWS.out,kN,HNL.out,HZ.out]),HWS.out]
  simp only[Nat.mul_one]
  exact List.take_of_length_le (by simp)
theorem zej {w:World}{b0 g L c:Nat}{A:Option Addr}{xs:List Int}(h:Wr w b0 g (.slice A L c) xs)(hb:xs.length≤90000000) :
  Calls Tryz.prog 50 #[.pointer (some ⟨g,0,none⟩)] w fun e w'=>∃ A' L' c',e = .returned (.slice A' L' c')∧Own w' w.heap.size (.slice A' L' c') xs∧Below w.heap.size w w':=by
 obtain rfl:=ze3 h.own
 have HR:=kA (Rb.of_own h.own)
 have c0:w.cell? ⟨g,0,none⟩=some (.slice A xs.length c):=h.blk.cell 0
 clear h
 go_enter Tryz.func50,Tryz.ntmps50
 go_wp2_with (first
  |(go_at_call 116;refine (zfp HR.out hb).mono ?_;rintro e w1 ⟨A1,L1,c1,rfl,ho1,hb1⟩;have HO1:=kA ho1;have HB1:=kA hb1;clear ho1 hb1))
 go_ret
 exact ⟨_,_,_,rfl,HO1.out,HB1.out⟩
def fnv:Int→List Int→Int
 |h,[]=>h
 |h,b :: l=>fnv (IntKind.u64.wrap (bits .xor .u64 h (IntKind.u64.wrap b)*1099511628211)) l
theorem zsz {w:World}{c:Nat}{A:Option Addr}{xs:List Int}(h:Rb w A xs)(hb:xs.length≤90000000) :
  Calls Tryz.prog 115 #[.slice A xs.length c] w fun e w'=>e = .returned (.int .u64 (fnv 14695981039346656037 xs))∧w=w':=by
 have H:=kA h
 clear h
 generalize hn:xs.length=n at hb ⊢
 have HNL:=kA hn
 clear hn
 go_enter Tryz.func115,Tryz.ntmps115
 go_wp2
 go_loopw [3,8] (fun v3 v8 wr=>∃ (j:Nat) (hh:Int),j≤n∧v8 = .int .i64 (j:Int)∧v3 = .int .u64 hh∧w=wr∧Hid (fnv hh (xs.drop j)=fnv 14695981039346656037 xs)) (fun _ v8 _=>n - (intOf v8).toNat)
 case atStart=>exact ⟨0,_,kX _,rfl,rfl,rfl,rfl⟩
 case round =>
  obtain ⟨j,hh,hj,rfl,rfl,rfl,hf⟩:=hrel
  by_cases hgo:j<n
  ·obtain ⟨ad,rfl,_,hc⟩:=H.out (by rw[HNL.out];omega)
   have hx:=hc j _ (by rw[List.getElem?_map,kV (by rw[HNL.out];exact hgo)];rfl)
   go_wp2
   refine ⟨⟨j+1,_,hgo,by go_num,rfl,trivial,kA ?_⟩,by simp[intOf];omega⟩
   have e:=List.drop_eq_getElem_cons (l:=xs) (i:=j) (by rw[HNL.out];exact hgo)
   rw[← hf.out,e]
   rfl
  ·have hjn:j=n:=by omega
   have hfin:Hid (hh=fnv 14695981039346656037 xs):=kA (by
    rw[← hf.out,List.drop_eq_nil_of_le (by rw[HNL.out,hjn];exact kJ _)];rfl)
   clear hf
   subst hjn
   go_wp2
   go_ret
   refine ⟨?_,rfl⟩
   rw[hfin.out]
   rfl
def be8 (h:Int):List Int:=[h / 72057594037927936 % 256,h / 281474976710656 % 256,h / 1099511627776 % 256,h / 4294967296 % 256,h / 16777216 % 256,h / 65536 % 256,h / 256 % 256,h % 256]
def preL (kind:Int)(ys:List Int):List Int:=kind :: (cnt ys.length++ys)
def sealL (kind:Int)(ys:List Int):List Int:=preL kind ys++be8 (fnv 14695981039346656037 (preL kind ys))
theorem zch (n:Nat):(cnt n).length≤2:=by unfold cnt;split <;> simp
theorem zbd {ops:Array Oper}{rest:List Oper}{o:Oper}{a:Act}{Q:Exit→Act→World→Prop}(w:World)(hgd:o.guard=none)(s x:Operand)
  (ho:o.op = .call { callee := .builtin .append,args:=#[s,x],argTypes:=#[31,31] })
  {b0:Nat} {v:Value} {xs ys:List Int} {A:Option Addr} {L c:Nat} (hs:a.eval s=v) (hown:Own w b0 v xs) (hx:a.eval x = .slice A L c) (hL:L=ys.length) (hy:Rb w A ys) (hb:xs.length+ys.length≤100000000) (hbase:b0≤w.heap.size)
  (h:∀ A' L' c' w',Own w' b0 (.slice A' L' c') (xs++ys)→Grow w w' v (.slice A' L' c')→wpList Tryz.prog ops Q rest (a.put o.dst (.slice A' L' c')) w'):wpList Tryz.prog ops Q (o :: rest) a w:=by
 subst hL
 exact zdh w hgd s x ho hs hown hx hy hb hbase fun A' c' w' h1 h2 h3=>h A' _ c' w' h1 (Grow.of_app h2 h3)
theorem zs0 (w:World)(x:Int):Own (w.alloc (.cells #[.int .u8 x] 5)) w.heap.size (.slice (some ⟨w.heap.size,0,none⟩) 1 1) [x] :=
 ⟨rfl,.inr ⟨w.heap.size,1,#[.int .u8 x],rfl,kJ _,Blk.new w _ _,kJ _,by unfold maxLen;omega,rfl,rfl⟩⟩
theorem zam {w w':World}{b:Nat}{v:Value}{xs:List Int}(h:Own w b v xs)(hb:Below w.heap.size w w'):Own w' b v xs :=
 h.keep (p:=fun k=>w.heap.size≤k) ⟨hb.os,hb.tape,hb.output,hb.size,fun k hk _=>hb.block k hk⟩ fun k e hk=>by have:=(h.base e).2;omega
theorem zlx {w:World}{b b':Nat}{v:Value}{xs:List Int}(h:Own w b v xs)(hb:b'≤b):Own w b' v xs:=by
 refine ⟨h.1,?_⟩
 rcases h.2 with h2|⟨g,cap,cur,e,h3,h4,h5⟩
 ·exact .inl h2
 ·exact .inr ⟨g,cap,cur,e,kH hb h3,h4,h5⟩
theorem Grow.below {w w1 w2:World}{B:Nat}{v v2:Value}{xs:List Int}(hb:Below B w w1)(ho:Own w1 B v xs)(hg:Grow w1 w2 v v2)(hB:B≤w.heap.size):Below B w w2 :=
 hb.trans ⟨hg.alt.os,hg.alt.tape,hg.alt.output,hg.alt.size,fun k hk=>hg.alt.block k (by have:=hb.size;omega) fun e=>by have:=(ho.base e).1;omega⟩
theorem Below.new1 (w:World)(o:Obj):Below w.heap.size w (w.alloc o):=(Below.refl _ _).alloc (kJ _) _
theorem zg5 {w:World}{c L b1:Nat}{A:Option Addr}{ys:List Int}{kind:Int}(h:Own w b1 (.slice A L c) ys)(hl:ys.length<16384)(hk1:1≤kind)(hk2:kind≤255) :
  Calls Tryz.prog 49 #[.int .i64 kind,.slice A L c] w fun e w'=>∃ A' L' c',e = .returned (.tuple #[.slice A' L' c',.int .i64 0])∧Own w' w.heap.size (.slice A' L' c') (sealL kind ys)∧Below w.heap.size w w':=by
 have HL:=kA (ze3 h)
 have H:=kA h
 clear h
 have hL1:(L:Int)≤4194304:=by have:=HL.out;omega
 have hL2:L<16384:=by have:=HL.out;omega
 have hkd1:decide (kind<1)=false:=kQ (by omega)
 have hkd2:decide (255<kind)=false:=kQ (by omega)
 have hL3:decide ((4194304:Int)<(L:Int))=false:=kQ (by omega)
 have hkm:kind % 256=kind:=by omega
 obtain ⟨HH,hHH⟩:∃ HH,HH=fnv 14695981039346656037 (preL kind ys):=⟨_,rfl⟩
 have HF:=kA hHH
 clear hHH
 have HPL:Hid ([kind]++cnt L++ys=preL kind ys):=kA (by rw[HL.out];unfold preL;simp)
 have HPN:Hid ((preL kind ys).length≤20000):=kA (by have:=zch ys.length;unfold preL;simp;omega)
 go_enter Tryz.func49,Tryz.ntmps49
 go_wp2_with (first
  |(go_at_call 114;refine (zxa L (zs0 w kind) hL2 (by simp) (by simp)).mono ?_;rintro e w1 ⟨A1,L1,c1,rfl,ho1,hg1⟩;have HO1:=kA ho1;have HB1:=kA (Grow.below (Below.new1 w _) (zs0 w kind) hg1 (kJ _));clear ho1 hg1)
  |(at_builtin;refine zbd _ rfl _ _ rfl rfl HO1.out rfl HL.out (Rb.of_own (HL.out ▸ zam H.out HB1.out)) (by have:=HPN.out;rw[← HPL.out] at this;simp only[kI] at this ⊢;omega) HB1.out.size ?_;intro A2 L2 c2 w2 ho2 hg2;rw[HPL.out] at ho2;have HO2:=kA ho2;have HB2:=kA (Grow.below HB1.out HO1.out hg2 (kJ _));have HL2:=kA (ze3 ho2);clear ho2 hg2)
  |(go_at_call 115;refine (show Calls _ _ _ _ _ from HL2.out ▸ zsz (Rb.of_own (HL2.out ▸ HO2.out)) (by have:=HPN.out;omega)).mono ?_;rintro e w3 ⟨rfl,rfl⟩;rw[← HF.out]))
 have HSH:=kA (show (preL kind ys).length≤20000 from HPN.out)
 go_loopw [6,8] (fun v6 v8 wr=>∃ (k:Nat) (A':Option Addr) (L' c':Nat),k≤8∧v8 = .int .i64 (7 - (k:Int))∧v6 = .slice A' L' c'∧Hid (Own wr w.heap.size (.slice A' L' c') (preL kind ys++(be8 HH).take k))∧Hid (Below w.heap.size w wr)) (fun _ v8 _=>(intOf v8+1).toNat)
 case atStart=>exact ⟨0,A2,L2,c2,by omega,rfl,rfl,kA (by simpa using HO2.out),HB2.out⟩
 case round =>
  obtain ⟨k,A',L',c',hk,rfl,rfl,HO,HB⟩:=hrel
  have hk9:k=0∨k=1∨k=2∨k=3∨k=4∨k=5∨k=6∨k=7∨k=8:=by omega
  clear HO2 HB2 HL2 HO1 HB1
  rcases hk9 with rfl|rfl|rfl|rfl|rfl|rfl|rfl|rfl|rfl
  ·go_wp2_with (first
    |(at_builtin;refine zbd _ rfl _ _ rfl rfl (zam HO.out (Below.new1 _ _)) (ys:=[_]) rfl rfl (Rb.one _ _) (by have:=HSH.out;simp;omega) (kH HB.out.size (by simp)) ?_;intro A3 L3 c3 w3 ho3 hg3;have HO3:=kA ho3;have HB3:=kA (Grow.below (HB.out.alloc HB.out.size _) (zam HO.out (Below.new1 _ _)) hg3 (kJ _));clear ho3 hg3))
   refine ⟨⟨1,A3,L3,c3,by omega,rfl,rfl,kA ?_,HB3⟩,by simp[intOf]⟩
   have:=HO3.out
   rw[kR] at this
   exact this
  ·go_wp2_with (first
    |(at_builtin;refine zbd _ rfl _ _ rfl rfl (zam HO.out (Below.new1 _ _)) (ys:=[_]) rfl rfl (Rb.one _ _) (by have:=HSH.out;simp;omega) (kH HB.out.size (by simp)) ?_;intro A3 L3 c3 w3 ho3 hg3;have HO3:=kA ho3;have HB3:=kA (Grow.below (HB.out.alloc HB.out.size _) (zam HO.out (Below.new1 _ _)) hg3 (kJ _));clear ho3 hg3))
   refine ⟨⟨2,A3,L3,c3,by omega,rfl,rfl,kA ?_,HB3⟩,by simp[intOf]⟩
   have:=HO3.out
   rw[kR] at this
   exact this
  ·go_wp2_with (first
    |(at_builtin;refine zbd _ rfl _ _ rfl rfl (zam HO.out (Below.new1 _ _)) (ys:=[_]) rfl rfl (Rb.one _ _) (by have:=HSH.out;simp;omega) (kH HB.out.size (by simp)) ?_;intro A3 L3 c3 w3 ho3 hg3;have HO3:=kA ho3;have HB3:=kA (Grow.below (HB.out.alloc HB.out.size _) (zam HO.out (Below.new1 _ _)) hg3 (kJ _));clear ho3 hg3))
   refine ⟨⟨3,A3,L3,c3,by omega,rfl,rfl,kA ?_,HB3⟩,by simp[intOf]⟩
   have:=HO3.out
   rw[kR] at this
   exact this
  ·go_wp2_with (first
    |(at_builtin;refine zbd _ rfl _ _ rfl rfl (zam HO.out (Below.new1 _ _)) (ys:=[_]) rfl rfl (Rb.one _ _) (by have:=HSH.out;simp;omega) (kH HB.out.size (by simp)) ?_;intro A3 L3 c3 w3 ho3 hg3;have HO3:=kA ho3;have HB3:=kA (Grow.below (HB.out.alloc HB.out.size _) (zam HO.out (Below.new1 _ _)) hg3 (kJ _));clear ho3 hg3))
   refine ⟨⟨4,A3,L3,c3,by omega,rfl,rfl,kA ?_,HB3⟩,by simp[intOf]⟩
   have:=HO3.out
   rw[kR] at this
   exact this
  ·go_wp2_with (first
    |(at_builtin;refine zbd _ rfl _ _ rfl rfl (zam HO.out (Below.new1 _ _)) (ys:=[_]) rfl rfl (Rb.one _ _) (by have:=HSH.out;simp;omega) (kH HB.out.size (by simp)) ?_;intro A3 L3 c3 w3 ho3 hg3;have HO3:=kA ho3;have HB3:=kA (Grow.below (HB.out.alloc HB.out.size _) (zam HO.out (Below.new1 _ _)) hg3 (kJ _));clear ho3 hg3))
   refine ⟨⟨5,A3,L3,c3,by omega,rfl,rfl,kA ?_,HB3⟩,by simp[intOf]⟩
   have:=HO3.out
   rw[kR] at this
   exact this
  ·go_wp2_with (first
    |(at_builtin;refine zbd _ rfl _ _ rfl rfl (zam HO.out (Below.new1 _ _)) (ys:=[_]) rfl rfl (Rb.one _ _) (by have:=HSH.out;simp;omega) (kH HB.out.size (by simp)) ?_;intro A3 L3 c3 w3 ho3 hg3;have HO3:=kA ho3;have HB3:=kA (Grow.below (HB.out.alloc HB.out.size _) (zam HO.out (Below.new1 _ _)) hg3 (kJ _));clear ho3 hg3))
   refine ⟨⟨6,A3,L3,c3,by omega,rfl,rfl,kA ?_,HB3⟩,by simp[intOf]⟩
   have:=HO3.out
   rw[kR] at this
   exact this
  ·go_wp2_with (first
    |(at_builtin;refine zbd _ rfl _ _ rfl rfl (zam HO.out (Below.new1 _ _)) (ys:=[_]) rfl rfl (Rb.one _ _) (by have:=HSH.out;simp;omega) (kH HB.out.size (by simp)) ?_;intro A3 L3 c3 w3 ho3 hg3;have HO3:=kA ho3;have HB3:=kA (Grow.below (HB.out.alloc HB.out.size _) (zam HO.out (Below.new1 _ _)) hg3 (kJ _));clear ho3 hg3))
   refine ⟨⟨7,A3,L3,c3,by omega,rfl,rfl,kA ?_,HB3⟩,by simp[intOf]⟩
   have:=HO3.out
   rw[kR] at this
   exact this
  ·go_wp2_with (first
    |(at_builtin;refine zbd _ rfl _ _ rfl rfl (zam HO.out (Below.new1 _ _)) (ys:=[_]) rfl rfl (Rb.one _ _) (by have:=HSH.out;simp;omega) (kH HB.out.size (by simp)) ?_;intro A3 L3 c3 w3 ho3 hg3;have HO3:=kA ho3;have HB3:=kA (Grow.below (HB.out.alloc HB.out.size _) (zam HO.out (Below.new1 _ _)) hg3 (kJ _));clear ho3 hg3))
   refine ⟨⟨8,A3,L3,c3,by omega,rfl,rfl,kA ?_,HB3⟩,by simp[intOf]⟩
   have:=HO3.out
   rw[kR] at this
   exact this
  ·have HLr:=kA (ze3 HO.out)
   go_wp2_with (first
    |(go_at_call 116;refine (show Calls _ _ _ _ _ from HLr.out ▸ zfp (Rb.of_own (HLr.out ▸ HO.out)) (by have:=HSH.out;simp[be8];omega)).mono ?_;rintro e w3 ⟨A3,L3,c3,rfl,ho3,hb3⟩;have HO3:=kA ho3;have HB3:=kA hb3;clear ho3 hb3))
   go_ret2
   refine ⟨A3,L3,c3,rfl,?_,HB.out.trans (HB3.out.mono HB.out.size)⟩
   have:=zlx HO3.out HB.out.size
   unfold sealL
   rw[← HF.out]
   exact this
def strOf (ys:List Int):ByteArray:=ys.foldl (fun r n=>r.push (UInt8.ofNat n.toNat)) ByteArray.empty
theorem zg6 {w:World}{A:Option Addr}{c:Nat}{ys:List Int}(hy:Rb w A ys)(hA:A=none→ys.length=0) :
  (convert 31 9 (.slice A ys.length c)).run Tryz.prog w = .ok (.string (strOf ys)) w:=by
 rw[run_convert_bytes_string w 31 9 5 A _ _ Tryz.underlying31 Tryz.underlying5 Tryz.underlying9]
 rcases A with _|ad
 ·have h0:=hA rfl
  obtain rfl:ys=[]:=qG h0
  simp[Conv.bytesToString,strOf]
 ·refine run_bytesToString w ad ys.length c ys ?_
  by_cases h0:ys.length=0
  ·obtain rfl:ys=[]:=qG h0
   simp[loadCells,loadCellsFrom]
  ·obtain ⟨ad',e,_,hc⟩:=hy (by omega)
   cases e
   have:=run_loadCells_list (P:=Tryz.prog) (w:=w) ad (ys.map (Value.int .u8)) hc
   rwa[kN] at this
theorem zo1:∀ (ys:List Int) (r:ByteArray),(ys.foldl (fun r n=>r.push (UInt8.ofNat n.toNat)) r).data.toList=r.data.toList++ys.map fun n=>UInt8.ofNat n.toNat
 | [],r=>by simp
 |y :: l,r=>by
  rw[List.foldl_cons,zo1 l]
  simp
theorem zek (ys:List Int):(strOf ys).data.toList=ys.map fun n=>UInt8.ofNat n.toNat:=(zo1 ys _).trans (by simp)
theorem zbb (ys:List Int):(strOf ys).size=ys.length:=by
 have:(strOf ys).data.toList.length=ys.length:=by rw[zek,kN]
 exact this
def IsB (ys:List Int):Prop:=∀ y∈ys,0≤y∧y<256
theorem zci {ys:List Int}(h:IsB ys):nums (strOf ys)=ys:=by
 unfold nums
 rw[zek,qK]
 refine (List.map_congr_left fun y hy=>?_).trans (List.map_id ys)
 obtain ⟨h0,h1⟩:=h y hy
 show (((UInt8.ofNat y.toNat).toNat:Nat):Int)=y
 rw[UInt8.toNat_ofNat',qM (by omega)]
 omega
def mkL (v:Nat):List Int:=[(v:Int) / 16777216,(v:Int) / 65536 % 256,(v:Int) / 256 % 256,(v:Int) % 256]
theorem zs1 {v:Nat}(hv:v<2147483648):IsB (mkL v):=by
 intro y hy
 simp only[mkL,List.mem_cons,List.mem_nil_iff,or_false] at hy
 rcases hy with rfl|rfl|rfl|rfl <;> omega
theorem zs3 (w:World)(ys:List Int):Rb (w.alloc (.cells (ys.map (Value.int .u8)).toArray 5)) (some ⟨w.heap.size,0,none⟩) ys:=fun _ =>
 ⟨_,rfl,by simp,fun j u hj=>by
  have hb:=Blk.new w 5 (ys.map (Value.int .u8)).toArray
  have e:(⟨w.heap.size,0,none⟩:Addr).add j=⟨w.heap.size,j,none⟩:=by unfold Addr.add;simp;intro h;exact h.symm
  rw[e,Blk.cell hb j]
  simpa using hj⟩
theorem zg7 {w:World}(v:Nat)(hv:v<2147483648) :
  Calls Tryz.prog 377 #[.int .i64 (v:Int)] w fun e w'=>e = .returned (.string (strOf (mkL v)))∧Below w.heap.size w w':=by
 have hcv:=zg6 (c:=4) (zs3 w (mkL v)) (fun h=>by cases h)
 have hcv':(convert 31 9 (.slice (some ⟨w.heap.size,0,none⟩) 4 4)).run Tryz.prog (w.alloc (.cells #[.int .u8 ((v:Int) / 16777216),.int .u8 ((v:Int) / 65536 % 256),.int .u8 ((v:Int) / 256 % 256),.int .u8 ((v:Int) % 256)] 5)) = .ok (.string (strOf (mkL v))) (w.alloc (.cells #[.int .u8 ((v:Int) / 16777216),.int .u8 ((v:Int) / 65536 % 256),.int .u8 ((v:Int) / 256 % 256),.int .u8 ((v:Int) % 256)] 5)):=hcv
 clear hcv
 go_enter Tryz.func377,Tryz.ntmps377
 go_wp2
 go_ret
 exact ⟨rfl,Below.new1 _ _⟩
theorem zg8 (w:World):Calls Tryz.prog 47 #[] w fun e w'=>e = .returned (.pointer (some ⟨w.heap.size,0,none⟩))∧Wr w' w.heap.size w.heap.size (.slice none 0 0) []∧Below w.heap.size w w':=by
 go_enter Tryz.func47,Tryz.ntmps47
 go_wp2
 go_ret
 exact ⟨rfl,⟨Blk.new _ _ _,World.ownsRow_nil _ _ _ _,by simp⟩,Below.new1 _ _⟩
def textL (ys:List Int):List Int:=cnt ys.length++ys
def bodyL (name:List Int)(vy:Nat)(rest:List Int):List Int:=textL name++(textL (mkL vy)++rest)
theorem GrowW.below {w wN w1:World}{g:Nat}{v1:Value}(h:GrowW wN w1 g (.slice none 0 0) v1)(hN:Below w.heap.size w wN)(hg:w.heap.size≤g):Below w.heap.size w w1 :=
 hN.trans (h.alt.below (fun k hk=>by
  rcases hk with rfl|hk
  ·exact hg
  ·cases hk) hN.size)
theorem zah (ys:List Int):(textL ys).length≤ys.length+2:=by
 unfold textL
 have:=zch ys.length
 simp;omega
theorem zbr (s:ByteArray):cnt s.size++nums s=textL (nums s):=by unfold textL;rw[zaj]
theorem zel {w:World}{a b c d e:Value}(W:World)(hb:Below (w.alloc (.cells #[a,b,c,d,e] 222)).heap.size (w.alloc (.cells #[a,b,c,d,e] 222)) W) :
  W.cell? ⟨w.heap.size,0,none⟩=some a∧W.cell? ⟨w.heap.size,1,none⟩=some b∧W.cell? ⟨w.heap.size,2,none⟩=some c∧W.cell? ⟨w.heap.size,3,none⟩=some d∧W.cell? ⟨w.heap.size,4,none⟩=some e:=by
 have h:=(hb.block w.heap.size (by simp)).trans (Blk.new w 222 #[a,b,c,d,e])
 have hB:Blk W w.heap.size 222 #[a,b,c,d,e]:=h
 exact ⟨hB.cell 0,hB.cell 1,hB.cell 2,hB.cell 3,hB.cell 4⟩
theorem Wr.below {w w':World}{b0 g:Nat}{v:Value}{xs:List Int}(h:Wr w b0 g v xs)(hb:Below w.heap.size w w'):Wr w' b0 g v xs :=
 ⟨(hb.block g h.blk.lt).trans h.blk,zam h.own hb,kH h.base hb.size⟩
theorem Wr.drew {w:World}{b0 g:Nat}{v:Value}{xs:List Int}(h:Wr w b0 g v xs):Wr w.drew b0 g v xs:=⟨h.blk,h.own,h.base⟩
theorem GrowW.then {w0 w1 w2:World}{g:Nat}{v v1:Value}(h:GrowW w0 w1 g v v1)(hb:Below w1.heap.size w1 w2):GrowW w0 w2 g v v1 :=
 ⟨⟨hb.os.trans h.alt.os,hb.tape.trans h.alt.tape,hb.output.trans h.alt.output,kH h.alt.size hb.size,fun k hk hp=>(hb.block k (qE hk h.alt.size)).trans (h.alt.block k hk hp)⟩,h.blk⟩
theorem _root_.Go.Proofs.YtemgclnkgieldaaGreatDoor.Dk.Rb.below {w w':World}{A:Option Addr}{xs:List Int}(h:Rb w A xs)(hb:Below w.heap.size w w'):Rb w' A xs:=by
 rcases xs with _|⟨x,l⟩
 ·exact Rb.nil _ _
 ·refine h.keep (p:=fun k=>w.heap.size≤k) ⟨hb.os,hb.tape,hb.output,hb.size,fun k hk _=>hb.block k hk⟩ (fun ad e hk=>?_)
  obtain ⟨ad',e',hl,_⟩:=h (by simp)
  rw[e] at e';injection e' with e';subst e'
  exact absurd hk (by show ¬ w.heap.size≤ad.block;omega)
theorem zly {w:World}{kind:Int}(name:ByteArray)(vy:Nat)(live:Int)(mv:Value)(hn:name.size≤1000)(hv:vy<2147483648)(hk:kind=2∨kind=3) :
  Calls Tryz.prog 198 #[.agg #[.int .i64 kind,.string name,.int .i64 (vy:Int),.int .i64 live,mv]] w fun e w'=>∃ A' L' c',e = .returned (.tuple #[.slice A' L' c',.bool true])∧Own w' w.heap.size (.slice A' L' c') (sealL kind (bodyL (nums name) vy []))∧Below w.heap.size w w':=by
 have hkk:Hid (1≤kind∧kind≤255):=kA (by omega)
 have hk1:(kind == 4)=false:=by simp;omega
 have hk2:(kind == 1)=false:=by simp;omega
 have hk3:(kind == 5)=false:=by simp;omega
 have HNM:=kA (zaj name)
 have hsz4:(strOf (mkL vy)).size=4:=zbb _
 have HS4:=kA hsz4
 have HNS:=kA (zci (zs1 hv))
 have HCL:=kA (fun W hb=>zel (w:=w) (a := .int .i64 kind) (b := .string name) (c := .int .i64 (vy:Int)) (d := .int .i64 live) (e:=mv) W hb)
 have HW1:=kA (Below.new1 w (.cells #[.int .i64 kind,.string name,.int .i64 (vy:Int),.int .i64 live,mv] 222))
 obtain ⟨W1,hW1⟩:∃ W1,W1=w.alloc (.cells #[.int .i64 kind,.string name,.int .i64 (vy:Int),.int .i64 live,mv] 222):=⟨_,rfl⟩
 have HWE:=kA hW1
 rw[← hW1] at HCL HW1
 have HSZ:Hid (W1.heap.size=w.heap.size+1):=kA (by rw[hW1];simp)
 clear hsz4 hW1
 generalize hM:strOf (mkL vy)=M at HS4 HNS
 have HM:=kA hM
 clear hM hk
 go_enter Tryz.func198,Tryz.ntmps198
 go_wp2_with (first
  |(go_at_call 47;refine (zg8 _).mono ?_;rintro e w0 ⟨rfl,hw0,hb0⟩;rw[← HWE.out] at hw0 hb0;rw[HSZ.out] at hw0;have HW:=kA hw0;have HB:=kA hb0;have HG:=kA (GrowW.refl w0 (w.heap.size+1) (.slice none 0 0));obtain ⟨k0,k1,k2,k3,k4⟩:=HCL.out _ hb0;clear hw0 hb0)
  |(go_at_call 377;refine (zg7 _ (by first|exact hv)).mono ?_;rintro e w2 ⟨rfl,hb2⟩;(first|rw[HM.out]);dsimp only;have HG:=kA (HG.out.then hb2);have HW:=kA (HW.out.below hb2);have HB1:=kA (HG.out.below HB.out (by rw[HSZ.out];exact kJ _));obtain ⟨k0,k1,k2,k3,k4⟩:=HCL.out _ HB1.out;clear hb2)
  |(go_at_call 376;refine (zfo _ HW.out (by first|omega|(rw[HS4.out];decide)) (by have:=HNM.out;have:=HS4.out;have:=zch name.size;have:=zch M.size;have:=zaj M;simp;try omega)).mono ?_;rintro e w1 ⟨rfl,A1,L1,c1,hw1,hg1⟩;have HG:=kA (HG.out.trans hg1);have HW:=kA hw1;have HB1:=kA (HG.out.below HB.out (by rw[HSZ.out];exact kJ _));obtain ⟨k0,k1,k2,k3,k4⟩:=HCL.out _ HB1.out;clear hw1 hg1))
 have HLN:=kA (show (bodyL (nums name) vy []).length≤15000 from by
  have:=HNM.out;have:=zah (nums name);have:=zah (mkL vy);unfold bodyL;simp[mkL] at *;omega)
 have HEQ:Hid (([]++(cnt name.size++nums name))++(cnt M.size++nums M)=bodyL (nums name) vy []):=kA (by
  rw[zbr,zbr,HNS.out];unfold bodyL;simp)
 rw[HEQ.out] at HW
 have HB:=HB1
 go_region_held3 (fun w'=>w'.cell? ⟨w.heap.size,0,none⟩=some (.int .i64 kind)) (simp[*]) (first
  |(go_at_call 50;refine (zej HW.out.drew (by have:=HLN.out;omega)).mono ?_;rintro e w5 ⟨A5,L5,c5,rfl,ho5,hb5⟩;replace hb5:=(Below.refl _ _).drew.trans hb5;have HO5:=kA ho5;have HB5:=kA hb5;obtain ⟨k0,k1,k2,k3,k4⟩:=HCL.out _ (HB.out.trans (hb5.mono HB.out.size));clear ho5 hb5)
  |(go_at_call 49;refine (zg5 HO5.out (by have:=HLN.out;omega) hkk.out.1 hkk.out.2).mono ?_;rintro e w6 ⟨A6,L6,c6,rfl,ho6,hb6⟩;have HO6:=kA ho6;have HB6:=kA hb6;obtain ⟨k0,k1,k2,k3,k4⟩:=HCL.out _ ((HB.out.trans (HB5.out.mono HB.out.size)).trans (hb6.mono (kH HB.out.size HB5.out.size)));clear ho6 hb6))
 go_wp2
 go_ret2
 have h1:=HW1.out.trans ((HB.out.trans ((HB5.out.trans (HB6.out.mono HB5.out.size)).mono HB.out.size)).mono HW1.out.size)
 exact ⟨A6,L6,c6,rfl,zlx HO6.out (kH HW1.out.size (kH HB.out.size HB5.out.size)),h1⟩
theorem zqn {w:World}{kind:Int}(name:ByteArray)(vy:Nat)(live:Int){A:Option Addr}{L c:Nat}{ms:List Int}(hms:Rb w A ms)(hLm:L=ms.length)(hA0:A=none→ms.length=0)(hmb:IsB ms)(hml:ms.length≤12000)(hn:name.size≤1000)(hv:vy<2147483648)(hk:kind=1) :
  Calls Tryz.prog 198 #[.agg #[.int .i64 kind,.string name,.int .i64 (vy:Int),.int .i64 live,.slice A L c]] w fun e w'=>∃ A' L' c',e = .returned (.tuple #[.slice A' L' c',.bool true])∧Own w' w.heap.size (.slice A' L' c') (sealL kind (bodyL (nums name) vy (textL ms)))∧Below w.heap.size w w':=by
 have hkk:Hid (1≤kind∧kind≤255):=kA (by omega)
 have hk1:(kind == 4)=false:=by simp;omega
 have hk2:(kind == 1)=true:=by simp;omega
 have HNM:=kA (zaj name)
 have hsz4:(strOf (mkL vy)).size=4:=zbb _
 have HS4:=kA hsz4
 have HNS:=kA (zci (zs1 hv))
 have HS2:=kA (zbb ms)
 have HN2:=kA (zci hmb)
 have HCV:Hid (∀ W,Below w.heap.size w W→(convert 31 9 (.slice A L c)).run Tryz.prog W = .ok (.string (strOf ms)) W):=kA fun W hb=>by
  rw[hLm]
  exact zg6 (hms.below hb) hA0
 clear hLm hA0
 have HCL:=kA (fun W hb=>zel (w:=w) (a := .int .i64 kind) (b := .string name) (c := .int .i64 (vy:Int)) (d := .int .i64 live) (e := .slice A L c) W hb)
 have HW1:=kA (Below.new1 w (.cells #[.int .i64 kind,.string name,.int .i64 (vy:Int),.int .i64 live,.slice A L c] 222))
 obtain ⟨W1,hW1⟩:∃ W1,W1=w.alloc (.cells #[.int .i64 kind,.string name,.int .i64 (vy:Int),.int .i64 live,.slice A L c] 222):=⟨_,rfl⟩
 have HWE:=kA hW1
 rw[← hW1] at HCL HW1
 have HSZ:Hid (W1.heap.size=w.heap.size+1):=kA (by rw[hW1];simp)
 clear hsz4 hW1
 generalize hM:strOf (mkL vy)=M at HS4 HNS
 have HM:=kA hM
 clear hM hk
 go_enter Tryz.func198,Tryz.ntmps198
 go_wp2_with (first
  |(go_at_call 47;refine (zg8 _).mono ?_;rintro e w0 ⟨rfl,hw0,hb0⟩;rw[← HWE.out] at hw0 hb0;rw[HSZ.out] at hw0;have HW:=kA hw0;have HB:=kA hb0;have HG:=kA (GrowW.refl w0 (w.heap.size+1) (.slice none 0 0));obtain ⟨k0,k1,k2,k3,k4⟩:=HCL.out _ hb0;clear hw0 hb0)
  |(go_at_call 377;refine (zg7 _ (by first|exact hv)).mono ?_;rintro e w2 ⟨rfl,hb2⟩;(first|rw[HM.out]);dsimp only;have HG:=kA (HG.out.then hb2);have HW:=kA (HW.out.below hb2);have HB1:=kA (HG.out.below HB.out (by rw[HSZ.out];exact kJ _));obtain ⟨k0,k1,k2,k3,k4⟩:=HCL.out _ HB1.out;have hcv:=HCV.out _ (HW1.out.trans (HB1.out.mono HW1.out.size));clear hb2)
  |(go_at_call 376;refine (zfo _ HW.out (by first|omega|(rw[HS4.out];decide)|(rw[HS2.out];omega)) (by have:=HNM.out;have:=HS4.out;have:=zch name.size;have:=zch M.size;have:=zaj M;simp;try omega)).mono ?_;rintro e w1 ⟨rfl,A1,L1,c1,hw1,hg1⟩;have HG:=kA (HG.out.trans hg1);have HW:=kA hw1;have HB1:=kA (HG.out.below HB.out (by rw[HSZ.out];exact kJ _));obtain ⟨k0,k1,k2,k3,k4⟩:=HCL.out _ HB1.out;have hcv:=HCV.out _ (HW1.out.trans (HB1.out.mono HW1.out.size));clear hw1 hg1))
 have HLN:=kA (show (bodyL (nums name) vy (textL ms)).length≤15000 from by
  have:=HNM.out;have:=zah (nums name);have:=zah (mkL vy);have:=zah ms;unfold bodyL;simp[mkL] at *;omega)
 have HEQ:Hid ((([]++(cnt name.size++nums name))++(cnt M.size++nums M))++(cnt (strOf ms).size++nums (strOf ms))=bodyL (nums name) vy (textL ms)):=kA (by
  rw[zbr,zbr,zbr,HNS.out,HN2.out];unfold bodyL;simp)
 rw[HEQ.out] at HW
 have HB:=HB1
 go_region_held3 (fun w'=>w'.cell? ⟨w.heap.size,0,none⟩=some (.int .i64 kind)) (simp[*]) (first
  |(go_at_call 50;refine (zej HW.out.drew (by have:=HLN.out;omega)).mono ?_;rintro e w5 ⟨A5,L5,c5,rfl,ho5,hb5⟩;replace hb5:=(Below.refl _ _).drew.trans hb5;have HO5:=kA ho5;have HB5:=kA hb5;obtain ⟨k0,k1,k2,k3,k4⟩:=HCL.out _ (HB.out.trans (hb5.mono HB.out.size));clear ho5 hb5)
  |(go_at_call 49;refine (zg5 HO5.out (by have:=HLN.out;omega) hkk.out.1 hkk.out.2).mono ?_;rintro e w6 ⟨A6,L6,c6,rfl,ho6,hb6⟩;have HO6:=kA ho6;have HB6:=kA hb6;obtain ⟨k0,k1,k2,k3,k4⟩:=HCL.out _ ((HB.out.trans (HB5.out.mono HB.out.size)).trans (hb6.mono (kH HB.out.size HB5.out.size)));clear ho6 hb6))
 go_wp2
 go_ret2
 have h1:=HW1.out.trans ((HB.out.trans ((HB5.out.trans (HB6.out.mono HB5.out.size)).mono HB.out.size)).mono HW1.out.size)
 exact ⟨A6,L6,c6,rfl,zlx HO6.out (kH HW1.out.size (kH HB.out.size HB5.out.size)),h1⟩
theorem znk {w:World}{kind:Int}(name:ByteArray)(vy:Nat)(live:Int){A:Option Addr}{L c:Nat}{ms:List Int}(hms:Rb w A ms)(hLm:L=ms.length)(hA0:A=none→ms.length=0)(hmb:IsB ms)(hml:ms.length≤12000)(hn:name.size≤1000)(hv:vy<2147483648)(hk:kind=5) :
  Calls Tryz.prog 198 #[.agg #[.int .i64 kind,.string name,.int .i64 (vy:Int),.int .i64 live,.slice A L c]] w fun e w'=>∃ A' L' c',e = .returned (.tuple #[.slice A' L' c',.bool true])∧Own w' w.heap.size (.slice A' L' c') (sealL kind (bodyL (nums name) vy (textL ms)))∧Below w.heap.size w w':=by
 have hkk:Hid (1≤kind∧kind≤255):=kA (by omega)
 have hk1:(kind == 4)=false:=by simp;omega
 have hk2:(kind == 1)=false:=by simp;omega
 have hk3:(kind == 5)=true:=by simp;omega
 have HNM:=kA (zaj name)
 have hsz4:(strOf (mkL vy)).size=4:=zbb _
 have HS4:=kA hsz4
 have HNS:=kA (zci (zs1 hv))
 have HS2:=kA (zbb ms)
 have HN2:=kA (zci hmb)
 have HCV:Hid (∀ W,Below w.heap.size w W→(convert 31 9 (.slice A L c)).run Tryz.prog W = .ok (.string (strOf ms)) W):=kA fun W hb=>by
  rw[hLm]
  exact zg6 (hms.below hb) hA0
 clear hLm hA0
 have HCL:=kA (fun W hb=>zel (w:=w) (a := .int .i64 kind) (b := .string name) (c := .int .i64 (vy:Int)) (d := .int .i64 live) (e := .slice A L c) W hb)
 have HW1:=kA (Below.new1 w (.cells #[.int .i64 kind,.string name,.int .i64 (vy:Int),.int .i64 live,.slice A L c] 222))
 obtain ⟨W1,hW1⟩:∃ W1,W1=w.alloc (.cells #[.int .i64 kind,.string name,.int .i64 (vy:Int),.int .i64 live,.slice A L c] 222):=⟨_,rfl⟩
 have HWE:=kA hW1
 rw[← hW1] at HCL HW1
 have HSZ:Hid (W1.heap.size=w.heap.size+1):=kA (by rw[hW1];simp)
 clear hsz4 hW1
 generalize hM:strOf (mkL vy)=M at HS4 HNS
 have HM:=kA hM
 clear hM hk
 go_enter Tryz.func198,Tryz.ntmps198
 go_wp2_with (first
  |(go_at_call 47;refine (zg8 _).mono ?_;rintro e w0 ⟨rfl,hw0,hb0⟩;rw[← HWE.out] at hw0 hb0;rw[HSZ.out] at hw0;have HW:=kA hw0;have HB:=kA hb0;have HG:=kA (GrowW.refl w0 (w.heap.size+1) (.slice none 0 0));obtain ⟨k0,k1,k2,k3,k4⟩:=HCL.out _ hb0;clear hw0 hb0)
  |(go_at_call 377;refine (zg7 _ (by first|exact hv)).mono ?_;rintro e w2 ⟨rfl,hb2⟩;(first|rw[HM.out]);dsimp only;have HG:=kA (HG.out.then hb2);have HW:=kA (HW.out.below hb2);have HB1:=kA (HG.out.below HB.out (by rw[HSZ.out];exact kJ _));obtain ⟨k0,k1,k2,k3,k4⟩:=HCL.out _ HB1.out;have hcv:=HCV.out _ (HW1.out.trans (HB1.out.mono HW1.out.size));clear hb2)
  |(go_at_call 376;refine (zfo _ HW.out (by first|omega|(rw[HS4.out];decide)|(rw[HS2.out];omega)) (by have:=HNM.out;have:=HS4.out;have:=zch name.size;have:=zch M.size;have:=zaj M;simp;try omega)).mono ?_;rintro e w1 ⟨rfl,A1,L1,c1,hw1,hg1⟩;have HG:=kA (HG.out.trans hg1);have HW:=kA hw1;have HB1:=kA (HG.out.below HB.out (by rw[HSZ.out];exact kJ _));obtain ⟨k0,k1,k2,k3,k4⟩:=HCL.out _ HB1.out;have hcv:=HCV.out _ (HW1.out.trans (HB1.out.mono HW1.out.size));clear hw1 hg1))
 have HLN:=kA (show (bodyL (nums name) vy (textL ms)).length≤15000 from by
  have:=HNM.out;have:=zah (nums name);have:=zah (mkL vy);have:=zah ms;unfold bodyL;simp[mkL] at *;omega)
 have HEQ:Hid ((([]++(cnt name.size++nums name))++(cnt M.size++nums M))++(cnt (strOf ms).size++nums (strOf ms))=bodyL (nums name) vy (textL ms)):=kA (by
  rw[zbr,zbr,zbr,HNS.out,HN2.out];unfold bodyL;simp)
 rw[HEQ.out] at HW
 have HB:=HB1
 go_region_held3 (fun w'=>w'.cell? ⟨w.heap.size,0,none⟩=some (.int .i64 kind)) (simp[*]) (first
  |(go_at_call 50;refine (zej HW.out.drew (by have:=HLN.out;omega)).mono ?_;rintro e w5 ⟨A5,L5,c5,rfl,ho5,hb5⟩;replace hb5:=(Below.refl _ _).drew.trans hb5;have HO5:=kA ho5;have HB5:=kA hb5;obtain ⟨k0,k1,k2,k3,k4⟩:=HCL.out _ (HB.out.trans (hb5.mono HB.out.size));clear ho5 hb5)
  |(go_at_call 49;refine (zg5 HO5.out (by have:=HLN.out;omega) hkk.out.1 hkk.out.2).mono ?_;rintro e w6 ⟨A6,L6,c6,rfl,ho6,hb6⟩;have HO6:=kA ho6;have HB6:=kA hb6;obtain ⟨k0,k1,k2,k3,k4⟩:=HCL.out _ ((HB.out.trans (HB5.out.mono HB.out.size)).trans (hb6.mono (kH HB.out.size HB5.out.size)));clear ho6 hb6))
 go_wp2
 go_ret2
 have h1:=HW1.out.trans ((HB.out.trans ((HB5.out.trans (HB6.out.mono HB5.out.size)).mono HB.out.size)).mono HW1.out.size)
 exact ⟨A6,L6,c6,rfl,zlx HO6.out (kH HW1.out.size (kH HB.out.size HB5.out.size)),h1⟩
theorem znl {w:World}{kind:Int}(name:ByteArray)(vy:Nat)(live:Nat)(hlv:live<2147483648)(mv:Value)(hn:name.size≤1000)(hv:vy<2147483648)(hk:kind=4) :
  Calls Tryz.prog 198 #[.agg #[.int .i64 kind,.string name,.int .i64 (vy:Int),.int .i64 (live:Int),mv]] w fun e w'=>∃ A' L' c',e = .returned (.tuple #[.slice A' L' c',.bool true])∧Own w' w.heap.size (.slice A' L' c') (sealL kind (bodyL (nums name) vy (textL (mkL live))))∧Below w.heap.size w w':=by
 have hkk:Hid (1≤kind∧kind≤255):=kA (by omega)
 have hk1:(kind == 4)=true:=by simp;omega
 have HNM:=kA (zaj name)
 have hsz4:(strOf (mkL vy)).size=4:=zbb _
 have HS4:=kA hsz4
 have HNS:=kA (zci (zs1 hv))
 have hs2:(strOf (mkL live)).size=4:=zbb _
 have HS2:=kA hs2
 have HN2:=kA (zci (zs1 hlv))
 clear hs2
 generalize hM2:strOf (mkL live)=M2 at HS2 HN2
 have HM2:=kA hM2
 clear hM2
 have HCL:=kA (fun W hb=>zel (w:=w) (a := .int .i64 kind) (b := .string name) (c := .int .i64 (vy:Int)) (d := .int .i64 (live:Int)) (e:=mv) W hb)
 have HW1:=kA (Below.new1 w (.cells #[.int .i64 kind,.string name,.int .i64 (vy:Int),.int .i64 (live:Int),mv] 222))
 obtain ⟨W1,hW1⟩:∃ W1,W1=w.alloc (.cells #[.int .i64 kind,.string name,.int .i64 (vy:Int),.int .i64 (live:Int),mv] 222):=⟨_,rfl⟩
 have HWE:=kA hW1
 rw[← hW1] at HCL HW1
 have HSZ:Hid (W1.heap.size=w.heap.size+1):=kA (by rw[hW1];simp)
 clear hsz4 hW1
 generalize hM:strOf (mkL vy)=M at HS4 HNS
 have HM:=kA hM
 clear hM hk
 go_enter Tryz.func198,Tryz.ntmps198
 go_wp2_with (first
  |(go_at_call 47;refine (zg8 _).mono ?_;rintro e w0 ⟨rfl,hw0,hb0⟩;rw[← HWE.out] at hw0 hb0;rw[HSZ.out] at hw0;have HW:=kA hw0;have HB:=kA hb0;have HG:=kA (GrowW.refl w0 (w.heap.size+1) (.slice none 0 0));obtain ⟨k0,k1,k2,k3,k4⟩:=HCL.out _ hb0;clear hw0 hb0)
  |(go_at_call 377;refine (zg7 _ (by first|exact hv|exact hlv)).mono ?_;rintro e w2 ⟨rfl,hb2⟩;(first|rw[HM.out]|rw[HM2.out]);dsimp only;have HG:=kA (HG.out.then hb2);have HW:=kA (HW.out.below hb2);have HB1:=kA (HG.out.below HB.out (by rw[HSZ.out];exact kJ _));obtain ⟨k0,k1,k2,k3,k4⟩:=HCL.out _ HB1.out;clear hb2)
  |(go_at_call 376;refine (zfo _ HW.out (by first|omega|(rw[HS4.out];decide)|(rw[HS2.out];decide)) (by have:=HNM.out;have:=HS4.out;have:=zch name.size;have:=zch M.size;have:=zaj M;simp;try omega)).mono ?_;rintro e w1 ⟨rfl,A1,L1,c1,hw1,hg1⟩;have HG:=kA (HG.out.trans hg1);have HW:=kA hw1;have HB1:=kA (HG.out.below HB.out (by rw[HSZ.out];exact kJ _));obtain ⟨k0,k1,k2,k3,k4⟩:=HCL.out _ HB1.out;clear hw1 hg1))
 have HLN:=kA (show (bodyL (nums name) vy (textL (mkL live))).length≤15000 from by
  have:=HNM.out;have:=zah (nums name);have:=zah (mkL vy);have:=zah (mkL live);unfold bodyL;simp[mkL] at *;omega)
 have HEQ:Hid ((([]++(cnt name.size++nums name))++(cnt M.size++nums M))++(cnt M2.size++nums M2)=bodyL (nums name) vy (textL (mkL live))):=kA (by
  rw[zbr,zbr,zbr,HNS.out,HN2.out];unfold bodyL;simp)
 rw[HEQ.out] at HW
 have HB:=HB1
 go_region_held3 (fun w'=>w'.cell? ⟨w.heap.size,0,none⟩=some (.int .i64 kind)) (simp[*]) (first
  |(go_at_call 50;refine (zej HW.out.drew (by have:=HLN.out;omega)).mono ?_;rintro e w5 ⟨A5,L5,c5,rfl,ho5,hb5⟩;replace hb5:=(Below.refl _ _).drew.trans hb5;have HO5:=kA ho5;have HB5:=kA hb5;obtain ⟨k0,k1,k2,k3,k4⟩:=HCL.out _ (HB.out.trans (hb5.mono HB.out.size));clear ho5 hb5)
  |(go_at_call 49;refine (zg5 HO5.out (by have:=HLN.out;omega) hkk.out.1 hkk.out.2).mono ?_;rintro e w6 ⟨A6,L6,c6,rfl,ho6,hb6⟩;have HO6:=kA ho6;have HB6:=kA hb6;obtain ⟨k0,k1,k2,k3,k4⟩:=HCL.out _ ((HB.out.trans (HB5.out.mono HB.out.size)).trans (hb6.mono (kH HB.out.size HB5.out.size)));clear ho6 hb6))
 go_wp2
 go_ret2
 have h1:=HW1.out.trans ((HB.out.trans ((HB5.out.trans (HB6.out.mono HB5.out.size)).mono HB.out.size)).mono HW1.out.size)
 exact ⟨A6,L6,c6,rfl,zlx HO6.out (kH HW1.out.size (kH HB.out.size HB5.out.size)),h1⟩
end Go.Proofs.YtemgclnkgieldaaGreatDoor.Oc
