/- A book's perform of a Point, of a Drop. -/
import Derived.Test.YtemgclnkgieldaaGreatDoorVc
set_option maxHeartbeats 4000000
set_option maxRecDepth 100000
namespace Go.Proofs.YtemgclnkgieldaaGreatDoor.Oc
open Go Go.RowKit Dk
def pointLy (l:Ly)(vy:Nat):Ly:={ l with live:=vy }
def dropLy (l:Ly)(vy:Nat):Ly:={ l with live:=if (l.V.filter (fun r=>decide (r.v≠vy))).length=0 then 0 else l.live,V:=l.V.filter (fun r=>decide (r.v≠vy)) }
theorem zki {w:World}{g gd bm size:Nat}{D:Option Nat}{L:List Ly}(h:Bk w g gd bm D size L){name:ByteArray}{l:Ly}(hf:fnd L name=some l)(vy:Nat)(lv:Int)(x:Value)(hv:vy≤100000) :
  Calls Tryz.prog 87 #[.pointer (some ⟨g,0,none⟩),.agg (noteV 2 name vy lv x)] w fun e w'=>e = .returned (.tuple #[])∧Bk w' g gd bm D size (updL L name (pointLy l vy))∧Alt w w' (fun k=>k=l.g∨k=l.bv):=by
 have HBK:=kA h
 have HF:=kA hf
 clear h hf
 go_enter Tryz.func87,Tryz.ntmps87
 unfold noteV
 go_upto_region 1 with fail
 have HN:Hid (Blk (w.alloc (.cells #[.int .i64 2,.string name,.int .i64 (vy:Int),.int .i64 lv,x] 222)) w.heap.size 222 (noteV 2 name vy lv x)):=kA (Blk.new w 222 (noteV 2 name vy lv x))
 have HB:Hid (Below w.heap.size w (w.alloc (.cells #[.int .i64 2,.string name,.int .i64 (vy:Int),.int .i64 lv,x] 222))):=kA (Below.new1 w _)
 have HBK1:Hid (Bk (w.alloc (.cells #[.int .i64 2,.string name,.int .i64 (vy:Int),.int .i64 lv,x] 222)) g gd bm D size L):=kA (zal HBK.out HB.out)
 generalize w.alloc (.cells #[.int .i64 2,.string name,.int .i64 (vy:Int),.int .i64 lv,x] 222)=W1 at HN HB HBK1 ⊢
 obtain ⟨⟨n0,n1,n2,n3,n4⟩,nz⟩:=zan HN.out
 obtain ⟨⟨c0,c1,c2⟩,cz⟩:=zat HBK1.out.blk
 have hlk:=zhc (zca HBK1.out) HF.out
 go_region
 have HN2:=kA (show Blk W1.drew _ _ _ from HN.out)
 have HB2:=kA (HB.out.drew)
 have HBK2:=kA (zca HBK1.out)
 clear hlk HN HB HBK1 n0 n1 n2 n3 n4 nz c0 c1 c2 cz
 generalize W1.drew=W2 at HN2 HB2 HBK2 ⊢
 obtain ⟨⟨n0,n1,n2,n3,n4⟩,nz⟩:=zan HN2.out
 have HSH:=kA (HBK2.out.sh l (zax HF.out).1)
 obtain ⟨⟨s0,s1,s2⟩,sz⟩:=zat HSH.out.1
 have hlen2:=zds HBK2.out (zax HF.out).1
 have HNE:Hid (w.heap.size≠l.g):=kA (HN2.out.ne_ HSH.out.1 (by decide))
 have HA2:Hid (Alt w W2 (fun k=>k=l.g∨k=l.bv)):=kA (alt_of_below HB2.out)
 have HNB:Hid (l.bv≠w.heap.size):=kA (HSH.out.2.1.ne_blk HN2.out)
 have HNM:Hid (l.bv≠l.g):=kA (HSH.out.2.1.ne_blk HSH.out.1)
 have fin:Hid (∀ W',Blk W' l.g 240 (shc (pointLy l vy))→MapIs W' KI l.bv (pointLy l vy).vm→Alt W2 W' (fun k=>k=l.g∨k=l.bv) →
   Bk W' g gd bm D size (updL L name (pointLy l vy))∧Alt w W' (fun k=>k=l.g∨k=l.bv)):=kA (fun W' hb hm ha=>by
  obtain ⟨hl,hln⟩:=zax HF.out
  refine ⟨zo7 HBK2.out HF.out _ rfl rfl rfl hb hm ?_ ?_ ha,HA2.out.trans ha (fun _ _ h=>h)⟩
  ·intro r hr
   have far:∀ k,k<W2.heap.size→(k=l.g∨k=l.bv)→Mt g gd bm D L k:=by
    rintro k _ (e|e)
    ·exact .inr (.inr (.inr (.inr (.inl (by rw[e];exact kO.2 ⟨l,hl,rfl⟩)))))
    ·exact .inr (.inr (.inr (.inr (.inr (by rw[e];exact kO.2 ⟨l,hl,rfl⟩)))))
   exact (HSH.out.2.2 r (hr)).alt ha far (fun _ _ h=>h)
  ·have:=HBK2.out.sm.2 l hl
   exact ⟨this.1,by show vy≤_;omega,this.2.2⟩)
 go_wp2
 go_end0
 refine ⟨rfl,fin.out _ ?_ ?_ ?_⟩
 ·exact HSH.out.1.set_ 1 (.int .i64 (vy:Int))
 ·exact HSH.out.2.1.far (a:=⟨l.g,1,none⟩) HNM.out _
 ·exact (Alt.refl W2 _).set_ (a:=⟨l.g,1,none⟩) (.inl rfl) _
theorem zy3 (l:Ly)(vy:Nat):delv l.vm vy=(dropLy l vy).vm:=by
 unfold delv Ly.vm dropLy
 rw[List.filter_map]
 rfl
theorem zl7 {w:World}{g gd bm size:Nat}{D:Option Nat}{L:List Ly}(h:Bk w g gd bm D size L){name:ByteArray}{l:Ly}(hf:fnd L name=some l)(vy:Nat)(lv:Int)(x:Value)(_hv:vy≤100000) :
  Calls Tryz.prog 87 #[.pointer (some ⟨g,0,none⟩),.agg (noteV 3 name vy lv x)] w fun e w'=>e = .returned (.tuple #[])∧Bk w' g gd bm D size (updL L name (dropLy l vy))∧Alt w w' (fun k=>k=l.g∨k=l.bv):=by
 have HBK:=kA h
 have HF:=kA hf
 clear h hf
 go_enter Tryz.func87,Tryz.ntmps87
 unfold noteV
 go_upto_region 1 with fail
 have HN:Hid (Blk (w.alloc (.cells #[.int .i64 3,.string name,.int .i64 (vy:Int),.int .i64 lv,x] 222)) w.heap.size 222 (noteV 3 name vy lv x)):=kA (Blk.new w 222 (noteV 3 name vy lv x))
 have HB:Hid (Below w.heap.size w (w.alloc (.cells #[.int .i64 3,.string name,.int .i64 (vy:Int),.int .i64 lv,x] 222))):=kA (Below.new1 w _)
 have HBK1:Hid (Bk (w.alloc (.cells #[.int .i64 3,.string name,.int .i64 (vy:Int),.int .i64 lv,x] 222)) g gd bm D size L):=kA (zal HBK.out HB.out)
 generalize w.alloc (.cells #[.int .i64 3,.string name,.int .i64 (vy:Int),.int .i64 lv,x] 222)=W1 at HN HB HBK1 ⊢
 obtain ⟨⟨n0,n1,n2,n3,n4⟩,nz⟩:=zan HN.out
 obtain ⟨⟨c0,c1,c2⟩,cz⟩:=zat HBK1.out.blk
 have hlk:=zhc (zca HBK1.out) HF.out
 go_region
 have HN2:=kA (show Blk W1.drew _ _ _ from HN.out)
 have HB2:=kA (HB.out.drew)
 have HBK2:=kA (zca HBK1.out)
 clear hlk HN HB HBK1 n0 n1 n2 n3 n4 nz c0 c1 c2 cz
 generalize W1.drew=W2 at HN2 HB2 HBK2 ⊢
 obtain ⟨⟨n0,n1,n2,n3,n4⟩,nz⟩:=zan HN2.out
 have HSH:=kA (HBK2.out.sh l (zax HF.out).1)
 obtain ⟨⟨s0,s1,s2⟩,sz⟩:=zat HSH.out.1
 have hlen2:=zds HBK2.out (zax HF.out).1
 have HNE:Hid (w.heap.size≠l.g):=kA (HN2.out.ne_ HSH.out.1 (by decide))
 have HA2:Hid (Alt w W2 (fun k=>k=l.g∨k=l.bv)):=kA (alt_of_below HB2.out)
 have HNB:Hid (l.bv≠w.heap.size):=kA (HSH.out.2.1.ne_blk HN2.out)
 have HNM:Hid (l.bv≠l.g):=kA (HSH.out.2.1.ne_blk HSH.out.1)
 have fin:Hid (∀ W',Blk W' l.g 240 (shc (dropLy l vy))→MapIs W' KI l.bv (dropLy l vy).vm→Alt W2 W' (fun k=>k=l.g∨k=l.bv) →
   Bk W' g gd bm D size (updL L name (dropLy l vy))∧Alt w W' (fun k=>k=l.g∨k=l.bv)):=kA (fun W' hb hm ha=>by
  obtain ⟨hl,hln⟩:=zax HF.out
  refine ⟨zo7 HBK2.out HF.out _ rfl rfl rfl hb hm ?_ ?_ ha,HA2.out.trans ha (fun _ _ h=>h)⟩
  ·intro r hr
   have far:∀ k,k<W2.heap.size→(k=l.g∨k=l.bv)→Mt g gd bm D L k:=by
    rintro k _ (e|e)
    ·exact .inr (.inr (.inr (.inr (.inl (by rw[e];exact kO.2 ⟨l,hl,rfl⟩)))))
    ·exact .inr (.inr (.inr (.inr (.inr (by rw[e];exact kO.2 ⟨l,hl,rfl⟩)))))
   exact (HSH.out.2.2 r ((List.mem_filter.1 hr).1)).alt ha far (fun _ _ h=>h)
  ·have:=HBK2.out.sm.2 l hl
   unfold dropLy
   refine ⟨this.1,?_,kH (List.length_filter_le _ _) this.2.2⟩
   show (if _ then _ else _)≤_
   split
   ·omega
   ·exact this.2.1)
 clear hlen2
 go_upto_region 14 with fail
 have HM2':Hid (MapIs W2.drew KI l.bv l.vm):=kA (show MapIs W2.drew KI l.bv l.vm from HSH.out.2.1)
 obtain ⟨W4,hup0,hm4,ha4,hs4⟩:=zvo (P:=Tryz.prog) Tryz.underlying238 Tryz.underlying3 HM2'.out vy 0 3
 have hup:(Builtin.delete_ #[238,3] 0 #[.map (some l.bv),.int .i64 (vy:Int)]).run Tryz.prog W2.drew = .ok (.tuple #[]) W4:=hup0
 rw[zy3 l vy] at hm4
 have HM4:=kA hm4
 have HA4:Hid (Alt W2 W4 (fun k=>k=l.bv)):=kA (((Alt.refl W2 _).drewN 1).trans ha4 (fun _ _ h=>h))
 have HS4:=kA (HSH.out.1.kept HA4.out (fun e=>HNM.out e.symm))
 have hlen4:∀ ty,(Builtin.len_ #[238] ty #[.map (some l.bv)]).run Tryz.prog W4 = .ok (.int .i64 ((dropLy l vy).V.length:Int)) W4:=fun ty=>by
  have:=zha (P:=Tryz.prog) (ty':=ty) Tryz.underlying238 HM4.out
  have e:(dropLy l vy).vm.length=(dropLy l vy).V.length:=kN _
  rw[e] at this
  exact this
 clear hm4 ha4 hs4 hup0
 go_region
 clear hup n0 n1 n2 n3 n4 nz s0 s1 s2 sz
 obtain ⟨⟨s0,s1,s2⟩,sz⟩:=zat HS4.out
 obtain ⟨nv,hnv⟩:∃ n,n=(dropLy l vy).V.length:=⟨_,rfl⟩
 rw[← hnv] at hlen4
 have HNVL:Hid (nv=(l.V.filter (fun r=>decide (r.v≠vy))).length):=kA hnv
 clear hnv
 rcases (show nv=0∨¬ nv=0 by omega) with h0|h0
 ·have HLV:Hid ((dropLy l vy).live=0):=kA (kZ (by rw[← HNVL.out];exact h0))
  rw[h0] at hlen4
  clear h0
  go_wp2
  go_end0
  refine ⟨rfl,fin.out _ ?_ ?_ ?_⟩
  ·have:=HS4.out.set_ 1 (.int .i64 0)
   unfold shc
   rw[HLV.out]
   exact this
  ·exact HM4.out.far (a:=⟨l.g,1,none⟩) HNM.out _
  ·exact (HA4.out.mono (fun _ e => .inr e)).set_ (a:=⟨l.g,1,none⟩) (.inl rfl) _
 ·have HLV:Hid ((dropLy l vy).live=l.live):=kA (kT (by rw[← HNVL.out];exact h0))
  have hne:((nv:Int) == 0)=false:=by simp;omega
  clear h0
  go_wp2
  go_end0
  refine ⟨rfl,fin.out _ ?_ ?_ ?_⟩
  ·have:=HS4.out
   unfold shc
   rw[HLV.out]
   exact this
  ·exact HM4.out
  ·exact HA4.out.mono (fun _ e => .inr e)
theorem ztd {w:World}{g gd bm size:Nat}{D:Option Nat}{L:List Ly}(h:Bk w g gd bm D size L){name:ByteArray}(hf:fnd L name=none) :
  (Instr.lookup 155 (.map (some bm)) (.string name) true).run Tryz.prog w = .ok (.tuple #[.pointer none,.bool false]) w:=by
 have:=ze4 (P:=Tryz.prog) Tryz.underlying155 Tryz.underlying9 (zvr w) h.map name true
 rw[zh3,hf,kZ rfl] at this
 exact this
theorem zo8 {L:List Ly}{name:ByteArray}(hf:fnd L name=none)(v:Value):putv (shm L) name v=shm L++[(name,v)]:=by
 unfold putv
 rw[zh3,hf,kT (by simp)]
def newLy (name:ByteArray)(vy:Nat)(ms:List Int)(x:Value)(g bv:Nat):Ly:=⟨name,vy+1,vy,g,bv,[⟨vy,ms,x⟩]⟩
theorem zh8 {w:World}{g gd bm size:Nat}{D:Option Nat}{L:List Ly}(h:Bk w g gd bm D size L){name:ByteArray}(hf:fnd L name=none)(vy:Nat)(lv:Int)(x:Value){ms:List Int}(hv:vy≤100000)(hx:RowIs w (Mt g gd bm D L) x ms)(hD:∀ k,D=some k→k<w.heap.size)(hgd:gd<w.heap.size) :
  Calls Tryz.prog 87 #[.pointer (some ⟨g,0,none⟩),.agg (noteV 1 name vy lv x)] w fun e w'=>e = .returned (.tuple #[])∧∃ g' bv',Bk w' g gd bm D size (L++[newLy name vy ms x g' bv'])∧Alt w w' (fun k=>k=bm)∧w.heap.size≤g'∧w.heap.size≤bv':=by
 have HBK:=kA h
 have HF:=kA hf
 have HX:=kA hx
 have HD:=kA hD
 have HGD:=kA hgd
 clear h hf hx hD hgd
 go_enter Tryz.func87,Tryz.ntmps87
 unfold noteV
 go_upto_region 1 with fail
 have HN:Hid (Blk (w.alloc (.cells #[.int .i64 1,.string name,.int .i64 (vy:Int),.int .i64 lv,x] 222)) w.heap.size 222 (noteV 1 name vy lv x)):=kA (Blk.new w 222 (noteV 1 name vy lv x))
 have HB:Hid (Below w.heap.size w (w.alloc (.cells #[.int .i64 1,.string name,.int .i64 (vy:Int),.int .i64 lv,x] 222))):=kA (Below.new1 w _)
 have HBK1:Hid (Bk (w.alloc (.cells #[.int .i64 1,.string name,.int .i64 (vy:Int),.int .i64 lv,x] 222)) g gd bm D size L):=kA (zal HBK.out HB.out)
 generalize w.alloc (.cells #[.int .i64 1,.string name,.int .i64 (vy:Int),.int .i64 lv,x] 222)=W1 at HN HB HBK1 ⊢
 obtain ⟨⟨n0,n1,n2,n3,n4⟩,nz⟩:=zan HN.out
 obtain ⟨⟨c0,c1,c2⟩,cz⟩:=zat HBK1.out.blk
 have hlk:=ztd (zca HBK1.out) HF.out
 go_region
 have HN2:=kA (show Blk W1.drew _ _ _ from HN.out)
 have HB2:=kA (HB.out.drew)
 have HBK2:=kA (zca HBK1.out)
 clear hlk HN HB HBK1 n0 n1 n2 n3 n4 nz c0 c1 c2 cz
 generalize W1.drew=W2 at HN2 HB2 HBK2 ⊢
 obtain ⟨⟨n0,n1,n2,n3,n4⟩,nz⟩:=zan HN2.out
 have hmk:∀ t W,(Instr.makeMap t none).run Tryz.prog W = .ok (.map (some W.heap.size)) (W.alloc (.map #[] 0)):=fun _ _=>rfl
 go_upto_region 4 with fail
 clear hmk
 have HM3:Hid (MapIs ((W2.alloc (.map #[] 0)).alloc (.cells #[.int .i64 1,.int .i64 0,.map (some W2.heap.size)] 240)) KI W2.heap.size []):=kA ((MapIs.new W2 KI).keep (Below.heap_alloc _ _ _ (by simp)))
 have HS3:Hid (Blk ((W2.alloc (.map #[] 0)).alloc (.cells #[.int .i64 1,.int .i64 0,.map (some W2.heap.size)] 240)) (W2.heap.size+1) 240 #[.int .i64 1,.int .i64 0,.map (some W2.heap.size)]):=kA (by
  have:=Blk.new (W2.alloc (.map #[] 0)) 240 #[.int .i64 1,.int .i64 0,.map (some W2.heap.size)]
  rwa[World.size_alloc] at this)
 have HB3:Hid (Below W2.heap.size W2 ((W2.alloc (.map #[] 0)).alloc (.cells #[.int .i64 1,.int .i64 0,.map (some W2.heap.size)] 240))):=kA ((Below.new1 W2 _).alloc (by simp) _)
 have HZ3:Hid (((W2.alloc (.map #[] 0)).alloc (.cells #[.int .i64 1,.int .i64 0,.map (some W2.heap.size)] 240)).heap.size=W2.heap.size+2):=kA (by simp)
 clear n0 n1 n2 n3 n4 nz
 generalize (W2.alloc (.map #[] 0)).alloc (.cells #[.int .i64 1,.int .i64 0,.map (some W2.heap.size)] 240)=W3 at HM3 HS3 HB3 HZ3 ⊢
 have HN3:=kA (zab HN2.out HB3.out)
 have HBK3:=kA (zal HBK2.out HB3.out)
 obtain ⟨B,hB⟩:∃ B,B=W2.heap.size:=⟨_,rfl⟩
 have HBZ:Hid (w.heap.size≤B∧w.heap.size<B):=kA ⟨by rw[hB];exact HB2.out.size,by rw[hB];exact HN2.out.lt⟩
 have HBG:Hid (∀ l∈L,l.g<B∧l.bv<B):=kA fun l hl=>by
  obtain ⟨h1,h2,_⟩:=HBK2.out.sh l hl
  rw[hB]
  exact ⟨h1.lt,h2.lt⟩
 have HBB:Hid (g<B∧bm<B):=kA ⟨by rw[hB];exact HBK2.out.blk.lt,by rw[hB];exact HBK2.out.map.lt⟩
 rw[← hB] at HM3 HS3 HZ3 HB3 ⊢
 have hBne:¬ (B+1=w.heap.size):=by have:=HBZ.out.2;omega
 clear hB
 obtain ⟨⟨n0,n1,n2,n3,n4⟩,nz⟩:=zan HN3.out
 obtain ⟨⟨c0,c1,c2⟩,cz⟩:=zat HBK3.out.blk
 have HMM:Hid (MapIs W3.drew KS bm (shm L)):=kA (show MapIs W3.drew KS bm (shm L) from HBK3.out.map)
 obtain ⟨W4,hup0,hm4,ha4,hs4⟩:=zb9 (P:=Tryz.prog) Tryz.underlying155 Tryz.underlying9 HMM.out name (.pointer (some ⟨B+1,0,none⟩))
 have hup:(Instr.mapUpdate 155 (.map (some bm)) (.string name) (.pointer (some ⟨B+1,0,none⟩))).run Tryz.prog W3.drew = .ok () W4:=hup0
 rw[zo8 HF.out] at hm4
 have HM4:=kA hm4
 have HA4:Hid (Alt W3 W4 (fun k=>k=bm)):=kA (((Alt.refl W3 _).drewN 1).trans ha4 (fun _ _ h=>h))
 clear hm4 ha4 hs4 hup0
 go_region
 clear hup n0 n1 n2 n3 n4 nz c0 c1 c2 cz
 have HN4:=kA (HN3.out.kept HA4.out (fun e=>(HBK3.out.map.ne_blk HN3.out) e.symm))
 have HS4:=kA (HS3.out.kept HA4.out (fun e=>by have:=HBB.out;omega))
 have HV4:=kA (HM3.out.alt HA4.out (fun e=>by have:=HBB.out;omega))
 obtain ⟨⟨n0,n1,n2,n3,n4⟩,nz⟩:=zan HN4.out
 obtain ⟨⟨s0,s1,s2⟩,sz⟩:=zat HS4.out
 have hlen4:∀ ty,(Builtin.len_ #[238] ty #[.map (some B)]).run Tryz.prog W4 = .ok (.int .i64 0) W4:=fun ty=>zha (P:=Tryz.prog) (ty':=ty) Tryz.underlying238 HV4.out
 go_upto_region 9 with fail
 have HS5:=kA (show Blk (W4.setCell ⟨B+1,1,none⟩ (.int .i64 (vy:Int))) (B+1) 240 #[.int .i64 1,.int .i64 (vy:Int),.map (some B)] from HS4.out.set_ 1 _)
 have HV5:=kA (HV4.out.far (a:=⟨B+1,1,none⟩) (by show B≠B+1;omega) (.int .i64 (vy:Int)))
 have HM5:=kA (HM4.out.far (a:=⟨B+1,1,none⟩) (by show bm≠B+1;have:=HBB.out;omega) (.int .i64 (vy:Int)))
 have HN5:=kA (HN4.out.far (p:=⟨B+1,1,none⟩) (by show w.heap.size≠B+1;omega) (.int .i64 (vy:Int)))
 have HA5:=kA (HA4.out.mono (q:=fun k=>k=bm∨k=B+1∨k=B) (fun _ e => .inl e) |>.set_ (a:=⟨B+1,1,none⟩) (.inr (.inl rfl)) (.int .i64 (vy:Int)))
 clear n0 n1 n2 n3 n4 nz s0 s1 s2 sz hlen4
 generalize W4.setCell ⟨B+1,1,none⟩ (.int .i64 (vy:Int))=W5 at HS5 HV5 HM5 HN5 HA5 ⊢
 obtain ⟨⟨n0,n1,n2,n3,n4⟩,nz⟩:=zan HN5.out
 obtain ⟨⟨s0,s1,s2⟩,sz⟩:=zat HS5.out
 have HV5':Hid (MapIs W5.drew KI B []):=kA (show MapIs W5.drew KI B [] from HV5.out)
 obtain ⟨W6,hup0,hm6,ha6,hs6⟩:=zb9 (P:=Tryz.prog) Tryz.underlying238 Tryz.underlying3 HV5'.out vy x
 have hup:(Instr.mapUpdate 238 (.map (some B)) (.int .i64 (vy:Int)) x).run Tryz.prog W5.drew = .ok () W6:=hup0
 have HV6:Hid (MapIs W6 KI B [(vy,x)]):=kA hm6
 have HA6:Hid (Alt W5 W6 (fun k=>k=B)):=kA (((Alt.refl W5 _).drewN 1).trans ha6 (fun _ _ h=>h))
 clear hm6 ha6 hs6 hup0
 go_region
 clear hup n0 n1 n2 n3 n4 nz s0 s1 s2 sz
 have HN6:=kA (HN5.out.kept HA6.out (fun e=>by have:=HBZ.out.2;omega))
 have HS6:=kA (HS5.out.kept HA6.out (fun e=>by omega))
 have HM6:=kA (HM5.out.alt HA6.out (fun e=>by have:=HBB.out;omega))
 obtain ⟨⟨n0,n1,n2,n3,n4⟩,nz⟩:=zan HN6.out
 obtain ⟨⟨s0,s1,s2⟩,sz⟩:=zat HS6.out
 go_wp2
 go_end0
 have HBK0:=HBK2.out
 have HA7:Hid (Alt W3 (W6.setCell ⟨B+1,0,none⟩ (.int .i64 ((vy:Int)+1))) (fun k=>k=bm∨k=B+1∨k=B)):=kA ((HA5.out.trans HA6.out (fun _ _ e => .inr (.inr e))).set_ (a:=⟨B+1,0,none⟩) (.inr (.inl rfl)) _)
 have HAW:Hid (Alt w (W6.setCell ⟨B+1,0,none⟩ (.int .i64 ((vy:Int)+1))) (fun k=>k=bm)):=kA ⟨HA7.out.os.trans (HB3.out.os.trans HB2.out.os),HA7.out.tape.trans (HB3.out.tape.trans HB2.out.tape),HA7.out.output.trans (HB3.out.output.trans HB2.out.output),by have:=HA7.out.size;have:=HB3.out.size;have:=HB2.out.size;omega,fun k hk hp=>by
  have h1:=HB2.out.size
  have h2:=HB3.out.size
  have h3:=HBZ.out
  rw[HA7.out.block k (by omega) (by rintro (e|e|e) <;> first|exact hp e|omega),HB3.out.block k (by omega),HB2.out.block k hk]⟩
 refine ⟨rfl,B+1,B,zxd HBK.out HF.out _ rfl (by show _≤B+1;have:=HBZ.out;omega) (by show _≤B;have:=HBZ.out;omega) HD.out HGD.out ?_ ?_ ?_ ?_ ?_ HAW.out,HAW.out,by have:=HBZ.out;omega,by have:=HBZ.out;omega⟩
 ·exact HS6.out.set_ 0 (.int .i64 ((vy:Int)+1))
 ·exact HV6.out.far (a:=⟨B+1,0,none⟩) (by show B≠B+1;omega) _
 ·exact HM6.out.far (a:=⟨B+1,0,none⟩) (by show bm≠B+1;have:=HBB.out;omega) _
 ·intro r hr
  have hr':r=⟨vy,ms,x⟩:=kP.1 hr
  subst hr'
  refine HX.out.alt HAW.out (fun k _ e => .inr (.inr (.inr (.inl e)))) ?_
  rintro k hk (e|e|e|e|e|e)
  ·exact .inl e
  ·exact .inr (.inl e)
  ·exact .inr (.inr (.inl e))
  ·exact .inr (.inr (.inr (.inl e)))
  ·rw[kL,kU] at e
   rcases e with e|e
   ·exact .inr (.inr (.inr (.inr (.inl e))))
   ·have e':k=B+1:=kP.1 e
    have:=HBZ.out
    omega
  ·rw[kL,kU] at e
   rcases e with e|e
   ·exact .inr (.inr (.inr (.inr (.inr e))))
   ·have e':k=B:=kP.1 e
    have:=HBZ.out
    omega
 ·exact ⟨by show vy+1≤_;omega,by show vy≤_;omega,by show 1≤_;omega⟩
inductive Pf (L:List Ly):Int→ByteArray→Nat→List Int→Value→List Ly→Prop where
 |old {name:ByteArray} {l:Ly} {vy:Nat} {ms:List Int} {x:Value} (hf:fnd L name=some l) (hn:fndV l vy=none):Pf L 1 name vy ms x (updL L name (putLy l vy ms x))
 |new {name:ByteArray} {vy:Nat} {ms:List Int} {x:Value} (g bv:Nat) (hf:fnd L name=none):Pf L 1 name vy ms x (L++[newLy name vy ms x g bv])
 |point {name:ByteArray} {l:Ly} {vy:Nat} {ms:List Int} {x:Value} (hf:fnd L name=some l):Pf L 2 name vy ms x (updL L name (pointLy l vy))
 |drop {name:ByteArray} {l:Ly} {vy:Nat} {ms:List Int} {x:Value} (hf:fnd L name=some l):Pf L 3 name vy ms x (updL L name (dropLy l vy))
def May (L:List Ly)(kind:Int)(name:ByteArray)(vy:Nat):Prop :=
 (kind=1∧vy=nextOf L name∧fullOf L name=false∧∀ l,fnd L name=some l→fndV l vy=none)∨((kind=2∨kind=3)∧refOf L kind name vy=0)
def Mb (bm:Nat)(L:List Ly)(k:Nat):Prop:=k=bm∨k∈L.map (·.g)∨k∈L.map (·.bv)
theorem Mb.mt {bm:Nat}{L:List Ly}{k:Nat}(h:Mb bm L k)(g gd:Nat)(D:Option Nat):Mt g gd bm D L k:=by
 rcases h with h|h|h
 ·exact .inr (.inr (.inr (.inl h)))
 ·exact .inr (.inr (.inr (.inr (.inl h))))
 ·exact .inr (.inr (.inr (.inr (.inr h))))
theorem zo9 {bm:Nat}{L:List Ly}{l:Ly}(hl:l∈L)(k:Nat)(e:k=l.g∨k=l.bv):Mb bm L k:=by
 rcases e with e|e
 ·exact .inr (.inl (by rw[e];exact kO.2 ⟨l,hl,rfl⟩))
 ·exact .inr (.inr (by rw[e];exact kO.2 ⟨l,hl,rfl⟩))
theorem zpa {L:List Ly}{kind:Int}{name:ByteArray}{vy:Nat}(h:refOf L kind name vy=0):∃ l,fnd L name=some l∧(fndV l vy).isSome=true:=by
 unfold refOf at h
 cases hf:fnd L name with
 |none=>rw[hf] at h;cases h
 |some l =>
  rw[hf] at h
  simp only at h
  split at h
  ·cases h
  ·split at h
   ·cases h
   ·next h2=>exact ⟨l,rfl,by cases hs:(fndV l vy).isSome <;> simp_all⟩
def Nw (B:Nat)(L L':List Ly):Prop:=∀ l∈L',(∃ l0∈L,l0.g=l.g∧l0.bv=l.bv)∨(B≤l.g∧B≤l.bv)
theorem Nw.mono {B B':Nat}{L L':List Ly}(h:Nw B L L')(hb:B'≤B):Nw B' L L':=fun l hl=>(h l hl).imp id (fun h=>⟨kH hb h.1,kH hb h.2⟩)
theorem Nw.mt {B g gd bm:Nat}{D:Option Nat}{L L':List Ly}(h:Nw B L L'){k:Nat}(hk:Mt g gd bm D L' k):Mt g gd bm D L k∨B≤k:=by
 rcases hk with e|e|e|e|e|e
 ·exact .inl (.inl e)
 ·exact .inl (.inr (.inl e))
 ·exact .inl (.inr (.inr (.inl e)))
 ·exact .inl (.inr (.inr (.inr (.inl e))))
 ·obtain ⟨l,hl,rfl⟩:=kO.1 e
  rcases h l hl with ⟨l0,h0,e1,_⟩|⟨h1,_⟩
  ·exact .inl (.inr (.inr (.inr (.inr (.inl (by rw[← e1];exact kO.2 ⟨l0,h0,rfl⟩))))))
  ·exact .inr h1
 ·obtain ⟨l,hl,rfl⟩:=kO.1 e
  rcases h l hl with ⟨l0,h0,_,e1⟩|⟨_,h1⟩
  ·exact .inl (.inr (.inr (.inr (.inr (.inr (by rw[← e1];exact kO.2 ⟨l0,h0,rfl⟩))))))
  ·exact .inr h1
theorem ze6 {w:World}{g gd bm size:Nat}{D:Option Nat}{L:List Ly}(h:Bk w g gd bm D size L){kind:Int}{name:ByteArray}{vy:Nat}(hm:May L kind name vy)(lv:Int)(x:Value){ms:List Int}(hv:vy≤100000)(hx:kind=1→RowIs w (Mt g gd bm D L) x ms)(hlen:∀ l∈L,l.V.length≤100000)
  (hD:∀ k,D=some k→k<w.heap.size) (hgd:gd<w.heap.size) :
  Calls Tryz.prog 87 #[.pointer (some ⟨g,0,none⟩),.agg (noteV kind name vy lv x)] w fun e w'=>e = .returned (.tuple #[])∧∃ L',Pf L kind name vy ms x L'∧Bk w' g gd bm D size L'∧Alt w w' (Mb bm L)∧Nw w.heap.size L L':=by
 have upd:∀ {l l':Ly},fnd L name=some l→l'.g=l.g→l'.bv=l.bv→Nw w.heap.size L (updL L name l'):=fun {l l'} hf e2 e3 x hx=>by
  rcases zkg hx with e|⟨hx1,_⟩
  ·exact .inl ⟨l,(zax hf).1,by rw[e,e2],by rw[e,e3]⟩
  ·exact .inl ⟨x,hx1,rfl,rfl⟩
 rcases hm with ⟨rfl,hver,_,hnone⟩|⟨rfl|rfl,href⟩
 ·rcases hf:fnd L name with _|l
  ·refine (zh8 h hf vy lv x hv (hx rfl) hD hgd).mono ?_
   rintro e w' ⟨rfl,g',bv',hb,ha,hg1,hg2⟩
   refine ⟨rfl,_,.new g' bv' hf,hb,ha.mono (fun _ e => .inl e),fun x hx=>?_⟩
   rcases kU.1 hx with hx|hx
   ·exact .inl ⟨x,hx,rfl,rfl⟩
   ·rw[kP] at hx
    subst hx
    exact .inr ⟨hg1,hg2⟩
  ·refine (zh7 h hf vy lv x hv (hnone l hf) (hx rfl) (hlen l (zax hf).1)).mono ?_
   rintro e w' ⟨rfl,hb,ha⟩
   exact ⟨rfl,_,.old hf (hnone l hf),hb,ha.mono (zo9 (zax hf).1),upd hf rfl rfl⟩
 ·obtain ⟨l,hf,_⟩:=zpa href
  refine (zki h hf vy lv x hv).mono ?_
  rintro e w' ⟨rfl,hb,ha⟩
  exact ⟨rfl,_,.point hf,hb,ha.mono (zo9 (zax hf).1),upd hf rfl rfl⟩
 ·obtain ⟨l,hf,_⟩:=zpa href
  refine (zl7 h hf vy lv x hv).mono ?_
  rintro e w' ⟨rfl,hb,ha⟩
  exact ⟨rfl,_,.drop hf,hb,ha.mono (zo9 (zax hf).1),upd hf rfl rfl⟩
theorem zqs {w:World}{g gd bm size:Nat}{D:Option Nat}{L:List Ly}(h:Bk w g gd bm D size L){name:ByteArray}{vy:Nat}(hm:May L 1 name vy)(lv:Int)(x:Value){ms:List Int}(hv:vy≤100000)(hx:RowIs w (Mt g gd bm D L) x ms)(hlen:∀ l∈L,l.V.length≤100000)(hLn:L.length≤100000)
  (hD:∀ k,D=some k→k<w.heap.size) (hgd:gd<w.heap.size) (_h1:x.oneCell'=true) :
  Calls Tryz.prog 75 #[.pointer (some ⟨g,0,none⟩),.agg (noteV 1 name vy lv x)] w fun e w'=>e = .returned (.bool true)∧∃ L',Pf L 1 name vy ms x L'∧Bk w' g gd bm D size L'∧Alt w w' (Mb bm L)∧Nw w.heap.size L L':=by
 have hvn:nextOf L name=vy:=by
  rcases hm with ⟨_,h,_⟩|⟨h|h,_⟩
  ·exact h.symm
  ·cases h
  ·cases h
 have hfl:fullOf L name=false:=by
  rcases hm with ⟨_,_,h,_⟩|⟨h|h,_⟩
  ·exact h
  ·cases h
  ·cases h
 have HBK:=kA h
 have HX:=kA hx
 have HM:=kA hm
 have HVN:=kA hvn
 have HFL:=kA hfl
 have HLEN:=kA hlen
 have HD:=kA hD
 clear h hx hm hvn hfl hlen hD
 go_enter Tryz.func75,Tryz.ntmps75
 unfold noteV
 go_upto_region 1 with fail
 have HN:Hid (Blk (w.alloc (.cells #[.int .i64 1,.string name,.int .i64 (vy:Int),.int .i64 lv,x] 222)) w.heap.size 222 (noteV 1 name vy lv x)):=kA (Blk.new w 222 (noteV 1 name vy lv x))
 have HB:Hid (Below w.heap.size w (w.alloc (.cells #[.int .i64 1,.string name,.int .i64 (vy:Int),.int .i64 lv,x] 222))):=kA (Below.new1 w _)
 generalize w.alloc (.cells #[.int .i64 1,.string name,.int .i64 (vy:Int),.int .i64 lv,x] 222)=W1 at HN HB ⊢
 have HCL:Hid (∀ W,Below w.heap.size w W→Below W1.heap.size W1 W→(W.cell? ⟨w.heap.size,0,none⟩=some (.int .i64 1)∧W.cell? ⟨w.heap.size,1,none⟩=some (.string name)∧W.cell? ⟨w.heap.size,2,none⟩=some (.int .i64 (vy:Int)))):=kA fun W _ hb2=>by
  have:=(zan (zab HN.out hb2)).1
  exact ⟨this.1,this.2.1,this.2.2.1⟩
 obtain ⟨⟨n0,n1,n2,n3,n4⟩,nz⟩:=zan HN.out
 have HBK1:=kA (zal HBK.out HB.out)
 go_upto_region 2 with fail
 have HB2:=kA (Below.refl W1.heap.size W1)
 go_region_held3 (fun w'=>w'.cell? ⟨w.heap.size,0,none⟩=some (.int .i64 1)∧w'.cell? ⟨w.heap.size,1,none⟩=some (.string name)∧w'.cell? ⟨w.heap.size,2,none⟩=some (.int .i64 (vy:Int))) (simp[*]) (first
  |(go_at_call 84;refine (zl5 (zca (zal HBK1.out HB2.out)) name).mono ?_;rintro e w5 ⟨rfl,hb5⟩;rw[HVN.out];replace hb5:=(Below.refl _ _).drew.trans hb5;have HB3:=kA (HB2.out.trans (hb5.mono HB2.out.size));obtain ⟨k0,k1,k2⟩:=HCL.out _ (HB.out.trans (HB3.out.mono HB.out.size)) HB3.out;clear hb5)
  |(go_at_call 83;refine (zo5 (zal HBK1.out HB3.out) hLn name).mono ?_;rintro e w6 ⟨rfl,hb6⟩;rw[HFL.out];have HB4:=kA (HB3.out.trans (hb6.mono HB3.out.size));obtain ⟨k0,k1,k2⟩:=HCL.out _ (HB.out.trans (HB4.out.mono HB.out.size)) HB4.out;clear hb6))
 clear n0 n1 n2 n3 n4 nz
 have HN6:=kA (zab HN.out HB4.out)
 have HB6:=kA (HB.out.trans (HB4.out.mono HB.out.size))
 obtain ⟨⟨n0,n1,n2,n3,n4⟩,nz⟩:=zan HN6.out
 have HP:=kA (ze6 (zal HBK.out HB6.out) HM.out lv x hv (fun _=>HX.out.alt (alt_of_below (p:=fun _=>False) HB6.out) (fun _ _ h=>h.elim) (fun _ _ h=>h)) HLEN.out (fun k hk=>qE (HD.out k hk) HB6.out.size) (qE hgd HB6.out.size))
 go_wp2_with (go_at_call 87;refine HP.out.mono ?_;rintro e w7 ⟨rfl,L',hpf,hbk,ha,hmt⟩;have HQ:=kA (show ∃ L',Pf L 1 name vy ms x L'∧Bk w7 g gd bm D size L'∧Alt w w7 (Mb bm L)∧Nw w.heap.size L L' from ⟨L',hpf,hbk,(alt_of_below HB6.out).trans ha (fun _ _ h=>h),hmt.mono HB6.out.size⟩);clear hpf hbk ha hmt)
 go_ret
 exact ⟨rfl,HQ.out⟩
theorem zkj {w:World}{g gd bm size:Nat}{D:Option Nat}{L:List Ly}(h:Bk w g gd bm D size L){kind:Int}{name:ByteArray}{vy:Nat}(hk:kind=2∨kind=3)(hm:refOf L kind name vy=0)(lv:Int)(x:Value){ms:List Int}(hv:vy≤100000)(hlen:∀ l∈L,l.V.length≤100000)
  (hD:∀ k,D=some k→k<w.heap.size) (hgd:gd<w.heap.size) (h1:x.oneCell'=true) :
  Calls Tryz.prog 75 #[.pointer (some ⟨g,0,none⟩),.agg (noteV kind name vy lv x)] w fun e w'=>e = .returned (.bool true)∧∃ L',Pf L kind name vy ms x L'∧Bk w' g gd bm D size L'∧Alt w w' (Mb bm L)∧Nw w.heap.size L L':=by
 have HBK:=kA h
 have HM:Hid (May L kind name vy):=kA (.inr ⟨hk,hm⟩)
 have HREF:=kA hm
 have HLEN:=kA hlen
 have HD:=kA hD
 have HK:=kA hk
 have HK1:Hid (kind=1→RowIs w (Mt g gd bm D L) x ms):=kA fun e=>by rw[e] at hk;rcases hk with e|e <;> cases e
 have hk1:(kind == 1)=false:=by rcases hk with rfl|rfl <;> rfl
 clear h hm hlen hD hk
 go_enter Tryz.func75,Tryz.ntmps75
 unfold noteV
 go_upto_region 1 with fail
 have HN:Hid (Blk (w.alloc (.cells #[.int .i64 kind,.string name,.int .i64 (vy:Int),.int .i64 lv,x] 222)) w.heap.size 222 (noteV kind name vy lv x)):=kA (Blk.new w 222 (noteV kind name vy lv x))
 have HB:Hid (Below w.heap.size w (w.alloc (.cells #[.int .i64 kind,.string name,.int .i64 (vy:Int),.int .i64 lv,x] 222))):=kA (Below.new1 w _)
 generalize w.alloc (.cells #[.int .i64 kind,.string name,.int .i64 (vy:Int),.int .i64 lv,x] 222)=W1 at HN HB ⊢
 obtain ⟨⟨n0,n1,n2,n3,n4⟩,nz⟩:=zan HN.out
 have HBK1:=kA (zal HBK.out HB.out)
 go_upto_region 6 with (go_at_call 179;refine (ze5 HBK1.out kind name vy lv x HK.out (by omega) h1).mono ?_;rintro e w5 ⟨rfl,hb5⟩;rw[HREF.out];have HB5:=kA hb5;clear hb5)
 clear n0 n1 n2 n3 n4 nz
 have HN6:=kA (zab HN.out HB5.out)
 have HB6:=kA (HB.out.trans (HB5.out.mono HB.out.size))
 obtain ⟨⟨n0,n1,n2,n3,n4⟩,nz⟩:=zan HN6.out
 have HP:=kA (ze6 (zal HBK.out HB6.out) HM.out lv x hv (fun e=>(HK1.out e).alt (alt_of_below (p:=fun _=>False) HB6.out) (fun _ _ h=>h.elim) (fun _ _ h=>h)) HLEN.out (fun k hk=>qE (HD.out k hk) HB6.out.size) (qE hgd HB6.out.size))
 go_wp2_with (go_at_call 87;refine HP.out.mono ?_;rintro e w7 ⟨rfl,L',hpf,hbk,ha,hmt⟩;have HQ:=kA (show ∃ L',Pf L kind name vy ms x L'∧Bk w7 g gd bm D size L'∧Alt w w7 (Mb bm L)∧Nw w.heap.size L L' from ⟨L',hpf,hbk,(alt_of_below HB6.out).trans ha (fun _ _ h=>h),hmt.mono HB6.out.size⟩);clear hpf hbk ha hmt)
 go_ret
 exact ⟨rfl,HQ.out⟩
abbrev Con:=List Sh
structure Nt where
 kind:Int
 name:ByteArray
 vy:Nat
 ms:List Int
def fndC (C:Con)(name:ByteArray):Option Sh:=C.find? (fun s=>decide (s.name=name))
def hasV (s:Sh)(v:Nat):Bool:=s.vs.any (fun p=>decide (p.1=v))
def nextC (C:Con)(name:ByteArray):Nat:=match fndC C name with
 |some s=>s.next
 |none=>1
def numC (C:Con)(name:ByteArray):Nat:=match fndC C name with
 |some s=>s.vs.length
 |none=>0
def othC (name:ByteArray)(s:Sh):Bool:=(!(s.name.toList == name.toList)) && decide (0<s.vs.length)
def fullC (C:Con)(name:ByteArray):Bool:=decide (20≤(C.filter (othC name)).length) || decide (40≤numC C name)
def refC (C:Con)(kind:Int)(name:ByteArray)(vy:Nat):Int:=match fndC C name with
 |none=>11
 |some s=>if s.vs.length=0 then 11 else if hasV s vy=false then 16 else if kind=3∧vy=s.live∧1<s.vs.length then 17 else 0
def updC (C:Con)(name:ByteArray)(s':Sh):Con:=C.map fun s=>if s.name=name then s' else s
def putS (s:Sh)(v:Nat)(ms:List Int):Sh:={ s with next:=v+1,live:=if s.vs.length=0 then v else s.live,vs:=s.vs++[(v,ms)] }
def dropS (s:Sh)(v:Nat):Sh:={ s with live:=if (s.vs.filter (fun p=>decide (p.1≠v))).length=0 then 0 else s.live,vs:=s.vs.filter (fun p=>decide (p.1≠v)) }
def pfC (C:Con)(n:Nt):Con :=
 if n.kind=1 then (match fndC C n.name with
  |none=>C++[⟨n.name,n.vy+1,n.vy,[(n.vy,n.ms)]⟩]
  |some s=>updC C n.name (putS s n.vy n.ms))
 else match fndC C n.name with
  |none=>C
  |some s=>if n.kind=2 then updC C n.name { s with live:=n.vy } else updC C n.name (dropS s n.vy)
def mayC (C:Con)(n:Nt):Prop :=
 (n.kind=1∧n.vy=nextC C n.name∧fullC C n.name=false)∨((n.kind=2∨n.kind=3)∧refC C n.kind n.name n.vy=0)
structure WF (C:Con):Prop where
 len:C.length≤1000
 sh:∀ s∈C,s.vs.length≤1000∧s.next≤100000∧s.live≤100000∧(∀ p∈s.vs,p.1<s.next)∧(s.vs.length=0→s.live=0)∧(0<s.vs.length→hasV s s.live=true∧s.vs.length≤40)
 num:(C.filter (fun s=>decide (0<s.vs.length))).length≤20
theorem zcp (L:List Ly)(name:ByteArray):fndC (L.map Ly.s) name=(fnd L name).map Ly.s:=by
 unfold fndC fnd
 rw[List.find?_map]
 rfl
theorem zte (l:Ly)(v:Nat):hasV l.s v=(fndV l v).isSome:=by
 unfold hasV fndV Ly.s
 rw[List.any_map,List.isSome_find?]
 rfl
theorem zgw (l:Ly):l.s.vs.length=l.V.length:=kN _
theorem zkk (L:List Ly)(name:ByteArray):nextC (L.map Ly.s) name=nextOf L name:=by
 unfold nextC nextOf
 rw[zcp]
 cases fnd L name <;> rfl
theorem znr (L:List Ly)(name:ByteArray):numC (L.map Ly.s) name=numOf L name:=by
 unfold numC numOf
 rw[zcp]
 cases fnd L name with
 |none=>rfl
 |some l=>exact zgw l
theorem zpb (L:List Ly)(name:ByteArray):fullC (L.map Ly.s) name=fullOf L name:=by
 unfold fullC fullOf
 rw[znr]
 have:((L.map Ly.s).filter (othC name)).length=cntO (oth name) L:=by
  unfold cntO
  rw[List.filter_map,kN]
  congr 2
  funext l
  show othC name l.s=oth name l
  unfold othC oth
  rw[zgw]
  rfl
 rw[this]
theorem zkl (L:List Ly)(kind:Int)(name:ByteArray)(vy:Nat):refC (L.map Ly.s) kind name vy=refOf L kind name vy:=by
 unfold refC refOf
 rw[zcp]
 cases fnd L name with
 |none=>rfl
 |some l =>
  show (if l.s.vs.length=0 then (11:Int) else if hasV l.s vy=false then 16 else if kind=3∧vy=l.s.live∧1<l.s.vs.length then 17 else 0)=_
  rw[zgw,zte]
  rfl
theorem zkm (L:List Ly)(name:ByteArray)(l':Ly):(updL L name l').map Ly.s=updC (L.map Ly.s) name l'.s:=by
 unfold updL updC
 rw[qK,qK]
 refine List.map_congr_left fun l _=>?_
 show (if l.name=name then l' else l).s=if l.s.name=name then l'.s else l.s
 have:l.s.name=l.name:=rfl
 rw[this]
 split <;> rfl
theorem zy4 (l:Ly)(v:Nat)(ms:List Int)(x:Value):(putLy l v ms x).s=putS l.s v ms:=by
 unfold putLy putS Ly.s
 simp
theorem zvs (l:Ly)(v:Nat):(dropLy l v).s=dropS l.s v:=by
 unfold dropLy dropS Ly.s
 have:List.filter (fun p=>decide (p.1≠v)) (List.map (fun r:Vr=>(r.v,r.ms)) l.V)=(l.V.filter (fun r=>decide (r.v≠v))).map (fun r=>(r.v,r.ms)):=by
  rw[List.filter_map];rfl
 simp only[this,kN]
theorem ztf {L L':List Ly}{kind:Int}{name:ByteArray}{vy:Nat}{ms:List Int}{x:Value}(h:Pf L kind name vy ms x L'):L'.map Ly.s=pfC (L.map Ly.s) ⟨kind,name,vy,ms⟩:=by
 unfold pfC
 cases h with
 |old hf hn =>
  rw[kZ rfl,zcp,hf,zkm,zy4];rfl
 |new g bv hf =>
  rw[kZ rfl,zcp,hf,kL];rfl
 |point hf =>
  rw[kT (by show ¬ (2:Int)=1;decide),zcp,hf,zkm]
  show _=if (2:Int)=2 then _ else _
  rw[kZ rfl];rfl
 |drop hf =>
  rw[kT (by show ¬ (3:Int)=1;decide),zcp,hf,zkm,zvs]
  show _=if (3:Int)=2 then _ else _
  rw[kT (by decide)]
theorem ztg {L:List Ly}{n:Nt}(hw:WF (L.map Ly.s))(h:mayC (L.map Ly.s) n):May L n.kind n.name n.vy:=by
 rcases h with ⟨h1,h2,h3⟩|⟨h1,h2⟩
 ·refine .inl ⟨h1,by rw[h2,zkk],by rw[← zpb];exact h3,fun l hf=>?_⟩
  have hl:=zax hf
  have hsh:=(hw.sh l.s (kO.2 ⟨l,hl.1,rfl⟩)).2.2.2.1
  cases hv:fndV l n.vy with
  |none=>rfl
  |some r =>
   have hr:=zhb hv
   have:=hsh (r.v,r.ms) (kO.2 ⟨r,hr.1,rfl⟩)
   have hn:n.vy=l.next:=by rw[h2,zkk];unfold nextOf;rw[hf]
   have e:l.s.next=l.next:=rfl
   rw[e] at this
   simp only at this
   omega
 ·exact .inr ⟨h1,by rw[← zkl];exact h2⟩
theorem zh9 {L:List Ly}(hw:WF (L.map Ly.s)):(∀ l∈L,stl l)∧cntO full1 L≤20∧L.length≤100000∧∀ l∈L,l.V.length≤100000:=by
 refine ⟨fun l hl=>?_,?_,?_,fun l hl=>?_⟩
 ·obtain ⟨_,_,_,_,h5,h6⟩:=hw.sh l.s (kO.2 ⟨l,hl,rfl⟩)
  rw[zgw] at h5 h6
  refine ⟨h5,fun h=>?_⟩
  obtain ⟨h7,h8⟩:=h6 h
  rw[zte] at h7
  exact ⟨h7,h8⟩
 ·have:=hw.num
  rw[List.filter_map,kN] at this
  have e:((fun s:Sh=>decide (0<s.vs.length)) ∘ Ly.s)=full1:=by
   funext l
   show decide (0<l.s.vs.length)=full1 l
   rw[zgw];rfl
  rw[e] at this
  exact this
 ·have:=hw.len
  rw[kN] at this
  omega
 ·have:=(hw.sh l.s (kO.2 ⟨l,hl,rfl⟩)).1
  rw[zgw] at this
  omega
def tailN (n:Nt):List Int:=if n.kind=1 then textL n.ms else []
def bodyN (n:Nt):List Int:=bodyL (nums n.name) n.vy (tailN n)
def recN (n:Nt):List Int:=sealL n.kind (bodyN n)
def jl (ns:List Nt):List Int:=(ns.map recN).flatten
structure NtOk (n:Nt):Prop where
 n1:n.name.size≤20
 n0:0<n.name.size
 st:strOf (nums n.name)=n.name
 ver:n.vy≤100000
 kd:n.kind=1∨n.kind=2∨n.kind=3
 is:∀ W:World,Calls Tryz.prog 82 #[.string n.name] W fun e w'=>e = .returned (.bool true)∧Below W.heap.size W w'
 md:n.kind=1→IsB n.ms∧0<n.ms.length∧n.ms.length≤12000∧ReadOk n.ms
def Ch:Con→List Nt→Prop
 |C,[]=>WF C
 |C,n :: ns=>WF C∧mayC C n∧NtOk n∧Ch (pfC C n) ns
theorem Ch.wf {C:Con}{ns:List Nt}(h:Ch C ns):WF C:=by
 cases ns with
 |nil=>exact h
 |cons n ns=>exact h.1
theorem zns (n:Nt)(ns:List Nt):jl (n :: ns)=recN n++jl ns:=rfl
theorem zia (a b:List Nt):jl (a++b)=jl a++jl b:=by unfold jl;simp
theorem zvt {w:World}{b1 L c:Nat}{A:Option Addr}{n:Nt}(hn:NtOk n)(h:Own w b1 (.slice A L c) (bodyN n)) :
  Calls Tryz.prog 72 #[.int .i64 n.kind,.slice A L c] w fun e w'=>∃ X lx cx,e = .returned (.tuple #[.agg (noteV n.kind n.name n.vy 0 (.slice X lx cx)),.bool true])∧(n.kind=1→∃ gm,X=some ⟨gm,0,none⟩∧lx=n.ms.length∧Rb w' (some ⟨gm,0,none⟩) n.ms∧RbB w' gm cx n.ms∧w.heap.size≤gm)∧Below w.heap.size w w':=by
 have hv:n.vy<2147483648:=by have:=hn.ver;omega
 have h':=h
 unfold bodyN tailN at h'
 rcases hn.kd with hk|hk
 ·rw[kZ hk] at h'
  obtain ⟨m1,m2,m3,m4⟩:=hn.md hk
  refine (zvm n.name n.vy h' m1 m2 m3 m4 hn.n1 hn.n0 hv hk hn.st hn.is).mono ?_
  rintro e w' ⟨gm,c',rfl,hr,hrb,hg,hb⟩
  exact ⟨_,_,_,rfl,fun _=>⟨gm,rfl,rfl,hr,hrb,hg⟩,hb⟩
 ·rw[kT (by omega)] at h'
  refine (zqq n.name n.vy h' hn.n1 hn.n0 hv hk hn.st hn.is).mono ?_
  rintro e w' ⟨rfl,hb⟩
  exact ⟨_,_,_,rfl,fun h1=>by omega,hb⟩
theorem zpc {n:Nt}(hn:NtOk n):0<(bodyN n).length∧(bodyN n).length<16384:=by
 have h1:=zaj n.name
 have h2:=zah (nums n.name)
 have h2b:(nums n.name).length≤(textL (nums n.name)).length:=by unfold textL;simp
 have h3:=zah (mkL n.vy)
 have h4:(mkL n.vy).length=4:=by simp[mkL]
 have h5:=hn.n1
 have h6:=hn.n0
 have h7:(tailN n).length≤12010:=by
  unfold tailN
  split
  ·next h =>
   have:=zah n.ms
   have:=(hn.md h).2.2.1
   omega
  ·simp
 unfold bodyN bodyL
 simp
 omega
theorem zy5 {w:World}{g gd bm size:Nat}{D:Option Nat}{L:List Ly}(h:Bk w g gd bm D size L)(hD:∀ k,D=some k→k<w.heap.size)(hgd:gd<w.heap.size){k:Nat}(hk:Mt g gd bm D L k):k<w.heap.size:=by
 rcases hk with e|e|e|e|e|e
 ·rw[e];exact h.blk.lt
 ·rw[e];exact hgd
 ·exact hD k e.symm
 ·rw[e];exact h.map.lt
 ·obtain ⟨l,hl,rfl⟩:=kO.1 e
  exact (h.sh l hl).1.lt
 ·obtain ⟨l,hl,rfl⟩:=kO.1 e
  exact (h.sh l hl).2.1.lt
theorem zqt {w:World}{g gd bm size:Nat}{D:Option Nat}{L:List Ly}(h:Bk w g gd bm D size L){n:Nt}(hn:NtOk n)(hw:WF (L.map Ly.s))(hm:mayC (L.map Ly.s) n)(lv:Int)(x:Value)(hx:n.kind=1→RowIs w (Mt g gd bm D L) x n.ms)
  (hD:∀ k,D=some k→k<w.heap.size) (hgd:gd<w.heap.size) (h1:x.oneCell'=true) :
  Calls Tryz.prog 75 #[.pointer (some ⟨g,0,none⟩),.agg (noteV n.kind n.name n.vy lv x)] w fun e w'=>e = .returned (.bool true)∧∃ L',L'.map Ly.s=pfC (L.map Ly.s) n∧Bk w' g gd bm D size L'∧Alt w w' (Mb bm L)∧Nw w.heap.size L L':=by
 obtain ⟨k1,k2,k3,k4⟩:=zh9 hw
 have hM:=ztg hw hm
 rcases hn.kd with hk|hk
 ·rw[hk] at hM ⊢
  refine (zqs h hM lv x hn.ver (hx hk) k4 k3 hD hgd h1).mono ?_
  rintro e w' ⟨rfl,L',hpf,hb,ha,hnw⟩
  refine ⟨rfl,L',?_,hb,ha,hnw⟩
  rw[ztf hpf, ← hk]
 ·rcases hm with ⟨h2,_⟩|⟨_,h2⟩
  ·omega
  ·rw[zkl] at h2
   refine (zkj h hk h2 lv x (ms:=n.ms) hn.ver k4 hD hgd h1).mono ?_
   rintro e w' ⟨rfl,L',hpf,hb,ha,hnw⟩
   exact ⟨rfl,L',ztf hpf,hb,ha,hnw⟩
theorem zjd {K:Type}{kv:KeyV K}{w:World}{b0:Nat}{v:Value}{xs:List Int}{b:Nat}{m:List (K×Value)}(h:Own w b0 v xs)(hm:MapIs w kv b m):v.ownBlock≠some b:=by
 rcases h.2 with ⟨rfl,_⟩|⟨g',cap,cur,rfl,_,hh,_⟩
 ·simp[Value.ownBlock]
 ·intro he
  have:g'=b:=by simpa [Value.ownBlock] using he
  subst this
  obtain ⟨es,c,hb,_⟩:=hm
  rw[hb] at hh
  cases hh
theorem zth {w w':World}{g gd bm size b0:Nat}{D D':Option Nat}{L:List Ly}{v:Value}{xs:List Int}{cs:Array Value}(h:Bk w g gd bm D size L)(hdk:Blk w gd 154 cs)(hown:Own w b0 v xs)(hD:v.ownBlock=D)
  (ha:Alt w w' (fun k=>k=gd∨v.ownBlock=some k)) (hD':D'=D∨∀ k,D'=some k→w.heap.size≤k):Bk w' g gd bm D' size L:=by
 have far:∀ k,k<w.heap.size→Mt g gd bm D' L k→Mt g gd bm D L k:=by
  rintro k hk (e|e|e|e|e|e)
  ·exact .inl e
  ·exact .inr (.inl e)
  ·rcases hD' with h1|h1
   ·exact .inr (.inr (.inl (by rw[← h1];exact e)))
   ·have:=h1 k e.symm;omega
  ·exact .inr (.inr (.inr (.inl e)))
  ·exact .inr (.inr (.inr (.inr (.inl e))))
  ·exact .inr (.inr (.inr (.inr (.inr e))))
 refine ⟨h.blk.kept ha ?_,h.map.alt ha ?_,fun l hl=>?_,h.gs,h.bs,h.sm⟩
 ·rintro (e|e)
  ·exact h.blk.ne_ hdk (by decide) e
  ·exact hown.ne h.blk (by decide) e
 ·rintro (e|e)
  ·exact h.map.ne_blk hdk e
  ·exact zjd hown h.map e
 ·obtain ⟨h1,h2,h3⟩:=h.sh l hl
  refine ⟨h1.kept ha ?_,h2.alt ha ?_,fun r hr=>(h3 r hr).alt ha ?_ far⟩
  ·rintro (e|e)
   ·exact h1.ne_ hdk (by decide) e
   ·exact hown.ne h1 (by decide) e
  ·rintro (e|e)
   ·exact h2.ne_blk hdk e
   ·exact zjd hown h2 e
  ·rintro k _ (e|e)
   ·exact .inr (.inl e)
   ·exact .inr (.inr (.inl (by rw[← hD];exact e.symm)))
theorem znt {w:World}{g gd bm size:Nat}{D:Option Nat}{L:List Ly}(h:Bk w g gd bm D size L)(size':Nat)(hs:size'≤4194304):Bk (w.setCell ⟨g,1,none⟩ (.int .i64 (size':Int))) g gd bm D size' L:=by
 have ha:Alt w (w.setCell ⟨g,1,none⟩ (.int .i64 (size':Int))) (fun k=>k=g):=(Alt.refl w (fun k=>k=g)).set_ (a:=⟨g,1,none⟩) rfl _
 refine ⟨h.blk.set_ 1 _,h.map.alt ha (h.map.ne_blk h.blk),fun l hl=>?_,h.gs,h.bs,hs,h.sm.2⟩
 obtain ⟨h1,h2,h3⟩:=h.sh l hl
 exact ⟨h1.kept ha (fun e=>(h.blk.ne_ h1 (by decide)) e.symm),h2.alt ha (h2.ne_blk h.blk),fun r hr=>(h3 r hr).alt ha (fun _ _ e => .inl e) (fun _ _ h=>h)⟩
structure Bw (w:World)(g gd bm b0:Nat)(A:Option Addr)(c:Nat)(S:St)(f:Int)(L:List Ly):Prop where
 bk:Bk w g gd bm (Value.slice A S.xs.length c).ownBlock S.xs.length L
 dk:Blk w gd 154 (pc (.slice A S.xs.length c) S f)
 own:Own w b0 (.slice A S.xs.length c) S.xs
 ok:Ok S
 fu:S.fuse=none
 up:S.dead=false
 sf:S.safe=S.xs.length
 b0l:b0≤w.heap.size
theorem zhd {w w':World}{g gd bm b0 c:Nat}{A:Option Addr}{S:St}{f:Int}{L:List Ly}(h:Bw w g gd bm b0 A c S f L)(hb:Below w.heap.size w w'):Bw w' g gd bm b0 A c S f L :=
 ⟨zal h.bk hb,zab h.dk hb,zam h.own hb,h.ok,h.fu,h.up,h.sf,kH h.b0l hb.size⟩
theorem zqu {w:World}{n:Nt}(hn:NtOk n)(lv:Int){X:Option Addr}{lx cx:Nat}{far:Nat→Prop}(hx:n.kind=1→RowIs w far (.slice X lx cx) n.ms) :
  Calls Tryz.prog 198 #[.agg (noteV n.kind n.name n.vy lv (.slice X lx cx))] w fun e w'=>∃ A' L' c',e = .returned (.tuple #[.slice A' L' c',.bool true])∧Own w' w.heap.size (.slice A' L' c') (recN n)∧Below w.heap.size w w':=by
 have hv:n.vy<2147483648:=by have:=hn.ver;omega
 have h1:n.name.size≤1000:=by have:=hn.n1;omega
 unfold recN bodyN tailN
 rcases hn.kd with hk|hk
 ·rw[kZ hk]
  obtain ⟨m1,m2,m3,m4⟩:=hn.md hk
  obtain ⟨ad,c',e,h0,hr,_⟩:=hx hk
  injection e with e1 e2 e3
  exact zqn n.name n.vy lv (by rw[e1];exact hr) e2 (fun h=>by rw[e1] at h;cases h) m1 m3 h1 hv hk
 ·rw[kT (by omega)]
  exact zly n.name n.vy lv _ h1 hv hk
theorem zkn {n:Nt}(hn:NtOk n):(recN n).length≤20000∧0<(recN n).length:=by
 have h1:=zpc hn
 have h2:=zfq n.kind (bodyN n)
 have h3:=zch (bodyN n).length
 unfold recN
 omega
def addS (S:St)(ys:List Int):St:={ S with xs:=S.xs++ys,safe:=(S.xs++ys).length }
theorem zti {w2 w3 w4:World}{g gd bm b0 c c' rl:Nat}{A A':Option Addr}{S:St}{f f':Int}{L:List Ly}{ys:List Int}(h2:Bw w2 g gd bm b0 A c S f L)(ha3:Alt w2 w3 (fun k=>k=gd∨(Value.slice A S.xs.length c).ownBlock=some k))(ha4:Alt w3 w4 (fun k=>k=gd))
  (ho3:Own w3 b0 (.slice A' (S.xs.length+rl) c') (S.xs++ys)) (hb3:∃ cs,Blk w3 gd 154 cs) (hb4:Blk w4 gd 154 (pc (.slice A' (S.xs.length+rl) c') (addS S ys) f')) (hrl:rl=ys.length) (hfit:S.xs.length+rl≤S.room)
  (hd:(Value.slice A' (S.xs.length+rl) c').ownBlock=(Value.slice A S.xs.length c).ownBlock∨∀ k,(Value.slice A' (S.xs.length+rl) c').ownBlock=some k→w2.heap.size≤k) :
  Bk w4 g gd bm (Value.slice A' (S.xs.length+rl) c').ownBlock S.xs.length L∧Bw (w4.setCell ⟨g,1,none⟩ (.int .i64 ((S.xs.length:Int)+(rl:Int)))) g gd bm b0 A' c' (addS S ys) f' L ∧
   Alt w2 (w4.setCell ⟨g,1,none⟩ (.int .i64 ((S.xs.length:Int)+(rl:Int)))) (fun k=>k=g∨k=gd∨(Value.slice A S.xs.length c).ownBlock=some k):=by
 have ha:Alt w2 w4 (fun k=>k=gd∨(Value.slice A S.xs.length c).ownBlock=some k):=ha3.trans ha4 (fun _ _ e => .inl e)
 have hbk:=zth h2.bk h2.dk h2.own rfl ha hd
 have hlen:(addS S ys).xs.length=S.xs.length+rl:=by simp[addS,hrl]
 have hok:=h2.ok
 obtain ⟨k1,k2,k3,k4⟩:=hok
 obtain ⟨cs,hb3⟩:=hb3
 have hne:∀ k,(Value.slice A' (S.xs.length+rl) c').ownBlock=some k→¬ k=gd:=by
  rintro k hk rfl
  exact Own.ne ho3 hb3 (by decide) hk
 have ho4:=ho3.keep ha4 hne
 have hne2:∀ k,(Value.slice A' (S.xs.length+rl) c').ownBlock=some k→¬ k=g:=by
  rintro k hk rfl
  exact Own.ne ho4 hbk.blk (by decide) hk
 have hgg:g≠gd:=h2.bk.blk.ne_ h2.dk (by decide)
 have ha1:∀ v,Alt w4 (w4.setCell ⟨g,1,none⟩ v) (fun k=>k=g):=fun v=>(Alt.refl w4 (fun k=>k=g)).set_ (a:=⟨g,1,none⟩) rfl v
 have e:((S.xs.length:Int)+(rl:Int))=(((addS S ys).xs.length:Nat):Int):=by rw[hlen];omega
 refine ⟨hbk,?_,(ha.mono fun k e => .inr e).trans (ha1 _) (fun _ _ e => .inl e)⟩
 rw[e]
 refine ⟨?_,?_,?_,?_,h2.fu,h2.up,rfl,?_⟩
 ·rw[hlen]
  exact znt hbk _ (by omega)
 ·rw[hlen]
  exact hb4.far (p:=⟨g,1,none⟩) (fun e=>hgg e.symm) _
 ·rw[hlen]
  exact ho4.keep (ha1 _) hne2
 ·refine ⟨by rw[hlen];exact hfit,k2,kJ _,fun k hk=>?_⟩
  have:=h2.fu
  rw[show (addS S ys).fuse=S.fuse from rfl,this] at hk
  cases hk
 ·have:=h2.b0l
  have h5:=ha.size
  have h6:=(ha1 (.int .i64 (((addS S ys).xs.length:Nat):Int))).size
  omega
theorem zqv {w:World}{g gd bm b0 c:Nat}{A:Option Addr}{S:St}{f:Int}{L:List Ly}(h:Bw w g gd bm b0 A c S f L){n:Nt}(hn:NtOk n)(lv:Int){X:Option Addr}{lx cx:Nat}{far:Nat→Prop}(hx:n.kind=1→RowIs w far (.slice X lx cx) n.ms)(hfit:S.xs.length+(recN n).length≤S.room) :
  Calls Tryz.prog 86 #[.pointer (some ⟨g,0,none⟩),.agg (noteV n.kind n.name n.vy lv (.slice X lx cx))] w fun e w'=>e = .returned (.int .i64 0)∧∃ A' c' f',Bw w' g gd bm b0 A' c' (addS S (recN n)) f' L ∧
   Alt w w' (fun k=>k=g∨k=gd∨(Value.slice A S.xs.length c).ownBlock=some k)∧((Value.slice A' (S.xs++recN n).length c').ownBlock=(Value.slice A S.xs.length c).ownBlock∨∀ k,(Value.slice A' (S.xs++recN n).length c').ownBlock=some k→w.heap.size≤k):=by
 have HBW:=kA h
 have HOK:=kA hn
 have HX:=kA hx
 have HRL:=kA (zkn hn)
 have HFIT:=kA hfit
 clear h hn hx hfit
 go_enter Tryz.func86,Tryz.ntmps86
 unfold noteV
 go_upto_region 1 with fail
 have HN:Hid (Blk (w.alloc (.cells #[.int .i64 n.kind,.string n.name,.int .i64 (n.vy:Int),.int .i64 lv,.slice X lx cx] 222)) w.heap.size 222 (noteV n.kind n.name n.vy lv (.slice X lx cx))):=kA (Blk.new w _ _)
 have HB:Hid (Below w.heap.size w (w.alloc (.cells #[.int .i64 n.kind,.string n.name,.int .i64 (n.vy:Int),.int .i64 lv,.slice X lx cx] 222))):=kA (Below.new1 w _)
 generalize w.alloc (.cells #[.int .i64 n.kind,.string n.name,.int .i64 (n.vy:Int),.int .i64 lv,.slice X lx cx] 222)=W1 at HN HB ⊢
 have HBW1:=kA (zhd HBW.out HB.out)
 have HX1:Hid (n.kind=1→RowIs W1 far (.slice X lx cx) n.ms):=kA fun hk=>(HX.out hk).alt (alt_of_below (p:=fun _=>False) HB.out) (fun _ _ h=>h.elim) (fun _ _ h=>h)
 obtain ⟨⟨n0,n1,n2,n3,n4⟩,nz⟩:=zan HN.out
 obtain ⟨⟨c0,c1,c2⟩,cz⟩:=zat HBW1.out.bk.blk
 obtain ⟨⟨d0,d1,d2,d3,d4,d5⟩,dz⟩:=zdy HBW1.out.dk
 have hup:=HBW.out.up
 rw[hup] at d3
 clear hup
 go_upto_region 5 with (go_at_call 198;refine (zqu HOK.out lv HX1.out).mono ?_;rintro e w2 ⟨A2,L2,c2',rfl,ho2,hb2⟩;have HO2:=kA ho2;have HB2:=kA hb2;clear ho2 hb2)
 obtain ⟨hL2,hc2⟩:=zh2 HO2.out
 subst hL2
 have HBW2:=kA (zhd HBW1.out HB2.out)
 have HL2:Hid (0<(recN n).length∧(recN n).length≤20000):=kA ⟨HRL.out.2,HRL.out.1⟩
 obtain ⟨rl,hrl⟩:∃ k,k=(recN n).length:=⟨_,rfl⟩
 have HRLE:=kA hrl
 have hfit:=HFIT.out
 have hrl1:=HRL.out.1
 have hrl2:=HRL.out.2
 rw[← hrl] at hc2 hfit hrl1 hrl2 ⊢
 clear hrl
 obtain ⟨⟨c0,c1,c2⟩,cz⟩:=zat HBW2.out.bk.blk
 obtain ⟨⟨d0,d1,d2,d3,d4,d5⟩,dz⟩:=zdy HBW2.out.dk
 have hup:=HBW.out.up
 rw[hup] at d3
 clear hup
 have hroom:=HBW.out.ok.2.1
 have hg:decide (((S.room:Int) - (S.xs.length:Int))<(rl:Int))=false:=by simp;omega
 go_quiet (fail)
 have HWR:Hid (wr S (recN n)=(0,{ S with xs:=S.xs++recN n })):=kA (by
  have h1:=HBW.out.up
  have h2:=HBW.out.fu
  have h3:=HFIT.out
  rw[wr,kT (by rw[h1];decide),kT (by omega),h2])
 have HDK2:Hid (∀ m,Blk (w2.drewN m) gd 154 (pc (.slice A S.xs.length c) S f)):=kA (fun m=>HBW2.out.dk.drewN m)
 have HOW2:Hid (∀ m,Own (w2.drewN m) b0 (.slice A S.xs.length c) S.xs):=kA (fun _=>HBW2.out.own)
 have HWRITE:Hid (∀ m,Calls Tryz.prog 199 #[.pointer (some ⟨gd,0,none⟩),.slice A2 rl c2'] (w2.drewN m) fun e w'=>e = .returned (.int .i64 0)∧∃ A' c' f',Blk w' gd 154 (pc (.slice A' (S.xs.length+rl) c') { S with xs:=S.xs++recN n } f')∧Own w' b0 (.slice A' (S.xs.length+rl) c') (S.xs++recN n) ∧
  Alt w2 w' (fun k=>k=gd∨(Value.slice A S.xs.length c).ownBlock=some k)∧((Value.slice A' (S.xs.length+rl) c').ownBlock=(Value.slice A S.xs.length c).ownBlock∨∀ k,(Value.slice A' (S.xs.length+rl) c').ownBlock=some k→w2.heap.size≤k)):=kA (by
  intro nq
  have h1:Rb (w2.drewN nq) A2 (recN n):=Rb.of_own HO2.out
  have:=zqj gd A A2 c c2' b0 S f (recN n) (w2.drewN nq) (HDK2.out nq) (fun k hk=>by rw[HBW.out.fu] at hk;cases hk) (HOW2.out nq) HBW.out.ok h1 (fun e=>by have:=HO2.out;rw[e] at this;exact this.none_) (by have:=HL2.out;omega) (by rw[← HRLE.out];omega) (fun ad e1 e2=>by
   have h3:=HO2.out
   rw[e1] at h3
   have h4:=h3.base (k:=ad.block) rfl
   have h5:=HBW1.out.dk.lt
   omega) (by have:=HBW2.out.b0l;exact this)
  rw[HWR.out] at this
  refine Calls.mono (by rw[HRLE.out];exact this) ?_
  rintro e w' ⟨he,A',c',f',h1,_,h2,h3,h4⟩
  refine ⟨he,A',c',f',?_⟩
  have e3:(S.xs++recN n).length=S.xs.length+rl:=by rw[kI,HRLE.out]
  rw[← e3]
  exact ⟨h1,h2,⟨h3.os,h3.tape,h3.output,h3.size,h3.block⟩,h4⟩)
 have HSY:Hid (∀ (w3:World) (A':Option Addr) (c':Nat) (f':Int),Blk w3 gd 154 (pc (.slice A' (S.xs.length+rl) c') { S with xs:=S.xs++recN n } f')→Calls Tryz.prog 200 #[.pointer (some ⟨gd,0,none⟩)] w3 fun e w4=>e = .returned (.int .i64 0)∧Blk w4 gd 154 (pc (.slice A' (S.xs.length+rl) c') (addS S (recN n)) f')∧Alt w3 w4 (fun k=>k=gd)):=kA (fun w3 A' c' f' hb=>by
  have e3:(S.xs++recN n).length=S.xs.length+rl:=by rw[kI,HRLE.out]
  have h1:=HBW.out.up
  have e5:sy { S with xs:=S.xs++recN n }=(0,addS S (recN n)):=by rw[sy,kT (by rw[h1];decide)];rfl
  have:=zst gd A' c' { S with xs:=S.xs++recN n } f' w3 (by rw[← e3] at hb;exact hb)
  rw[e5] at this
  rw[← e3]
  exact this)
 clear HDK2 HOW2 hg
 go_wp2
 go_region
 go_wp2_with (first
  |(go_at_call 199;refine (HWRITE.out _).mono ?_;rintro e w3 ⟨rfl,A',c',f',hb3,ho3,ha3,hd3⟩;have HB3:=kA hb3;have HO3:=kA ho3;have HA3:=kA ha3;have HD3:=kA hd3;clear hb3 ho3 ha3 hd3)
  |(go_at_call 200;go_loud (refine (HSY.out w3 A' c' f' HB3.out).mono ?_;rintro e w4 ⟨rfl,hb4,ha4⟩;have HEND:=kA (zti HBW2.out HA3.out ha4 HO3.out ⟨_,HB3.out⟩ hb4 HRLE.out (by have:=HFIT.out;rw[← HRLE.out] at this;exact this) HD3.out);obtain ⟨⟨x0,x1,x2⟩,xz⟩:=zat HEND.out.1.blk;clear hb4 ha4)))
 all_goals
  go_ret
  have hsz:w2.heap.size=w2.heap.size:=rfl
  have hww:Alt w w2 (fun k=>k=g∨k=gd∨(Value.slice A S.xs.length c).ownBlock=some k):=alt_of_below (p:=fun k=>k=g∨k=gd∨(Value.slice A S.xs.length c).ownBlock=some k) (HB.out.trans (HB2.out.mono HB.out.size))
  have e6:(S.xs++recN n).length=S.xs.length+rl:=by rw[kI,HRLE.out]
  have hb0:∀ m,Below (w4.setCell ⟨g,1,none⟩ (.int .i64 ((S.xs.length:Int)+(rl:Int)))).heap.size (w4.setCell ⟨g,1,none⟩ (.int .i64 ((S.xs.length:Int)+(rl:Int)))) ((w4.setCell ⟨g,1,none⟩ (.int .i64 ((S.xs.length:Int)+(rl:Int)))).drewN m):=fun m=>below_drewN (Below.refl _ _) m
  have hend:∀ m,∃ A' c' f',Bw ((w4.setCell ⟨g,1,none⟩ (.int .i64 ((S.xs.length:Int)+(rl:Int)))).drewN m) g gd bm b0 A' c' (addS S (recN n)) f' L ∧
   Alt w ((w4.setCell ⟨g,1,none⟩ (.int .i64 ((S.xs.length:Int)+(rl:Int)))).drewN m) (fun k=>k=g∨k=gd∨(Value.slice A S.xs.length c).ownBlock=some k)∧((Value.slice A' (S.xs++recN n).length c').ownBlock=(Value.slice A S.xs.length c).ownBlock∨∀ k,(Value.slice A' (S.xs++recN n).length c').ownBlock=some k→w.heap.size≤k):=fun m =>
   ⟨A',c',f',zhd HEND.out.2.1 (hb0 m),(hww.trans HEND.out.2.2 (fun _ _ e=>e)).drewN m,by rw[e6];exact HD3.out.imp id (fun h k hk=>kH hww.size (h k hk))⟩
  first
   |exact ⟨rfl,hend 0⟩
   |exact ⟨rfl,hend 1⟩
   |exact ⟨rfl,hend 2⟩
end Go.Proofs.YtemgclnkgieldaaGreatDoor.Oc
