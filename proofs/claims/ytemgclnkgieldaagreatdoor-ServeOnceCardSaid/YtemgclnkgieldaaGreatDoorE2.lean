/- A run of code whose input is known, by the kernel: part 2. -/
import Derived.Test.YtemgclnkgieldaaGreatDoorE1
import Derived.Lib.Builder
import Derived.Laws.IdiomStrings
import Derived.Lib.UnsafeStr
import Derived.Lib.MakeNoZero
import Derived.BigFrame
import Derived.Laws.Externs
import Derived.LoopN
import Derived.Scope
noncomputable section
namespace Go.Proofs.YtemgclnkgieldaaGreatDoor.CX
open Go Go.RowKit
def Ran (P:Program)(E:En)(h:Hp)(w:World)(a:Act)(o:Oper)(v:Value)(h':Hp):Prop :=
 ∃ E' w' r,(execOp a.eval o).run P w = .ok r w'∧Stp E E' h h' w w'∧((∃ u,r = .value u∧VR E' v u)∨(r = .skip∧v=undef))
def newBk (elem:TypeId)(l:List Value):Bk:={ elem:=elem,size:=len l,ro:=false,dflt:=[],cells:=wrC l 0 .leaf }
theorem zcm (elem:TypeId)(l:List Value)(j:Nat):(newBk elem l).at j=l[j]?:=by
 rw[Bk.at_eq]
 show (if j<len l then (match (wrC l 0 .leaf).get j with|some v=>some v|none=>([]:List Value)[j % 0]?) else none)=_
 rw[za9,zjv]
 by_cases h:j<l.length
 ·rw[qX h,qX (by omega),Nat.sub_zero,List.getElem?_eq_getElem h]
 ·rw[qW h,List.getElem?_eq_none (by omega)]
theorem Stp.newRow {E:En}{h:Hp}{w:World}(H:HR E h w)(B:Bk)(cs:Array Value)(hsz:B.size≤cs.size)
  (hc:∀ j v,B.at j=some v→∃ u,cs[j]? = some u∧VR E v u) (hone:B.one=true→cs.size=B.size:=by intro h;cases h) :
  Stp E (E.add h.next ⟨w.heap.size,0,cs.size⟩) h (h.new (.row B)) w (w.alloc (.cells cs B.elem)):=by
 refine Stp.new H _ _ _ rfl ⟨cs,(0,0),heap_alloc_new _ _,by simp,hsz,fun j v hv=>?_,fun _ j _=>by simp,fun h=>⟨rfl,hone h⟩⟩
 obtain ⟨u,hu,hr⟩:=hc j v hv
 exact ⟨u,by simpa using hu,hr.mono (H.le_new _)⟩
theorem Stp.newList {E:En}{h:Hp}{w:World}(H:HR E h w)(elem:TypeId){l l':List Value}(hl:LR E l l') :
  Stp E (E.add h.next ⟨w.heap.size,0,l'.length⟩) h (h.new (.row (newBk elem l))) w (w.alloc (.cells ⟨l'⟩ elem)) :=
 Stp.newRow H (newBk elem l) ⟨l'⟩ (by show len l≤_;rw[za9,hl.length];exact Nat.le_refl _) fun j v hv=>by
  rw[zcm] at hv
  obtain ⟨u,hu,hr⟩:=F2.get hl hv
  exact ⟨u,by rw[xA];exact hu,hr⟩
def oneBk (elem:TypeId)(l:List Value):Bk:={ elem:=elem,size:=len l,ro:=false,dflt:=[],cells:=wrC l 0 .leaf,one:=true }
theorem zok (elem:TypeId)(l:List Value)(j:Nat):(oneBk elem l).at j=l[j]?:=zcm elem l j
theorem Stp.newOne {E:En}{h:Hp}{w:World}(H:HR E h w)(elem:TypeId){l l':List Value}(hl:LR E l l') :
  Stp E (E.add h.next ⟨w.heap.size,0,l'.length⟩) h (h.new (.row (oneBk elem l))) w (w.alloc (.cells ⟨l'⟩ elem)) :=
 Stp.newRow H (oneBk elem l) ⟨l'⟩ (by show len l≤_;rw[za9,hl.length];exact Nat.le_refl _) (fun j v hv=>by
  rw[zok] at hv
  obtain ⟨u,hu,hr⟩:=F2.get hl hv
  exact ⟨u,by rw[xA];exact hu,hr⟩) (fun _=>by show l'.length=len l;rw[za9,hl.length])
def xalloc (ti:Tr TI)(h:Hp)(e:TypeId):Option (Value×Hp) :=
 match ti.get e with
 |some i=>match i.zero with
  |some z=>some (.pointer (some ⟨h.next,0,none⟩),h.new (.row (oneBk e (cellsOf z))))
  |none=>none
 |none=>none
def xbox (f:Operand→Option Value)(h:Hp)(e:TypeId)(y:Operand):Option (Value×Hp) :=
 match f y with
 |some v=>some (.pointer (some ⟨h.next,0,none⟩),h.new (.row (newBk e (cellsOf v))))
 |none=>none
def oneB (v:Value):Bool:=match v with | .agg _ | .tuple _=>false|_=>true
theorem zjw (v:Value):oneB v=v.oneCell':=by cases v <;> rfl
def xstore (ti:Tr TI)(f:Operand→Option Value)(h:Hp)(ty:TypeId)(p y:Operand):Option (Value×Hp) :=
 match f p,f y,ti.get ty with
 |some (.pointer (some ⟨b,o,none⟩)),some v,some i=>match h.blk b with
  |some B=>cond (Nat.beq (len (cellsOf v)) i.size) (cond (Nat.ble (o+i.size) B.size) (cond B.ro none (cond (allB oneB (cellsOf v)) (some (undef,h.put b (.row (B.write o (cellsOf v))))) none)) none) none
  |none=>none
 |_,_,_=>none
section
variable {x:X}{E:En}{n:Nat}{t:Tr Value}{a:Act}{o:Oper}{v:Value}{h h':Hp}{w:World}
theorem zla (hx:x.Ok){e:TypeId}(ho:o.op = .alloc e)(H:HR E h w)(hh:xalloc x.ti h e=some (v,h')):Ran x.P E h w a o v h':=by
 unfold xalloc at hh
 split at hh
 ·rename_i i hi
  have hti:=hx.tiOk hi
  split at hh
  ·rename_i z hz
   cases hh
   have hzr:LR E (cellsOf z) (cellsOf z):=(VR.of_plain (E:=E) (hti.zero_plain hz)).cells
   refine ⟨_,_,.value (.pointer (some ⟨w.heap.size,0,none⟩)),?_,Stp.newOne H e hzr,.inl ⟨_,rfl,VR.ptr (o:=0) (En.add_self _ _ _)⟩⟩
   unfold execOp
   rw[ho]
   have:z.cells=⟨cellsOf z⟩:=Array.toList_inj.1 (zbf z)
   simp only[qT,Instr.alloc,hti.run_zero w hz,qS,newVar,newRow,run_newObj,qU,this,World.alloc_eq]
  ·cases hh
 ·cases hh
theorem zp6 {e:TypeId}{y:Operand}(ho:o.op = .box e y)(ht:TR E n t a.tmps)(hg:GOk x.ng E)(H:HR E h w)(hh:xbox (ev x.ng t) h e y=some (v,h')):Ran x.P E h w a o v h':=by
 unfold xbox at hh
 split at hh
 ·rename_i u hu
  cases hh
  have r:=zae ht hg hu
  refine ⟨_,_,.value (.pointer (some ⟨w.heap.size,0,none⟩)),?_,Stp.newList H e r.cells,.inl ⟨_,rfl,VR.ptr (o:=0) (En.add_self _ _ _)⟩⟩
  unfold execOp
  rw[ho]
  have:(a.eval y).cells=⟨cellsOf (a.eval y)⟩:=Array.toList_inj.1 (zbf _)
  simp only[qT,Instr.box,qS,newVar,newRow,run_newObj,qU,this,World.alloc_eq]
 ·cases hh
theorem zlb (hx:x.Ok){ty:TypeId}{p y:Operand}(ho:o.op = .store ty p y)(ht:TR E n t a.tmps)(hg:GOk x.ng E)(H:HR E h w)
  (hh:xstore x.ti (ev x.ng t) h ty p y=some (v,h')):Ran x.P E h w a o v h':=by
 unfold xstore at hh
 split at hh
 ·rename_i b off u i hp hu hi
  have hti:=hx.tiOk hi
  obtain ⟨e,_,he,e1⟩:=(zae ht hg hp).ptr_inv
  have r:=zae ht hg hu
  split at hh
  ·rename_i B hB
   obtain ⟨b1,hh⟩:=zac hh
   obtain ⟨b2,hh⟩:=zac hh
   obtain ⟨b3,hh⟩:=zdc hh
   obtain ⟨b4,hh⟩:=zac hh
   cases hh
   have b1:=zay b1
   have b2:=zbh b2
   rw[za9] at b1
   obtain ⟨w',hr,hst⟩:=HR.store (P:=x.P) H hB b3 he (j:=off) (by omega) r.cells (fun v hv=>by rw[← zjw];exact (zag _ _).1 b4 v hv)
   refine ⟨E,w',.skip,?_,hst,.inr ⟨rfl,rfl⟩⟩
   unfold execOp
   rw[ho]
   have hlen:(a.eval y).cells.size=i.size:=by rw[← Array.length_toList,zbf, ← r.cells.length,b1]
   simp only[qT,Instr.storeAt,e1,Instr.sureAddr,qU,qS,storeVar,hti.run_size w,hlen,ne_eq,not_true,if_false,zbf,hr]
  ·cases hh
 ·cases hh
end
theorem zjx (k n:Nat):k*n=0∨0<n:=by
 cases n with
 |zero=>exact .inl (Nat.mul_zero k)
 |succ n=>exact .inr (Nat.succ_pos n)
def repL (l:List Value)(n:Nat):List Value:=Nat.rec (motive:=fun _=>List Value) [] (fun _ ih=>app l ih) n
theorem zlc (l:List Value)(n:Nat):repL l (n+1)=l++repL l n:=app_eq _ _
theorem zcz (l:List Value):∀ n,(repL l n).length=n*l.length
 | 0=>by rw[Nat.zero_mul];rfl
 |n+1=>by rw[zlc,List.length_append,zcz l n,Nat.add_mul];omega
theorem zjy (l:List Value):∀ (n j:Nat),j<n*l.length→(repL l n)[j]? = l[j % l.length]?
 | 0,j,h=>by simp at h
 |n+1,j,h=>by
  rw[zlc]
  by_cases hj:j<l.length
  ·rw[List.getElem?_append_left hj,Nat.mod_eq_of_lt hj]
  ·rw[List.getElem?_append_right (by omega),zjy l n _ (by rw[Nat.add_mul] at h;omega), ← Nat.mod_eq_sub_mod (by omega)]
theorem zee {z:Value}(n:Nat)(hz:n=0∨0<(cellsOf z).length):((Array.range n).map (z.cells[· % z.cells.size]!)).toList.length=n∧∀ j,j<n→((Array.range n).map (z.cells[· % z.cells.size]!))[j]? = (cellsOf z)[j % (cellsOf z).length]?:=by
 refine ⟨by simp,fun j hj=>?_⟩
 have e:z.cells.size=(cellsOf z).length:=by rw[← zbf];simp
 have hlt:j % (cellsOf z).length<(cellsOf z).length:=Nat.mod_lt _ (by omega)
 simp only[Array.getElem?_map,Array.getElem?_range,hj,if_true,Option.map_some,e]
 rw[List.getElem?_eq_getElem hlt]
 congr 1
 have hlt':j % (cellsOf z).length<z.cells.size:=by omega
 rw[getElem!_pos z.cells _ hlt']
 simp only[← zbf]
 rfl
def xbuildSlice (ti:Tr TI)(f:Operand→Option Value)(h:Hp)(ty:TypeId)(k:Nat)(parts:Array (Nat×Operand)):Option (Value×Hp) :=
 match undT ti ty,evP f parts.toList with
 |some (TypeDesc.slice e),some ps=>match ti.get e with
  |some te=>match te.zero with
   |some z=>cond (Nat.beq (len (cellsOf z)) te.size) (cond (Nat.ble (k*te.size) 4096) (match fillL (fun i=>some (i*te.size,te.size)) ps (repL (cellsOf z) k) with
    |some l=>some (.slice (some ⟨h.next,0,none⟩) k (2*k),h.new (.row (newBk e l)))
    |none=>none) none) none
   |none=>none
  |none=>none
 |_,_=>none
def xmakeSlice (ti:Tr TI)(f:Operand→Option Value)(h:Hp)(ty:TypeId)(l c:Operand):Option (Value×Hp) :=
 match undT ti ty,f l,f c with
 |some (TypeDesc.slice e),some (.int .i64 (.ofNat n)),some (.int .i64 (.ofNat k))=>match ti.get e with
  |some te=>match te.zero with
   |some z=>cond (Nat.beq (len (cellsOf z)) te.size) (cond (Nat.ble n k) (cond (Nat.ble k 1073741824) (cond (Nat.ble te.bytes 65536)
     (some (.slice (some ⟨h.next,0,none⟩) n (2*k),h.new (.row { elem:=e,size:=k*te.size,ro:=false,dflt:=cellsOf z,cells := .leaf }))) none) none) none) none
   |none=>none
  |none=>none
 |_,_,_=>none
section
variable {x:X}{E:En}{n:Nat}{t:Tr Value}{a:Act}{o:Oper}{v:Value}{h h':Hp}{w:World}
theorem zf2 (hx:x.Ok){ty:TypeId}{k:Nat}{parts:Array (Nat×Operand)}(ho:o.op = .buildSlice ty k parts)(ht:TR E n t a.tmps)(hg:GOk x.ng E)(H:HR E h w)
  (hh:xbuildSlice x.ti (ev x.ng t) h ty k parts=some (v,h')):Ran x.P E h w a o v h':=by
 unfold xbuildSlice at hh
 split at hh
 ·rename_i e ps hu hps
  obtain ⟨i,hi,hu⟩:=zao hx hu
  have hps:=zfa ht hg hps
  split at hh
  ·rename_i te hte
   have hti:=hx.tiOk hte
   split at hh
   ·rename_i z hz
    obtain ⟨b1,hh⟩:=zac hh
    obtain ⟨b2,hh⟩:=zac hh
    have b1:=zay b1
    have b2:=zbh b2
    rw[za9] at b1
    split at hh
    ·rename_i l hl
     cases hh
     have hzp:=hti.zero_plain hz
     obtain ⟨r1,r2⟩:=zee (z:=z) (k*te.size) (by rw[b1];exact zjx _ _)
     have hzr:LR E (cellsOf z) (cellsOf z):=(VR.of_plain (E:=E) hzp).cells
     have hL:LR E (repL (cellsOf z) k) ((Array.range (k*te.size)).map (z.cells[· % z.cells.size]!)).toList:=F2.of_get (by rw[zcz,r1,b1]) fun j u u' hj hj'=>by
      have hlt:j<k*te.size:=by
       have:=(xC.1 hj).1
       rw[zcz,b1] at this;exact this
      rw[zjy _ _ _ (by rw[b1];exact hlt)] at hj
      rw[Array.getElem?_toList,r2 j hlt] at hj'
      obtain ⟨u2,hu2,hr2⟩:=F2.get hzr hj
      rw[hj'] at hu2;cases hu2;exact hr2
     obtain ⟨r',hr',hrr⟩:=zhh _ hps hL hl
     have hf:=ze9 (fun i=>some (i*te.size,te.size)) (parts.toList.map fun p=>(p.1,a.eval p.2)) ((Array.range (k*te.size)).map (z.cells[· % z.cells.size]!))
     rw[hr'] at hf
     obtain ⟨arr,ha,hb⟩:=map_some hf
     have harr:arr=⟨r'⟩:=Array.toList_inj.1 (by simpa using hb)
     subst harr
     refine ⟨_,_,.value (.slice (some ⟨w.heap.size,0,none⟩) k k),?_,Stp.newList H e hrr,.inl ⟨_,rfl,VR.slice (o:=0) (En.add_self _ _ _) (.inl ⟨by omega,by omega⟩)⟩⟩
     unfold execOp
     rw[ho]
     simp only[qT,Instr.buildSlice,hi.run_under w,hu,qS,hti.run_size w,qW (show ¬ k*te.size > 2 ^ 24 by omega),qU,zfc]
     by_cases h0:k*te.size=0
     ·have e0:(Array.range (k*te.size)).map (fun y=>(#[]:Array Value)[y % (#[]:Array Value).size]!)=(Array.range (k*te.size)).map (z.cells[· % z.cells.size]!):=by rw[h0];simp
      rw[qX h0]
      simp only[qT,qU,qS,e0,ha,newRow,run_newObj,World.alloc_eq]
     ·rw[qW h0]
      simp only[qT,qU,qS,hti.run_zero w hz,ha,newRow,run_newObj,World.alloc_eq]
    ·cases hh
   ·cases hh
  ·cases hh
 ·cases hh
theorem zg0 (hx:x.Ok){ty:TypeId}{p q:Operand}(ho:o.op = .makeSlice ty p q)(ht:TR E n t a.tmps)(hg:GOk x.ng E)(H:HR E h w)
  (hh:xmakeSlice x.ti (ev x.ng t) h ty p q=some (v,h')):Ran x.P E h w a o v h':=by
 unfold xmakeSlice at hh
 split at hh
 ·rename_i e l c hu hp hq
  obtain ⟨i,hi,hu⟩:=zao hx hu
  have e1:=VR.plain_inv rfl (zae ht hg hp)
  have e2:=VR.plain_inv rfl (zae ht hg hq)
  split at hh
  ·rename_i te hte
   have hti:=hx.tiOk hte
   split at hh
   ·rename_i z hz
    obtain ⟨b1,hh⟩:=zac hh
    obtain ⟨b2,hh⟩:=zac hh
    obtain ⟨b3,hh⟩:=zac hh
    obtain ⟨b4,hh⟩:=zac hh
    cases hh
    have b1:=zay b1
    have b2:=zbh b2
    have b3:=zbh b3
    have b4:=zbh b4
    rw[za9] at b1
    have hzp:=hti.zero_plain hz
    obtain ⟨r1,r2⟩:=zee (z:=z) (c*te.size) (by rw[b1];exact zjx _ _)
    have hzr:LR E (cellsOf z) (cellsOf z):=(VR.of_plain (E:=E) hzp).cells
    have hst:=Stp.newRow H { elem:=e,size:=c*te.size,ro:=false,dflt:=cellsOf z,cells := .leaf } ((Array.range (c*te.size)).map (z.cells[· % z.cells.size]!)) (by simp) fun j u hu=>by
     rw[Bk.at_eq] at hu
     by_cases hj:j<c*te.size
     ·rw[qX hj] at hu
      change (cellsOf z)[j % (cellsOf z).length]? = some u at hu
      rw[r2 j hj]
      exact F2.get hzr hu
     ·rw[qW hj] at hu;cases hu
    refine ⟨_,_,.value (.slice (some ⟨w.heap.size,0,none⟩) l c),?_,hst,.inl ⟨_,rfl,VR.slice (o:=0) (En.add_self _ _ _) (.inl ⟨by omega,by omega⟩)⟩⟩
    unfold execOp
    rw[ho]
    obtain ⟨inf,hinf,hby,_⟩:=hti.run_info w
    have wl:IntKind.i64.wrap (Int.ofNat l)=(l:Int):=by rw[IntKind.wrap_i64];simp only[Int.ofNat_eq_natCast];omega
    have wc:IntKind.i64.wrap (Int.ofNat c)=(c:Int):=by rw[IntKind.wrap_i64];simp only[Int.ofNat_eq_natCast];omega
    have hmul:(te.bytes:Int)*(c:Int)≤281474976710656:=by
     have h1:te.bytes*c≤281474976710656:=Nat.le_trans (Nat.mul_le_mul b4 b3) (by omega)
     have h2:=Int.ofNat_le.2 h1
     rw[Int.natCast_mul] at h2
     exact h2
    have hp:(2:Int) ^ 48=281474976710656:=rfl
    have hc1:((decide ((c:Int)<0) || decide ((te.bytes:Int)*(c:Int) > 2 ^ 48)) || decide ((l:Int)<0) || decide ((l:Int) > (c:Int)))=false:=by
     rw[hp,decide_eq_false (by omega),decide_eq_false (by omega),decide_eq_false (by omega),decide_eq_false (by omega)];rfl
    simp only[qT,Instr.makeSlice,hi.run_under w,hu,qS,e1,e2,asInt,asIntOf,qU,hinf,hby,wl,wc,hc1,Bool.false_eq_true,if_false,run_askRoom,Int.toNat_natCast,hti.run_size w]
    by_cases h0:c*te.size=0
    ·have e0:(Array.range (c*te.size)).map (fun y=>(#[]:Array Value)[y % (#[]:Array Value).size]!)=(Array.range (c*te.size)).map (z.cells[· % z.cells.size]!):=by rw[h0];simp
     rw[qX h0]
     simp only[qT,qU,qS,e0,newRow,run_newObj,World.alloc_eq]
    ·rw[qW h0]
     simp only[qT,qU,qS,hti.run_zero w hz,newRow,run_newObj,World.alloc_eq]
   ·cases hh
  ·cases hh
 ·cases hh
end
def notInt (d:TypeDesc):Prop:=(∃ e,d = .slice e)∨d = .string
section
variable {P:Program}{w:World}{t t2 e ty:TypeId}{it i2 te:TI}{x:Value}{n len cap:Nat}{news:List Value}{tl:List TypeId}
theorem zc0 (ht:TIOk P t it)(hu:it.under = .slice e)(he:TIOk P e te)(h2:TIOk P t2 i2)(hn:notInt i2.under)(hlen:(Builtin.lenOf x).run P w = .ok n w)
  (hf:(Builtin.firstCells te.size n x).run P w = .ok ⟨news⟩ w) (hroom:len+n≤cap) (b o:Nat) {w':World} (hst:(storeCells ⟨b,o+len*te.size,none⟩ news).run P w = .ok () w') :
  (Builtin.append_ ⟨t :: t2 :: tl⟩ ty #[.slice (some ⟨b,o,none⟩) len cap,x]).run P w = .ok (.slice (some ⟨b,o,none⟩) (len+n) cap) w':=by
 rcases hn with ⟨e2,hd⟩|hd <;>
  simp only[Builtin.append_,xA,List.getElem?_cons_zero,List.getElem?_cons_succ,qT,ht.run_under w,hu,qS,he.run_size w,h2.run_under w,hd,qU,Bool.false_eq_true,if_false,hlen,qX hroom,Bool.not_false,if_true,hf,zb5,hst]
theorem zhj (ht:TIOk P t it)(hu:it.under = .slice e)(he:TIOk P e te)(h2:TIOk P t2 i2)(hn:notInt i2.under)(hlen:(Builtin.lenOf x).run P w = .ok 0 w)
  (hf:(Builtin.firstCells te.size 0 x).run P w = .ok ⟨[]⟩ w) :
  (Builtin.append_ ⟨t :: t2 :: tl⟩ ty #[.slice none 0 0,x]).run P w = .ok (.slice none 0 0) w:=by
 rcases hn with ⟨e2,hd⟩|hd <;>
  simp only[Builtin.append_,xA,List.getElem?_cons_zero,List.getElem?_cons_succ,qT,ht.run_under w,hu,qS,he.run_size w,h2.run_under w,hd,qU,Bool.false_eq_true,if_false,hlen,Nat.add_zero,Nat.le_refl,if_true,Bool.not_false,hf]
theorem zb7 (ht:TIOk P t it)(hu:it.under = .slice e)(he:TIOk P e te)(h2:TIOk P t2 i2)(hn:notInt i2.under)(hlen:(Builtin.lenOf x).run P w = .ok n w)
  {z:Value} (hz:te.zero=some z) {olds:List Value} {s:Value} {base:Option Addr} (hs:s = .slice base len cap) (hg:(Builtin.firstCells te.size len s).run P w.drew = .ok ⟨olds⟩ w.drew)
  (hf:(Builtin.firstCells te.size n x).run P w.drew = .ok ⟨news⟩ w.drew) (hroom:cap<len+n) (hmax:(len+n)*te.bytes≤140737488355328) (h63:len+n≤4611686018427387904) :
  (Builtin.append_ ⟨t :: t2 :: tl⟩ ty #[s,x]).run P w = .ok (.slice (some ⟨w.heap.size,0,none⟩) (len+n) (grownCap w (len+n) cap e))
   (w.drew.alloc (.cells (⟨olds⟩++⟨news⟩++Builtin.zeroCells z.cells (grownCap w (len+n) cap e - (len+n))) e)):=by
 subst hs
 obtain ⟨inf,hinf,hby,_⟩:=he.run_info w
 obtain ⟨inf2,hinf2,_,_⟩:=he.run_info w.drew
 have hfit:=growslice_fits (bytes:=te.bytes) hroom hmax
 have hc1:¬ ((((len+n:Nat):Int) > IntKind.i64.max)∧(False∨te.bytes=0)):=by
  have:IntKind.i64.max=9223372036854775807:=rfl
  rw[this];omega
 have hc2:¬ Builtin.nextslicecap (len+n) cap*te.bytes > 2 ^ 48:=by
  have:(2:Nat) ^ 48=281474976710656:=rfl
  rw[this];omega
 have hq:(choose (.appendCap (len+n) cap e)).run P w = .ok (grownCap w (len+n) cap e) w.drew:=rfl
 rcases hn with ⟨e2,hd⟩|hd <;>
  simp only[Builtin.append_,xA,List.getElem?_cons_zero,List.getElem?_cons_succ,qT,ht.run_under w,hu,qS,he.run_size w,h2.run_under w,hd,qU,Bool.false_eq_true,if_false,hlen,
   qW (show ¬ len+n≤cap by omega),hinf,hby,qW hc1,qW hc2,hq,hinf2,run_askRoom,hg,Bool.not_false,if_true,hf,he.run_zero w.drew hz,newRow,run_newObj,World.alloc_eq,World.size_drew]
end
def bytesL (s:ByteArray):List Value:=s.data.toList.map fun c => .int .u8 c.toNat
def srcOf (h:Hp)(sz:Nat):Value→Option (List Value×Nat)
 | .slice none _ _=>some ([],0)
 | .slice (some ⟨b,o,none⟩) n _=>cond (Nat.beq n 0) (some ([],0)) (match h.blk b with
  |some B=>match B.readN (n*sz) o with
   |some l=>some (l,n)
   |none=>none
  |none=>none)
 | .string s=>cond (Nat.beq sz 1) (some (bytesL s,s.size)) none
 |_=>none
theorem zgm {E:En}(s:ByteArray):LR E (bytesL s) (bytesL s):=F2.refl _ fun a ha=>by
 unfold bytesL at ha
 obtain ⟨c,_,rfl⟩:=List.mem_map.1 ha
 exact .plain rfl
theorem zf3 (s:ByteArray):(s.extract 0 s.size).data=s.data:=by
 rw[ByteArray.extract_zero_size]
theorem zhk {P:Program}{E:En}{h:Hp}{w:World}(H:HR E h w){sz n:Nat}{v v':Value}{l:List Value}(hs:srcOf h sz v=some (l,n))(hv:VR E v v') :
  (∀ w2,(Builtin.lenOf v').run P w2 = .ok n w2)∧∃ l',LR E l l'∧l'.length=n*sz∧∀ w2,w2.heap=w.heap→(Builtin.firstCells sz n v').run P w2 = .ok ⟨l'⟩ w2:=by
 unfold srcOf at hs
 split at hs
 ·rename_i k c
  cases hs
  obtain ⟨_,_,rfl⟩:=hv.snil_inv
  exact ⟨fun _=>rfl,[],.nil,by simp,fun _ _=>rfl⟩
 ·rename_i b o k c
  obtain ⟨e,c',_,he,rfl,_⟩:=hv.slice_inv
  rw[zb6] at hs
  by_cases hk:k=0
  ·rw[qX hk] at hs
   cases hs;subst hk
   refine ⟨fun _=>rfl,[],.nil,by simp,fun w2 _=>?_⟩
   simp[Builtin.firstCells,loadCells,loadCellsFrom]
  ·rw[qW hk] at hs
   split at hs
   ·rename_i B hB
    split at hs
    ·rename_i l2 hl
     injection hs with hs;injection hs with h1 h2;subst h1;subst h2
     obtain ⟨e2,l',he2,hlr,hlen,hat⟩:=H.read hB hl
     rw[he] at he2;injection he2 with he2;subst he2
     refine ⟨fun _=>rfl,l',hlr,hlen,fun w2 hw2=>?_⟩
     refine run_firstCells_some (P:=P) w2 sz k ⟨e.blk,o+e.d,none⟩ k c' l' hlen fun j u hu=>?_
     rw[zb5]
     have:=hat j u hu
     unfold World.cell? at *
     rw[hw2];exact this
    ·cases hs
   ·cases hs
 ·rename_i s
  obtain ⟨b1,hs⟩:=zac hs
  cases hs
  have:=VR.plain_inv rfl hv;subst this
  have b1:=zay b1;subst b1
  refine ⟨fun _=>rfl,bytesL s,zgm s,(by show (s.data.toList.map _).length=s.data.size*1;simp),fun w2 _=>?_⟩
  show Result.ok _ w2=_
  congr 1
  apply Array.toList_inj.1
  rw[zf3]
  simp[bytesL]
 ·cases hs
theorem zg1 (z:Value)(n:Nat):(Builtin.zeroCells z.cells n).size=n*(cellsOf z).length:=by
 simp[Builtin.zeroCells, ← zbf]
theorem zgn (w:World)(need old:Nat)(e:TypeId):need≤grownCap w need old e:=by
 unfold grownCap Question.cut
 exact Nat.le_add_right _ _
theorem Stp.grow {E:En}{h:Hp}{w:World}(H:HR E h w)(e:TypeId){l l':List Value}(hl:LR E l l')(cs:Array Value)(sz need cap:Nat)(hneed:l'.length=need*sz)(hcap:need≤cap)(hsz:cs.size=cap*sz)
  (hcs:∀ (j:Nat) u,l'[j]? = some u→cs[j]? = some u) (hs:sz<65536) (hs0:0<sz) :
  Stp E (E.add h.next ⟨w.heap.size,0,cs.size⟩) h (h.new (.row (newBk e l))) w (w.drew.alloc (.cells cs e)) ∧
   VR (E.add h.next ⟨w.heap.size,0,cs.size⟩) (.slice (some ⟨h.next,0,none⟩) need (2*(need*65536+sz)+1)) (.slice (some ⟨w.heap.size,0,none⟩) need cap):=by
 refine ⟨(Stp.drew1 H).trans ?_,VR.slice (o:=0) (En.add_self _ _ _) (.inr ⟨by omega,?_,?_,by omega⟩)⟩
 ·refine Stp.newRow H.drew (newBk e l) cs (by show len l≤_;rw[za9,hl.length,hneed,hsz];exact Nat.mul_le_mul_right _ hcap) fun j v hv=>?_
  rw[zcm] at hv
  obtain ⟨u,hu,hr⟩:=F2.get hl hv
  exact ⟨u,hcs j u hu,hr⟩
 ·have:(2*(need*65536+sz)+1) / 131072=need:=by omega
  rw[this];exact hcap
 ·have:(2*(need*65536+sz)+1) / 2 % 65536=sz:=by omega
  rw[this];show 0+cap*sz=cs.size;omega
def okSrc:Option TypeDesc→Bool
 |some (.slice _)|some .string=>true
 |_=>false
theorem zm1 {x:X}(hx:x.Ok){t:TypeId}(h:okSrc (undT x.ti t)=true):∃ i,TIOk x.P t i∧notInt i.under:=by
 unfold okSrc at h
 split at h
 ·rename_i e hu
  obtain ⟨i,hi,hu⟩:=zao hx hu
  exact ⟨i,hi,.inl ⟨e,hu⟩⟩
 ·rename_i hu
  obtain ⟨i,hi,hu⟩:=zao hx hu
  exact ⟨i,hi,.inr hu⟩
 ·cases h
def small (need:Nat)(te:TI):Bool:=cond (Nat.ble need 1073741824) (cond (Nat.ble te.bytes 65536) (cond (Nat.blt te.size 65536) (Nat.blt 0 te.size) false) false) false
theorem zhl {need:Nat}{te:TI}(h:small need te=true):need≤1073741824∧te.bytes≤65536∧(te.size<65536∧0<te.size)∧need*te.bytes≤140737488355328∧need≤4611686018427387904:=by
 unfold small at h
 cases h1:Nat.ble need 1073741824 <;> rw[h1] at h
 ·cases h
 ·cases h2:Nat.ble te.bytes 65536 <;> rw[h2] at h
  ·cases h
  ·cases h3:Nat.blt te.size 65536 <;> rw[h3] at h
   ·cases h
   ·have a1:=zbh h1
    have a2:=zbh h2
    have a3:=zcc h3
    exact ⟨a1,a2,⟨a3,zcc h⟩,Nat.le_trans (Nat.mul_le_mul a1 a2) (by omega),by omega⟩
def appTo (h:Hp)(e:TypeId)(te:TI)(b o ln c:Nat)(l:List Value)(n:Nat):Option (Value×Hp) :=
 cond (Nat.ble (ln+n) (capLo c))
  (cond (Nat.beq n 0) (some (.slice (some ⟨b,o,none⟩) (ln+n) c,h)) (match h.blk b with
   |some B=>cond B.ro none (cond (Nat.ble (o+ln*te.size+len l) B.size) (cond (allB oneB l) (some (.slice (some ⟨b,o,none⟩) (ln+n) c,h.put b (.row (B.write (o+ln*te.size) l)))) none) none)
   |none=>none))
  (match te.zero with
   |some z=>cond (Nat.beq (len (cellsOf z)) te.size) (cond (small (ln+n) te)
     (cond (Nat.beq (c % 2) 0)
      (cond (Nat.beq ln 0) (some (.slice (some ⟨h.next,0,none⟩) n (2*(n*65536+te.size)+1),h.new (.row (newBk e l))))
       (match h.blk b with
        |some B=>match B.readN (ln*te.size) o with
         |some old=>some (.slice (some ⟨h.next,0,none⟩) (ln+n) (2*((ln+n)*65536+te.size)+1),h.new (.row (newBk e (app old l))))
         |none=>none
        |none=>none))
      (match h.blk b with
       |some B=>cond B.ro none (cond (Nat.beq te.size (c / 2 % 65536)) (cond (Nat.beq B.elem e) (cond (allB oneB l) (match B.readN (ln*te.size) o with
        |some old=>some (.slice (some ⟨h.next,0,none⟩) (ln+n) (2*((ln+n)*65536+te.size)+1),(h.kill b).new (.row (newBk e (app old l))))
        |none=>none) none) none) none)
       |none=>none)) none) none
   |none=>none)
def xappend (ti:Tr TI)(f:Operand→Option Value)(h:Hp)(c:Call):Option (Value×Hp) :=
 match c.args,c.argTypes with
 |⟨[s,y]⟩,⟨t :: t2 :: _⟩=>match undT ti t with
  |some (TypeDesc.slice e)=>match ti.get e,f s,f y with
   |some te,some sv,some yv=>cond (okSrc (undT ti t2)) (match srcOf h te.size yv with
    |some (l,n)=>match sv with
     | .slice none 0 0=>cond (Nat.beq n 0) (some (.slice none 0 0,h)) (match te.zero with
      |some z=>cond (Nat.beq (len (cellsOf z)) te.size) (cond (small n te) (some (.slice (some ⟨h.next,0,none⟩) n (2*(n*65536+te.size)+1),h.new (.row (newBk e l)))) none) none
      |none=>none)
     | .slice (some ⟨b,o,none⟩) ln cp=>appTo h e te b o ln cp l n
     |_=>none
    |none=>none) none
   |_,_,_=>none
  |_=>none
 |_,_=>none
section
variable {x:X}{E:En}{n:Nat}{t:Tr Value}{a:Act}{o:Oper}{v:Value}{h h':Hp}{w:World}
theorem zxn {l m r:List Value}(j:Nat)(u:Value)(hj:(l++m)[j]? = some u):((⟨l⟩:Array Value)++⟨m⟩++⟨r⟩)[j]? = some u:=by
 have hlt:=(xC.1 hj).1
 have:((⟨l⟩:Array Value)++⟨m⟩++⟨r⟩)=⟨l++m++r⟩:=by simp
 rw[this,xA,List.getElem?_append_left hlt];exact hj
theorem zef {k cap:Nat}{e:TypeId}{te:TI}{z:Value}{l l' olds olds':List Value}(H:HR E h w)(hl:LR E l l')(ho':LR E olds olds')(hz:(cellsOf z).length=te.size)(hs:te.size<65536∧0<te.size)
  (h1:olds'.length+l'.length=k*te.size) (hcap:k≤cap) :
  Stp E (E.add h.next ⟨w.heap.size,0,cap*te.size⟩) h (h.new (.row (newBk e (olds++l)))) w (w.drew.alloc (.cells (⟨olds'⟩++⟨l'⟩++Builtin.zeroCells z.cells (cap - k)) e)) ∧
   VR (E.add h.next ⟨w.heap.size,0,cap*te.size⟩) (.slice (some ⟨h.next,0,none⟩) k (2*(k*65536+te.size)+1)) (.slice (some ⟨w.heap.size,0,none⟩) k cap):=by
 have hzc:(Builtin.zeroCells z.cells (cap - k)).size=(cap - k)*te.size:=by rw[zg1 z _,hz]
 have hsz:((⟨olds'⟩:Array Value)++⟨l'⟩++Builtin.zeroCells z.cells (cap - k)).size=cap*te.size:=by
  simp only[Array.size_append,List.size_toArray,hzc,h1, ← Nat.add_mul]
  congr 1;omega
 have:=Stp.grow H e (ho'.append hl) ((⟨olds'⟩:Array Value)++⟨l'⟩++Builtin.zeroCells z.cells (cap - k)) te.size k cap (by rw[List.length_append,h1]) hcap hsz (fun j u hj=>zxn (r:=(Builtin.zeroCells z.cells (cap - k)).toList) j u hj) hs.1 hs.2
 rw[hsz] at this
 exact this
end
section
variable {E:En}{h:Hp}{w w':World}
theorem Stp.fork (H:HR E h w){b o q:Nat}{B:Bk}{e:Em}{old l l':List Value}{cs:Array Value}{fr:Nat×Nat}(hb:h.blk b=some B)(hro:B.ro=false)(he:E b=some e)
  (h2:cs.size=e.d+e.m) (h4:CellsR E B e.d cs) (h5:∀ j,j<cs.size→¬ (fr.1≤j∧j<fr.2))
  (hold:∀ (i:Nat) v,old[i]? = some v→B.at (o+i)=some v) (hq:old.length=q) (hl:LR E l l') (hm:o+q+l.length≤e.m) (W:Wrote w w' e.blk (o+q+e.d) l' cs B.elem fr) :
  Stp E (E.add h.next ⟨e.blk,e.d+o,e.m - o⟩) h ((h.kill b).new (.row (newBk B.elem (old++l)))) w w':=by
 obtain ⟨w1,w2,w3,w4,w5,cs',w6,w7,w8⟩:=W
 have hbo:=Hp.blk_some.1 hb
 have H1:HR E (h.kill b) w':=by
  refine ⟨(H.kill b).fresh,fun j oj hj=>?_,(H.kill b).inj⟩
  rw[Hp.ob_kill] at hj
  by_cases hjb:j=b
  ·rw[qX hjb] at hj;cases hj
  ·rw[qW hjb] at hj
   obtain ⟨ej,hej,hob⟩:=H.obj j oj hj
   exact ⟨ej,hej,hob.mono (En.le_refl E) (w5 _ fun heq=>hjb (H.inj j b _ _ _ _ hj hbo hej he heq))⟩
 have hle:E.le (E.add h.next ⟨e.blk,e.d+o,e.m - o⟩):=H.le_new _
 have H2:=H1.newAt (.row (newBk B.elem (old++l))) ⟨e.blk,e.d+o,e.m - o⟩ (fun j oj ej hj hej heq=>by
  rw[Hp.ob_kill] at hj
  by_cases hjb:j=b
  ·rw[qX hjb] at hj;cases hj
  ·rw[qW hjb] at hj
   exact hjb (H.inj j b _ _ _ _ hj hbo hej he heq)) ⟨cs',fr,w6,by show cs'.size=e.d+o+(e.m - o);omega,by show len (old++l)≤e.m - o;rw[za9,List.length_append];omega,fun j v hv=>?_,fun _=>by rw[w7];exact h5,fun h=>by cases h⟩
 ·refine ⟨hle,H2,w1,w2,w3,by omega,fun k hk hni=>?_,fun k hk hni=>?_⟩
  ·have hne:k≠e.blk:=fun heq=>hni ⟨b,_,e,hbo,by simp[Ob.wr,hro],he,heq.symm⟩
   refine ⟨w5 k hne,?_⟩
   rintro ⟨j,oj,ej,j1,j2,j3,j4⟩
   rw[Hp.ob_new] at j1
   by_cases hjn:j=(h.kill b).next
   ·rw[hjn] at j3
    change (E.add h.next _) h.next=some ej at j3
    rw[En.add_self] at j3;cases j3;exact hne j4.symm
   ·rw[qW hjn,Hp.ob_kill] at j1
    by_cases hjb:j=b
    ·rw[qX hjb] at j1;cases j1
    ·rw[qW hjb] at j1
     rw[En.add_ne E _ (show j≠h.next from hjn)] at j3
     exact hni ⟨j,oj,ej,j1,j2,j3,j4⟩
  ·have hne:k≠e.blk:=fun heq=>hni ⟨b,_,e,hbo,he,heq.symm⟩
   rintro ⟨j,oj,ej,j1,j3,j4⟩
   rw[Hp.ob_new] at j1
   by_cases hjn:j=(h.kill b).next
   ·rw[hjn] at j3
    change (E.add h.next _) h.next=some ej at j3
    rw[En.add_self] at j3;cases j3;exact hne j4.symm
   ·rw[qW hjn,Hp.ob_kill] at j1
    by_cases hjb:j=b
    ·rw[qX hjb] at j1;cases j1
    ·rw[qW hjb] at j1
     rw[En.add_ne E _ (show j≠h.next from hjn)] at j3
     exact hni ⟨j,oj,ej,j1,j3,j4⟩
 ·rw[zcm] at hv
  show ∃ u,cs'[e.d+o+j]? = some u∧_
  rw[w8, ← hl.length]
  by_cases hj:j<old.length
  ·rw[List.getElem?_append_left hj] at hv
   rw[qW (by omega)]
   obtain ⟨u,hu,hr⟩:=h4 _ _ (hold j v hv)
   exact ⟨u,by rw[show e.d+o+j=e.d+(o+j) by omega];exact hu,hr.mono hle⟩
  ·rw[List.getElem?_append_right (by omega)] at hv
   have hlt:=(xC.1 hv).1
   rw[qX (by omega),show e.d+o+j - (o+q+e.d)=j - old.length by omega]
   obtain ⟨u,hu,hr⟩:=F2.get hl hv
   exact ⟨u,hu,hr.mono hle⟩
end
section
variable {x:X}{E:En}{h h':Hp}{w:World}{v:Value}{t t2 e ty:TypeId}{it i2 te:TI}{tl:List TypeId}
theorem zhm {l l':List Value}(hl:LR E l l')(h1:allB oneB l=true):∀ u∈l',u.oneCell'=true:=fun u hu=>by
 obtain ⟨i,hi⟩:=List.getElem?_of_mem hu
 have hi':i<l.length:=by rw[hl.length];exact (xC.1 hi).1
 obtain ⟨u',hu',hr⟩:=F2.get hl (List.getElem?_eq_getElem hi')
 rw[hi] at hu';cases hu'
 rw[hr.one, ← zjw];exact (zag _ _).1 h1 _ (List.getElem_mem hi')
theorem zm2 (ht:TIOk x.P t it)(hu:it.under = .slice e)(he:TIOk x.P e te)(h2:TIOk x.P t2 i2)(hn:notInt i2.under)(H:HR E h w)
  {b o ln c n:Nat} {l:List Value} {sv' yv yv':Value} (hs:VR E (.slice (some ⟨b,o,none⟩) ln c) sv') (hy:VR E yv yv') (hsrc:srcOf h te.size yv=some (l,n))
  (hh:appTo h e te b o ln c l n=some (v,h')) :
  ∃ E' w' u,(Builtin.append_ ⟨t :: t2 :: tl⟩ ty #[sv',yv']).run x.P w = .ok u w'∧Stp E E' h h' w w'∧VR E' v u:=by
 obtain ⟨em,c',_,hem,rfl,hcap⟩:=hs.slice_inv
 change CapR em o c c' at hcap
 change E b=some em at hem
 obtain ⟨hlen,l',hl,hll,hfirst⟩:=zhk (P:=x.P) H hsrc hy
 have hclo:=zoj hcap
 unfold appTo at hh
 cases hroom:Nat.ble (ln+n) (capLo c) with
 |true =>
  rw[hroom] at hh
  simp only[cond_true] at hh
  have hroom:=zbh hroom
  rw[zb6] at hh
  by_cases hn0:n=0
  ·rw[qX hn0] at hh
   cases hh
   subst hn0
   have hl0:l'=[]:=List.eq_nil_of_length_eq_zero (by rw[hll,Nat.zero_mul])
   subst hl0
   refine ⟨E,w,_,zc0 ht hu he h2 hn (hlen w) (hfirst w rfl) (by omega) em.blk (o+em.d) (w':=w) rfl,Stp.refl H,?_⟩
   exact VR.slice hem hcap
  ·rw[qW hn0] at hh
   split at hh
   ·rename_i B hB
    obtain ⟨b1,hh⟩:=zdc hh
    obtain ⟨b2,hh⟩:=zac hh
    obtain ⟨b3,hh⟩:=zac hh
    cases hh
    have b2:=zbh b2
    rw[za9] at b2
    obtain ⟨w',hr,hst⟩:=HR.store (P:=x.P) H hB b1 hem (j:=o+ln*te.size) (by omega) hl (fun u hu=>by rw[← zjw];exact (zag _ _).1 b3 u hu)
    refine ⟨E,w',_,zc0 ht hu he h2 hn (hlen w) (hfirst w rfl) (by omega) em.blk (o+em.d) (w':=w') ?_,hst,VR.slice hem hcap⟩
    rw[show o+em.d+ln*te.size=o+ln*te.size+em.d by omega];exact hr
   ·cases hh
 |false =>
  rw[hroom] at hh
  simp only[cond_false] at hh
  have hroom:¬ ln+n≤capLo c:=fun hc=>by rw[Nat.ble_eq_true_of_le hc] at hroom;cases hroom
  split at hh
  ·rename_i z hz
   obtain ⟨b1,hh⟩:=zac hh
   obtain ⟨b2,hh⟩:=zac hh
   have b1:=zay b1
   rw[za9] at b1
   obtain ⟨s1,s2,s3,s4,s5⟩:=zhl b2
   rw[zb6] at hh
   have hcapge:=zgn w (ln+n) c' e
   by_cases hc2:c % 2=0
   ·rw[qX hc2] at hh
    have hc':c'=c / 2:=by rcases hcap with ⟨_,h⟩|⟨h,_⟩ <;> omega
    have hlc:capLo c=c / 2:=by unfold capLo;rw[hc2];rfl
    rw[zb6] at hh
    by_cases hl0:ln=0
    ·rw[qX hl0] at hh
     cases hh
     subst hl0
     obtain ⟨g1,g2⟩:=zef (e:=e) (te:=te) (k:=0+n) (cap:=grownCap w (0+n) c' e) (z:=z) H hl (olds:=[]) (olds':=[]) .nil b1 s3 (by simp[hll]) hcapge
     have hr:=zb7 (tl:=tl) (ty:=ty) ht hu he h2 hn (hlen w) hz (olds:=[]) (cap:=c') (len:=0) (base:=some ⟨em.blk,o+em.d,none⟩) rfl (by simp[Builtin.firstCells,loadCells,loadCellsFrom]) (hfirst w.drew rfl) (by omega) s4 s5
     simp only[List.nil_append,Nat.zero_add] at g1 g2 hr
     exact ⟨_,_,_,hr,g1,g2⟩
    ·rw[qW hl0] at hh
     split at hh
     ·rename_i B hB
      split at hh
      ·rename_i old hold
       cases hh
       obtain ⟨e2,old',he2,holr,holen,hat⟩:=H.read hB hold
       rw[hem] at he2;cases he2
       obtain ⟨g1,g2⟩:=zef (e:=e) (te:=te) (k:=ln+n) (cap:=grownCap w (ln+n) c' e) (z:=z) H hl holr b1 s3 (by rw[holen,hll, ← Nat.add_mul]) hcapge
       rw[app_eq]
       refine ⟨_,_,_,zb7 ht hu he h2 hn (hlen w) hz (olds:=old') rfl ?_ (hfirst w.drew rfl) (by omega) s4 s5,g1,g2⟩
       exact run_firstCells_some (P:=x.P) w.drew te.size ln ⟨em.blk,o+em.d,none⟩ ln c' old' holen fun j u hu=>zk9 (w:=w.drew) hat j u hu
      ·cases hh
     ·cases hh
   ·rw[qW hc2] at hh
    split at hh
    ·rename_i B hB
     obtain ⟨b3,hh⟩:=zdc hh
     obtain ⟨b4,hh⟩:=zac hh
     obtain ⟨b5,hh⟩:=zac hh
     obtain ⟨b6,hh⟩:=zac hh
     have b4:=zay b4
     have b5:=zay b5
     split at hh
     ·rename_i old hold
      cases hh
      rw[app_eq]
      obtain ⟨e2,old',he2,holr,holen,hat⟩:=H.read hB hold
      rw[hem] at he2;cases he2
      obtain ⟨hol,holat⟩:=Bk.readN_sound hold
      rcases hcap with ⟨hbad,_⟩|⟨_,hc3,hc4,hc5⟩
      ·omega
      ·rw[← b4] at hc4
       by_cases hfit:ln+n≤c'
       ·obtain ⟨em',cs,fr,hem',r1,r2,r3,r4,r5⟩:=H.row hB
        rw[hem] at hem';cases hem'
        have hmul:(ln+n)*te.size≤c'*te.size:=Nat.mul_le_mul_right _ hfit
        rw[Nat.add_mul] at hmul
        have hll2:l.length=n*te.size:=by rw[hl.length,hll]
        obtain ⟨w',hr,hW⟩:=zc9 (P:=x.P) em.blk (o+ln*te.size+em.d) B.elem fr l' 0 cs w r1 (by rw[hll];omega) (r5 b3) (zhm hl b6)
        have hst:=Stp.fork H hB b3 hem r2 r4 (r5 b3) (o:=o) holat hol hl (by omega) hW
        rw[b5] at hst
        refine ⟨_,w',_,zc0 ht hu he h2 hn (hlen w) (hfirst w rfl) hfit em.blk (o+em.d) (w':=w') ?_,hst,?_⟩
        ·rw[show o+em.d+ln*te.size=o+ln*te.size+em.d by omega];exact hr
        ·have:=VR.slice (E:=E.add h.next ⟨em.blk,em.d+o,em.m - o⟩) (b:=h.next) (o:=0) (n:=ln+n) (c:=2*((ln+n)*65536+te.size)+1) (c':=c') (En.add_self _ _ _) (.inr ⟨by omega,by
          rw[show (2*((ln+n)*65536+te.size)+1) / 131072=ln+n by omega];exact hfit,by
          rw[show (2*((ln+n)*65536+te.size)+1) / 2 % 65536=te.size by omega];show 0+c'*te.size=em.m - o;omega,by omega⟩)
         rw[show (0:Nat)+(em.d+o)=o+em.d by omega] at this
         exact this
       ·obtain ⟨g1,g2⟩:=zef (e:=e) (te:=te) (k:=ln+n) (cap:=grownCap w (ln+n) c' e) (z:=z) (H.kill b) hl holr b1 s3 (by rw[holen,hll, ← Nat.add_mul]) hcapge
        refine ⟨_,_,_,zb7 ht hu he h2 hn (hlen w) hz (olds:=old') rfl ?_ (hfirst w.drew rfl) (by omega) s4 s5,?_,g2⟩
        ·exact run_firstCells_some (P:=x.P) w.drew te.size ln ⟨em.blk,o+em.d,none⟩ ln c' old' holen fun j u hu=>zk9 (w:=w.drew) hat j u hu
        ·refine ⟨g1.le,g1.hr,g1.os,g1.tape,g1.output,g1.size,fun k hk hni=>g1.keep k hk ?_,fun k hk hni=>g1.keep0 k hk ?_⟩
         ·rintro ⟨j,oj,ej,j1,j2,j3,j4⟩
          rw[Hp.ob_kill] at j1
          by_cases hjb:j=b
          ·rw[qX hjb] at j1;cases j1
          ·rw[qW hjb] at j1;exact hni ⟨j,oj,ej,j1,j2,j3,j4⟩
         ·rintro ⟨j,oj,ej,j1,j3,j4⟩
          rw[Hp.ob_kill] at j1
          by_cases hjb:j=b
          ·rw[qX hjb] at j1;cases j1
          ·rw[qW hjb] at j1;exact hni ⟨j,oj,ej,j1,j3,j4⟩
     ·cases hh
    ·cases hh
  ·cases hh
end
section
variable {x:X}{E:En}{n:Nat}{t:Tr Value}{a:Act}{o:Oper}{v:Value}{h h':Hp}{w:World}
theorem zjz (hx:x.Ok){c:Call}(hc:c.callee = .builtin .append)(ho:o.op = .call c)(ht:TR E n t a.tmps)(hg:GOk x.ng E)(H:HR E h w)
  (hh:xappend x.ti (ev x.ng t) h c=some (v,h')):Ran x.P E h w a o v h':=by
 obtain ⟨callee,args,tys⟩:=c
 simp only at hc;subst hc
 unfold xappend at hh
 simp only at hh
 split at hh
 ·rename_i s y ty t2 tl
  split at hh
  ·rename_i e hu
   obtain ⟨it,hit,hu⟩:=zao hx hu
   split at hh
   ·rename_i te sv yv hte hs hy
    have hto:=hx.tiOk hte
    obtain ⟨b1,hh⟩:=zac hh
    obtain ⟨i2,hi2,hn2⟩:=zm1 hx b1
    have rs:=zae ht hg hs
    have ry:=zae ht hg hy
    obtain ⟨cs,hcs⟩:=zcy (P:=x.P) (w:=w) (ρ:=a.eval) ho
    have fin:∀ {E' w' u},(Builtin.append_ ⟨ty :: t2 :: tl⟩ o.type #[a.eval s,a.eval y]).run x.P w = .ok u w'→Stp E E' h h' w w'→VR E' v u→Ran x.P E h w a o v h':=fun {E' w' u} hr hst hv =>
     ⟨E',w',.value u,by
      have hmap:Array.map a.eval ⟨[s,y]⟩=#[a.eval s,a.eval y]:=by simp
      rw[hcs,hmap]
      simp only[builtin,qT,hr,qS,qU],hst,.inl ⟨u,rfl,hv⟩⟩
    split at hh
    ·rename_i l n hsrc
     split at hh
     ·obtain ⟨_,_,e1⟩:=rs.snil_inv
      obtain ⟨hlen,l',hl,hll,hfirst⟩:=zhk (P:=x.P) H hsrc ry
      rw[zb6] at hh
      by_cases hn0:n=0
      ·rw[qX hn0] at hh
       cases hh;subst hn0
       have hl0:l'=[]:=List.eq_nil_of_length_eq_zero (by rw[hll,Nat.zero_mul])
       subst hl0
       exact fin (by rw[e1];exact zhj hit hu hto hi2 hn2 (hlen w) (hfirst w rfl)) (Stp.refl H) (.plain rfl)
      ·rw[qW hn0] at hh
       split at hh
       ·rename_i z hz
        obtain ⟨b2,hh⟩:=zac hh
        obtain ⟨b3,hh⟩:=zac hh
        cases hh
        have b2:=zay b2
        rw[za9] at b2
        obtain ⟨s1,s2,s3,s4,s5⟩:=zhl b3
        obtain ⟨g1,g2⟩:=zef (e:=e) (te:=te) (k:=0+n) (cap:=grownCap w (0+n) 0 e) (z:=z) H hl (olds:=[]) (olds':=[]) .nil b2 s3 (by simp[hll]) (zgn _ _ _ _)
        have hr:=zb7 (tl:=tl) (ty:=o.type) hit hu hto hi2 hn2 (hlen w) hz (olds:=[]) (cap:=0) (len:=0) (base:=none) rfl rfl (hfirst w.drew rfl) (by omega) (by rw[Nat.zero_add];exact s4) (by omega)
        simp only[List.nil_append,Nat.zero_add] at g1 g2 hr
        exact fin (by rw[e1];exact hr) g1 g2
       ·cases hh
     ·obtain ⟨E',w',u,hr,hst,hv⟩:=zm2 (tl:=tl) (ty:=o.type) hit hu hto hi2 hn2 H rs ry hsrc hh
      exact fin hr hst hv
     ·cases hh
    ·cases hh
   ·cases hh
  ·cases hh
 ·cases hh
end
def eqInt (a b:Int):Bool:=match a,b with
 | .ofNat m,.ofNat n=>Nat.beq m n
 | .negSucc m,.negSucc n=>Nat.beq m n
 |_,_=>false
theorem zvb {a b:Int}(h:eqInt a b=true):a=b:=by
 unfold eqInt at h
 split at h
 ·rw[zay h]
 ·rw[zay h]
 ·cases h
def eqBytes (l:List UInt8):List UInt8→Bool :=
 List.rec (motive:=fun _=>List UInt8→Bool) (fun m=>match m with | []=>true|_=>false) (fun a _ ih m=>match m with
  |b :: m=>cond (Nat.beq a.toNat b.toNat) (ih m) false
  | []=>false) l
theorem zit:∀ {l m:List UInt8},eqBytes l m=true→l=m
 | [],m,h=>by
  cases m with
  |nil=>rfl
  |cons a m=>cases h
 |a :: l,m,h=>by
  cases m with
  |nil=>cases h
  |cons b m =>
   change cond (Nat.beq a.toNat b.toNat) (eqBytes l m) false=true at h
   cases hb:Nat.beq a.toNat b.toNat with
   |false=>rw[hb] at h;cases h
   |true =>
    rw[hb] at h
    rw[UInt8.toNat_inj.1 (zay hb),zit h]
def kindNo:IntKind→Nat
 | .i8=>0 | .i16=>1 | .i32=>2 | .i64=>3 | .u8=>4 | .u16=>5 | .u32=>6 | .u64=>7
theorem zf4 {a b:IntKind}(h:Nat.beq (kindNo a) (kindNo b)=true):a=b:=by
 cases a <;> cases b <;> first|rfl|cases h
section
variable {x:X}{E:En}{n:Nat}{t:Tr Value}{a:Act}{o:Oper}{v:Value}{h h':Hp}{w:World}
theorem EsR.length {es:List (Value×Value)}{fs:List MapEntry}(h:EsR E es fs):es.length=fs.length:=F2.length h
end
section
variable {x:X}{E:En}{n:Nat}{t:Tr Value}{a:Act}{o:Oper}{v:Value}{h h':Hp}{w:World}
theorem EsR.push {es:List (Value×Value)}{fs:Array MapEntry}(h:EsR E es fs.toList){k v u:Value}(hk:plainCell k=true)(hv:VR E v u)(b:Nat):EsR E (app es [(k,v)]) (fs.push { key:=k,val:=u,born:=b }).toList:=by
 rw[app_eq,Array.toList_push]
 exact F2.append h (.cons ⟨rfl,hk,hv⟩ .nil)
end
section
variable {x:X}{E:En}{n:Nat}{t:Tr Value}{a:Act}{o:Oper}{v:Value}{h h':Hp}{w:World}
end
section
variable {x:X}{E:En}{n:Nat}{t:Tr Value}{a:Act}{o:Oper}{v:Value}{h h':Hp}{w:World}
end
section
variable {x:X}{E:En}{n:Nat}{t:Tr Value}{a:Act}{o:Oper}{v:Value}{h h':Hp}{w:World}
end
def lenB:Value→Option Nat
 | .slice _ n _=>some n
 | .string s=>some s.size
 |_=>none
def cpyOf (h:Hp)(sz n:Nat):Value→Option (List Value)
 | .slice (some ⟨b,o,none⟩) _ _=>match h.blk b with
  |some B=>B.readN (n*sz) o
  |none=>none
 | .string s=>cond (Nat.beq sz 1) (some (tak (bytesL s) n)) none
 | .slice none _ _=>some []
 |_=>none
def xcopy (ti:Tr TI)(f:Operand→Option Value)(h:Hp)(c:Call):Option (Value×Hp) :=
 match c.args,c.argTypes with
 |⟨[d,y]⟩,⟨t :: _⟩=>match undT ti t with
  |some (TypeDesc.slice e)=>match ti.get e,f d,f y with
   |some te,some (.slice (some ⟨b,o,none⟩) dl _),some yv=>match lenB yv with
    |some sl=>match cpyOf h te.size (Nat.min sl dl) yv,h.blk b with
     |some l,some B=>cond B.ro none (cond (Nat.ble (o+len l) B.size) (cond (allB oneB l) (some (.int .i64 (Int.ofNat (Nat.min sl dl)),h.put b (.row (B.write o l)))) none) none)
     |_,_=>none
    |none=>none
   |_,_,_=>none
  |_=>none
 |_,_=>none
theorem zld (s:ByteArray)(n:Nat):(s.extract 0 n).data.toList=s.data.toList.take n:=by
 rw[ByteArray.data_extract,Array.toList_extract]
 simp[List.extract]
section
variable {x:X}{E:En}{n:Nat}{t:Tr Value}{a:Act}{o:Oper}{v:Value}{h h':Hp}{w:World}
theorem zm3 {P:Program}(H:HR E h w){sz k:Nat}{v v':Value}{l:List Value}(hs:cpyOf h sz k v=some l)(hv:VR E v v') :
  ∃ l',LR E l l'∧(Builtin.firstCells sz k v').run P w = .ok ⟨l'⟩ w:=by
 unfold cpyOf at hs
 split at hs
 ·rename_i b o m c
  obtain ⟨e,c',_,he,rfl,_⟩:=hv.slice_inv
  split at hs
  ·rename_i B hB
   obtain ⟨e2,l',he2,hlr,hlen,hat⟩:=H.read hB hs
   change E b=some e at he
   rw[he] at he2;cases he2
   exact ⟨l',hlr,run_firstCells_some (P:=P) w sz k ⟨e.blk,o+e.d,none⟩ _ c' l' hlen fun j u hu=>zk9 hat j u hu⟩
  ·cases hs
 ·rename_i s
  obtain ⟨_,hs⟩:=zac hs
  cases hs
  have:=VR.plain_inv rfl hv;subst this
  rw[zk2]
  refine ⟨_,(zgm s).take k,?_⟩
  show Result.ok _ w=_
  congr 1
  apply Array.toList_inj.1
  rw[Array.toList_map,zld]
  simp[bytesL,List.map_take]
 ·cases hs
  obtain ⟨_,_,rfl⟩:=hv.snil_inv
  exact ⟨[],.nil,rfl⟩
 ·cases hs
theorem ziu {P:Program}{v v':Value}{k:Nat}(h:lenB v=some k)(hv:VR E v v'):(Builtin.lenOf v').run P w = .ok k w:=by
 unfold lenB at h
 split at h
 ·rename_i s n c
  cases h
  obtain ⟨s',c',rfl,_⟩:=hv.sl_form
  rfl
 ·cases h
  have:=VR.plain_inv rfl hv;subst this
  rfl
 ·cases h
theorem zm4 (hx:x.Ok){c:Call}(hc:c.callee = .builtin .copy)(ho:o.op = .call c)(ht:TR E n t a.tmps)(hg:GOk x.ng E)(H:HR E h w)
  (hh:xcopy x.ti (ev x.ng t) h c=some (v,h')):Ran x.P E h w a o v h':=by
 obtain ⟨callee,args,tys⟩:=c
 simp only at hc;subst hc
 unfold xcopy at hh
 simp only at hh
 split at hh
 ·rename_i d y ty tl
  split at hh
  ·rename_i e hu
   obtain ⟨it,hit,hu⟩:=zao hx hu
   split at hh
   ·rename_i te b off dl cp yv hte hd hy
    have hto:=hx.tiOk hte
    obtain ⟨em,c',_,hem,e1,_⟩:=(zae ht hg hd).slice_inv
    change E b=some em at hem
    have ry:=zae ht hg hy
    split at hh
    ·rename_i sl hsl
     split at hh
     ·rename_i l B hl hB
      obtain ⟨b1,hh⟩:=zdc hh
      obtain ⟨b2,hh⟩:=zac hh
      obtain ⟨b3,hh⟩:=zac hh
      cases hh
      have b2:=zbh b2
      rw[za9] at b2
      obtain ⟨l',hlr,hfirst⟩:=zm3 (P:=x.P) H hl ry
      obtain ⟨w',hr,hst⟩:=HR.store (P:=x.P) H hB b1 hem (j:=off) b2 hlr (fun u hu=>by rw[← zjw];exact (zag _ _).1 b3 u hu)
      refine ⟨E,w',.value (.int .i64 (Int.ofNat (Nat.min sl dl))),?_,hst,.inl ⟨_,rfl,.plain rfl⟩⟩
      obtain ⟨cs,hcs⟩:=zcy (P:=x.P) (w:=w) (ρ:=a.eval) ho
      have hmap:Array.map a.eval ⟨[d,y]⟩=#[a.eval d,a.eval y]:=by simp
      rw[hcs,hmap,e1]
      simp only[builtin,qT,Builtin.copy_,xA,List.getElem?_cons_zero,List.getElem?_cons_succ,hit.run_under w,hu,qS,ziu hsl ry,hto.run_size w,hfirst,hr,qU]
      rfl
     ·cases hh
    ·cases hh
   ·cases hh
  ·cases hh
 ·cases hh
def calleeOf (fn:Tr Func)(f:Operand→Option Value)(c:Call):Option (FuncId×Func×List Value) :=
 match c.callee with
 | .value g=>match f g,evL f c.args.toList with
  |some (.func (.func k) ⟨fi⟩ ⟨ca⟩),some as=>match fn.get k with
   |some F=>some (k,F,app fi (app as ca))
   |none=>none
  |_,_=>none
 |_=>none
theorem zik (hx:x.Ok){c:Call}{k:FuncId}{F:Func}{as:List Value}(ho:o.op = .call c)(ht:TR E n t a.tmps)(hg:GOk x.ng E)(hh:calleeOf x.fn (ev x.ng t) c=some (k,F,as)) :
  (x.P.funcs[k]? = some F∧(F.name == "runtime.NumGoroutine")=false)∧∃ as',LR E as as'∧∀ w,(execOp a.eval o).run x.P w=(callFunc k ⟨as'⟩).run x.P w:=by
 obtain ⟨callee,args,tys⟩:=c
 unfold calleeOf at hh
 simp only at hh
 split at hh
 ·rename_i g
  split at hh
  ·rename_i k' fi ca as1 hf has
   split at hh
   ·rename_i F' hF
    cases hh
    obtain ⟨fi',ca',e1,hfi,hca⟩:=(zae ht hg hf).func_inv
    refine ⟨hx.fn _ _ hF,fi'++args.toList.map a.eval++ca',?_,fun w=>?_⟩
    ·rw[app_eq,app_eq, ← List.append_assoc]
     exact (hfi.append (zd2 ht hg has)).append hca
    ·unfold execOp
     rw[ho]
     simp only[resolve,e1,Deferred.ofValue,qT,qU,qS,invoke]
     congr 2
     apply Array.toList_inj.1
     simp
   ·cases hh
  ·cases hh
 ·cases hh
theorem zgo {P:Program}{k:FuncId}{F:Func}{as:Array Value}(hF:P.funcs[k]? = some F)(hn:(F.name == "runtime.NumGoroutine")=false){c:Code}(hb:F.body=some c):(callFunc k as).run P w = .ok (.enter k as) w:=by
 unfold callFunc
 simp only[qT,run_program,qS,hF,hn,Bool.false_eq_true,if_false,hb,Option.isNone_some]
 rfl
end
def byte1 (v:Value)(ih:Option (List UInt8)):Option (List UInt8):=match v,ih with
 | .int .u8 (.ofNat n),some l=>cond (Nat.blt n 256) (some (UInt8.ofNat n :: l)) none
 |_,_=>none
def bytesOf (l:List Value):Option (List UInt8) :=
 List.rec (motive:=fun _=>Option (List UInt8)) (some []) (fun v _ ih=>byte1 v ih) l
theorem zfe:∀ {l:List Value} {bs:List UInt8},bytesOf l=some bs→∃ ns:List Int,l=ns.map (Value.int .u8)∧bs=ns.map (fun n=>UInt8.ofNat n.toNat)
 | [],bs,h=>by cases h;exact ⟨[],rfl,rfl⟩
 |v :: l,bs,h=>by
  change byte1 v (bytesOf l)=some bs at h
  unfold byte1 at h
  split at h
  ·rename_i n l2 hl
   obtain ⟨_,h⟩:=zac h
   cases h
   obtain ⟨ns,h1,h2⟩:=zfe hl
   exact ⟨.ofNat n :: ns,by rw[h1];rfl,by rw[h2];rfl⟩
  ·cases h
theorem ziv:∀ (ns:List Int) (acc:List UInt8),ns.foldl (fun (r:ByteArray) n=>r.push (UInt8.ofNat n.toNat)) ⟨⟨acc⟩⟩=⟨⟨acc++ns.map (fun n=>UInt8.ofNat n.toNat)⟩⟩
 | [],acc=>by simp
 |n :: ns,acc=>by
  rw[List.foldl_cons]
  have:(⟨⟨acc⟩⟩:ByteArray).push (UInt8.ofNat n.toNat)=⟨⟨acc++[UInt8.ofNat n.toNat]⟩⟩:=by
   show ByteArray.mk ((⟨acc⟩:Array UInt8).push _)=_
   rw[List.push_toArray]
  rw[this,ziv ns]
  simp
def xb2s (ti:Tr TI)(f:Operand→Option Value)(h:Hp)(src dst:TypeId)(y:Operand):Option (Value×Hp) :=
 match undT ti src,undT ti dst with
 |some (TypeDesc.slice e),some TypeDesc.string=>match undT ti e,f y with
  |some (TypeDesc.int .u8),some (.slice none _ _)=>some (.string ⟨⟨[]⟩⟩,h)
  |some (TypeDesc.int .u8),some (.slice (some ⟨b,o,none⟩) n _)=>match h.blk b with
   |some B=>match B.readN n o with
    |some l=>match bytesOf l with
     |some bs=>some (.string ⟨⟨bs⟩⟩,h)
     |none=>none
    |none=>none
   |none=>none
  |_,_=>none
 |_,_=>none
section
variable {x:X}{E:En}{n:Nat}{t:Tr Value}{a:Act}{o:Oper}{v:Value}{h h':Hp}{w:World}
theorem zp7 (hx:x.Ok){src dst:TypeId}{y:Operand}(ho:o.op = .convert src dst y)(ht:TR E n t a.tmps)(hg:GOk x.ng E)(H:HR E h w)
  (hh:xb2s x.ti (ev x.ng t) h src dst y=some (v,h')):Ran x.P E h w a o v h':=by
 unfold xb2s at hh
 split at hh
 ·rename_i e hu1 hu2
  obtain ⟨i1,h1,hu1⟩:=zao hx hu1
  obtain ⟨i2,h2,hu2⟩:=zao hx hu2
  have hw1:=fun w=>h1.run_under w
  have hw2:=fun w=>h2.run_under w
  rw[hu1] at hw1;rw[hu2] at hw2
  split at hh
  ·rename_i k c hu3 hy
   cases hh
   obtain ⟨i3,h3,hu3⟩:=zao hx hu3
   have hw3:=fun w=>h3.run_under w
   rw[hu3] at hw3
   obtain ⟨_,_,e1⟩:=(zae ht hg hy).snil_inv
   refine ⟨E,w,.value (.string ⟨⟨[]⟩⟩),?_,Stp.refl H,.inl ⟨_,rfl,.plain rfl⟩⟩
   unfold execOp
   rw[ho]
   simp only[convert,qT,hw1,hw2,hw3,qS,e1,Conv.bytesToString,qU]
   rfl
  ·rename_i b off k c hu3 hy
   obtain ⟨i3,h3,hu3⟩:=zao hx hu3
   have hw3:=fun w=>h3.run_under w
   rw[hu3] at hw3
   obtain ⟨em,c',_,hem,e1,_⟩:=(zae ht hg hy).slice_inv
   change E b=some em at hem
   split at hh
   ·rename_i B hB
    split at hh
    ·rename_i l hl
     split at hh
     ·rename_i bs hbs
      cases hh
      obtain ⟨ns,rfl,rfl⟩:=zfe hbs
      obtain ⟨e2,l',he2,hlr,hlen,hat⟩:=H.read hB hl
      rw[hem] at he2;cases he2
      have hl':=LR.plain_inv (fun u hu=>by obtain ⟨_,_,rfl⟩:=List.mem_map.1 hu;rfl) hlr
      subst hl'
      have hload:=run_loadCells_list (P:=x.P) w ⟨em.blk,off+em.d,none⟩ _ (fun j u hu=>zk9 hat j u hu)
      rw[hlen] at hload
      have hr:=run_bytesToString (P:=x.P) w ⟨em.blk,off+em.d,none⟩ k c' ns hload
      have hfp:=ziv ns []
      rw[List.nil_append] at hfp
      have hfp':ns.foldl (fun (r:ByteArray) n=>r.push (UInt8.ofNat n.toNat)) ByteArray.empty=⟨⟨ns.map (fun n=>UInt8.ofNat n.toNat)⟩⟩:=hfp
      rw[hfp'] at hr
      refine ⟨E,w,.value (.string ⟨⟨ns.map (fun n=>UInt8.ofNat n.toNat)⟩⟩),?_,Stp.refl H,.inl ⟨_,rfl,.plain rfl⟩⟩
      unfold execOp
      rw[ho]
      simp only[convert,qT,hw1,hw2,hw3,qS,e1,hr,qU]
     ·cases hh
    ·cases hh
   ·cases hh
  ·cases hh
 ·cases hh
end
section
variable {x:X}{E:En}{n:Nat}{t:Tr Value}{a:Act}{o:Oper}{v:Value}{h h':Hp}{w:World}
end
def xslEmp (ti:Tr TI)(f:Operand→Option Value)(h:Hp)(t:TypeId)(y:Operand)(lo hi mx:Option Operand):Option (Value×Hp) :=
 match f y with
 |some (.slice (some ⟨_,_,none⟩) n c)=>match undT ti t,mxOf f hi mx with
  |some (TypeDesc.slice e),some none=>match ti.get e,bnd f lo 0,bnd f hi n with
   |some te,some l,some k=>cond (Nat.beq (c % 2) 1) (cond (Nat.beq l k) (cond (Nat.ble k (c / 131072)) (cond (Nat.beq te.size (c / 2 % 65536)) (some (.slice (some ⟨h.next,0,none⟩) 0 (2*te.size+1),{ next:=h.next+1,bs:=h.bs })) none) none) none) none
   |_,_,_=>none
  |_,_=>none
 |_=>none
def xcopy0 (ti:Tr TI)(f:Operand→Option Value)(h:Hp)(c:Call):Option (Value×Hp) :=
 match c.args,c.argTypes with
 |⟨[d,y]⟩,⟨t :: _⟩=>match undT ti t with
  |some (TypeDesc.slice e)=>match ti.get e,f d,f y with
   |some _,some (.slice _ dl _),some yv=>match lenB yv with
    |some sl=>cond (Nat.beq (Nat.min sl dl) 0) (some (.int .i64 0,h)) none
    |none=>none
   |_,_,_=>none
  |_=>none
 |_,_=>none
theorem Stp.emp {E:En}{h:Hp}{w:World}(H:HR E h w)(e:Em):Stp E (E.add h.next e) h { next:=h.next+1,bs:=h.bs } w w:=by
 have hle:=H.le_new e
 have hne:∀ i o,h.ob i=some o→i≠h.next:=fun i o hi hn=>by
  obtain ⟨e',he',_⟩:=H.obj i o hi
  rw[hn,H.fresh _ (Nat.le_refl _)] at he';cases he'
 have H2:HR (E.add h.next e) { next:=h.next+1,bs:=h.bs } w:=by
  refine ⟨fun i hi=>?_,fun i o hi=>?_,fun i j o1 o2 e1 e2 h1 h2 h3 h4 h5=>?_⟩
  ·have hi':h.next+1≤i:=hi
   rw[En.add_ne E e (by omega)];exact H.fresh i (by omega)
  ·obtain ⟨e',he',hob⟩:=H.obj i o hi
   exact ⟨e',hle _ _ he',hob.mono hle rfl⟩
  ·rw[En.add_ne E e (hne i o1 h1)] at h3
   rw[En.add_ne E e (hne j o2 h2)] at h4
   exact H.inj i j o1 o2 e1 e2 h1 h2 h3 h4 h5
 refine ⟨hle,H2,rfl,rfl,rfl,Nat.le_refl _,fun k _ hi=>⟨rfl,?_⟩,fun k _ hi=>?_⟩
 ·rintro ⟨i,o,e',h1,h2,h3,h4⟩
  rw[En.add_ne E e (hne i o h1)] at h3
  exact hi ⟨i,o,e',h1,h2,h3,h4⟩
 ·rintro ⟨i,o,e',h1,h3,h4⟩
  rw[En.add_ne E e (hne i o h1)] at h3
  exact hi ⟨i,o,e',h1,h3,h4⟩
section
variable {x:X}{E:En}{n:Nat}{t:Tr Value}{a:Act}{o:Oper}{v:Value}{h h':Hp}{w:World}
theorem zz9 (hx:x.Ok){ty:TypeId}{p:Operand}{lo hi mx:Option Operand}(ho:o.op = .slice ty p lo hi mx)(ht:TR E n t a.tmps)(hg:GOk x.ng E)
  (hh:xslEmp x.ti (ev x.ng t) h ty p lo hi mx=some (v,h')):h'={ next:=h.next+1,bs:=h.bs }∧∃ e u,(∀ w,(execOp a.eval o).run x.P w = .ok (.value u) w)∧VR (E.add h.next e) v u:=by
 unfold xslEmp at hh
 split at hh
 ·rename_i b of k c hp
  obtain ⟨e,c',_,he,e1,hc⟩:=(zae ht hg hp).slice_inv
  split at hh
  ·rename_i el hu hm
   obtain ⟨ty',hty,hu⟩:=zao hx hu
   obtain ⟨m1,m2,m3⟩:=zf1 ht hg hm
   split at hh
   ·rename_i te l hk hte hl hh'
    obtain ⟨b1,hh⟩:=zac hh
    obtain ⟨b2,hh⟩:=zac hh
    obtain ⟨b3,hh⟩:=zac hh
    obtain ⟨b4,hh⟩:=zac hh
    cases hh
    have b1:=zay b1
    have b2:=zay b2
    have b3:=zbh b3
    have b4:=zay b4
    subst b2
    rcases hc with ⟨c1,_⟩|⟨c1,c2,c3,c4⟩
    ·omega
    refine ⟨rfl,⟨e.blk,if c'=l then of+e.d else of+e.d+l*te.size,(c' - l)*te.size⟩,.slice (some (if c'=l then ⟨e.blk,of+e.d,none⟩ else (⟨e.blk,of+e.d,none⟩:Addr).add (l*te.size))) (l - l) (c' - l),fun w=>?_,?_⟩
    ·unfold execOp
     rw[ho]
     have hb:=zcx (P:=x.P) (w:=w) (s:=true) (cap:=c') (m:=c') (.inl ⟨m1 rfl,rfl⟩) (zdd ht hg hh') (zdd ht hg hl) (Nat.le_refl _) (Nat.le_trans b3 c2) (Nat.le_refl _) m3
     simp only[qT,Instr.sliceAt,hty.run_under w,hu,qS,e1,Instr.slice,hb,(hx.tiOk hte).run_size w,qU,Option.map_some]
     split <;> rfl
    ·rw[Nat.sub_self]
     have hself:(E.add h.next ⟨e.blk,if c'=l then of+e.d else of+e.d+l*te.size,(c' - l)*te.size⟩) h.next=some ⟨e.blk,if c'=l then of+e.d else of+e.d+l*te.size,(c' - l)*te.size⟩:=En.add_self _ _ _
     have r:=VR.slice (o:=0) (n:=0) (c:=2*te.size+1) (c':=c' - l) hself (.inr ⟨by omega,by
      have:(2*te.size+1) / 131072=0:=by omega
      omega,by
      have:(2*te.size+1) / 2 % 65536=te.size:=by omega
      rw[this];show 0+(c' - l)*te.size=(c' - l)*te.size;omega,by
      have:(2*te.size+1) / 2 % 65536=te.size:=by omega
      omega⟩)
     have e2:(if c'=l then ⟨e.blk,of+e.d,none⟩ else (⟨e.blk,of+e.d,none⟩:Addr).add (l*te.size))=⟨e.blk,0+(if c'=l then of+e.d else of+e.d+l*te.size),none⟩:=by
      by_cases hcl:c'=l
      ·rw[qX hcl,qX hcl,Nat.zero_add]
      ·rw[qW hcl,qW hcl,zb5,Nat.zero_add]
     rw[e2]
     exact r
   ·cases hh
  ·cases hh
 ·cases hh
theorem xslEmp_sound (hx:x.Ok){ty:TypeId}{p:Operand}{lo hi mx:Option Operand}(ho:o.op = .slice ty p lo hi mx)(ht:TR E n t a.tmps)(hg:GOk x.ng E)(H:HR E h w)
  (hh:xslEmp x.ti (ev x.ng t) h ty p lo hi mx=some (v,h')):Ran x.P E h w a o v h':=by
 obtain ⟨rfl,e,u,hr,hv⟩:=zz9 hx ho ht hg hh
 exact ⟨_,w,_,hr w,Stp.emp H e,.inl ⟨u,rfl,hv⟩⟩
theorem zle (hx:x.Ok){c:Call}(hc:c.callee = .builtin .copy)(ho:o.op = .call c)(ht:TR E n t a.tmps)(hg:GOk x.ng E)(H:HR E h w)
  (hh:xcopy0 x.ti (ev x.ng t) h c=some (v,h')):Ran x.P E h w a o v h':=by
 obtain ⟨callee,args,tys⟩:=c
 simp only at hc;subst hc
 unfold xcopy0 at hh
 simp only at hh
 split at hh
 ·rename_i d y ty tl
  split at hh
  ·rename_i e hu
   obtain ⟨it,hit,hu⟩:=zao hx hu
   split at hh
   ·rename_i te p dl cp yv hte hd hy
    have hto:=hx.tiOk hte
    obtain ⟨s',c',e1,_⟩:=(zae ht hg hd).sl_form
    have ry:=zae ht hg hy
    split at hh
    ·rename_i sl hsl
     obtain ⟨b1,hh⟩:=zac hh
     cases hh
     have b1:=zay b1
     have hfirst:∀ v',VR E yv v'→(Builtin.firstCells te.size 0 v').run x.P w = .ok #[] w:=fun v' hv=>by
      unfold lenB at hsl
      split at hsl
      ·obtain ⟨s2,c2,rfl,_⟩:=hv.sl_form
       cases s2 with
       |none=>rfl
       |some a2=>show (loadCells a2 (0*te.size)).run x.P w=_;rw[Nat.zero_mul];rfl
      ·have:=VR.plain_inv rfl hv;subst this
       show Result.ok _ w=_
       congr 1
       apply Array.toList_inj.1
       rw[Array.toList_map,zld]
       simp
      ·cases hsl
     refine ⟨E,w,.value (.int .i64 0),?_,Stp.refl H,.inl ⟨_,rfl,.plain rfl⟩⟩
     obtain ⟨cs,hcs⟩:=zcy (P:=x.P) (w:=w) (ρ:=a.eval) ho
     have hmap:Array.map a.eval ⟨[d,y]⟩=#[a.eval d,a.eval y]:=by simp
     rw[hcs,hmap,e1]
     simp only[builtin,qT,Builtin.copy_,xA,List.getElem?_cons_zero,List.getElem?_cons_succ,hit.run_under w,hu,qS,ziu hsl ry,hto.run_size w,b1,hfirst _ ry,qU]
     cases s' <;> rfl
    ·cases hh
   ·cases hh
  ·cases hh
 ·cases hh
end
section
variable {x:X}{E:En}{n:Nat}{t:Tr Value}{a:Act}{o:Oper}{v:Value}{h h':Hp}{w:World}
end
section
variable {x:X}{E:En}{n:Nat}{t:Tr Value}{a:Act}{o:Oper}{v:Value}{h h':Hp}{w:World}
end
def xemp (x:X)(t:Tr Value)(o:Oper)(h:Hp):Option (Value×Hp) :=
 match o.op with
 | .slice ty p lo hi mx=>xslEmp x.ti (ev x.ng t) h ty p lo hi mx
 |_=>none
theorem zvc {x:X}{E:En}{n:Nat}{t:Tr Value}{a:Act}{o:Oper}{v:Value}{h h':Hp}(hx:x.Ok)(ht:TR E n t a.tmps)(hg:GOk x.ng E)(hh:xemp x t o h=some (v,h')) :
  h'={ next:=h.next+1,bs:=h.bs }∧∃ e u,(∀ w,(execOp a.eval o).run x.P w = .ok (.value u) w)∧VR (E.add h.next e) v u:=by
 unfold xemp at hh
 split at hh
 ·rename_i ho;exact zz9 hx ho ht hg hh
 ·cases hh
section
variable {x:X}{E:En}{n:Nat}{t:Tr Value}{a:Act}{o:Oper}{v:Value}{h h':Hp}{w:World}
end
def xmem (x:X)(t:Tr Value)(o:Oper)(h:Hp):Option (Value×Hp) :=
 match o.op with
 | .slice ty p lo hi mx=>xslEmp x.ti (ev x.ng t) h ty p lo hi mx
 | .alloc e=>xalloc x.ti h e
 | .box e y=>xbox (ev x.ng t) h e y
 | .buildSlice ty k ps=>xbuildSlice x.ti (ev x.ng t) h ty k ps
 | .makeSlice ty l c=>xmakeSlice x.ti (ev x.ng t) h ty l c
 | .store ty p y=>xstore x.ti (ev x.ng t) h ty p y
 | .convert s d y=>xb2s x.ti (ev x.ng t) h s d y
 | .call c=>match c.callee with
  | .builtin .append=>xappend x.ti (ev x.ng t) h c
  | .builtin .copy=>match xcopy x.ti (ev x.ng t) h c with
   |some r=>some r
   |none=>xcopy0 x.ti (ev x.ng t) h c
  |_=>none
 |_=>none
section
variable {x:X}{E:En}{n:Nat}{t:Tr Value}{a:Act}{o:Oper}{v:Value}{h h':Hp}{w:World}
theorem zap (hx:x.Ok)(ht:TR E n t a.tmps)(hg:GOk x.ng E)(H:HR E h w)(hh:xmem x t o h=some (v,h')):Ran x.P E h w a o v h':=by
 unfold xmem at hh
 split at hh
 ·rename_i ho;exact xslEmp_sound hx ho ht hg H hh
 ·rename_i ho;exact zla hx ho H hh
 ·rename_i ho;exact zp6 ho ht hg H hh
 ·rename_i ho;exact zf2 hx ho ht hg H hh
 ·rename_i ho;exact zg0 hx ho ht hg H hh
 ·rename_i ho;exact zlb hx ho ht hg H hh
 ·rename_i ho;exact zp7 hx ho ht hg H hh
 ·rename_i c ho
  split at hh
  ·rename_i hc;exact zjz hx hc ho ht hg H hh
  ·rename_i hc
   split at hh
   ·rename_i r hr
    cases hh
    exact zm4 hx hc ho ht hg H hr
   ·exact zle hx hc ho ht hg H hh
  ·cases hh
 ·cases hh
end
abbrev CallF:=FuncId→Func→List Value→Hp→Option (Value×Hp)
def CallOK (x:X)(call:CallF):Prop:=∀ k F as h v h',call k F as h=some (v,h')→x.P.funcs[k]? = some F→∀ E w as',HR E h w→GOk x.ng E→LR E as as' →
 Calls x.P k ⟨as'⟩ w fun e w'=>∃ E' u,e = .returned u∧Stp E E' h h' w w'∧VR E' v u
structure SR (x:X)(Dm:List Deferred)(E:En)(n:Nat)(t:Tr Value)(h:Hp)(a:Act)(w:World):Prop where
 tr:TR E n t a.tmps
 hr:HR E h w
 gok:GOk x.ng E
 defers:a.defers=Dm
def xwant (ops:List Oper)(t:Tr Value)(o:Oper):Option Bool :=
 match o.guard with
 |none=>some true
 |some (j,want)=>match nth ops j with
  |some oj=>match oj.dst with
   |some d=>match t.get d with
    |some (.bool b)=>some (cond b want (!want))
    |some (.float _ _)=>none
    |some _=>some false
    |none=>none
   |none=>some false
  |none=>some false
theorem zbe {E:En}{n:Nat}{t:Tr Value}{a:Act}{ops:Array Oper}{o:Oper}{b:Bool}(ht:TR E n t a.tmps)(h:xwant ops.toList t o=some b):Region.wanted o (yielded ops a.tmps)=b:=by
 unfold xwant at h
 unfold Region.wanted
 split at h
 ·rename_i hg;rw[hg];injection h
 ·rename_i j want hg
  rw[hg]
  simp only
  unfold yielded
  have hn:nth ops.toList j=ops[j]?:=by rw[nth_eq];simp
  rw[hn] at h
  cases ho:ops[j]? with
  |none=>rw[ho] at h;cases h;rfl
  |some oj =>
   rw[ho] at h
   simp only at h
   cases hd:oj.dst with
   |none=>rw[hd] at h;cases h;simp only[Option.bind_some,hd];rfl
   |some d =>
    rw[hd] at h
    simp only at h
    simp only[Option.bind_some,hd]
    split at h
    ·rename_i b' hb
     obtain ⟨u,hu,hr⟩:=ht.2 d _ hb
     have:=VR.plain_inv rfl hr;subst this
     rw[hu]
     cases h
     cases b' <;> cases want <;> rfl
    ·cases h
    ·rename_i v hnb hnf hv
     obtain ⟨u,hu,hr⟩:=ht.2 d _ hv
     rw[hu]
     cases h
     have hnb':∀ c,u ≠ .bool c:=fun c hc=>by
      cases hr with
      |plain _=>exact hnb c hc
      |sym=>exact hnf _ _ rfl
      |_=>cases hc
     cases u <;> first|rfl|exact absurd rfl (hnb' _)
    ·cases h
def putD (n:Nat)(t:Tr Value)(d:Option Tmp)(v:Value):Option (Tr Value) :=
 match d with
 |none=>some t
 |some d=>cond (Nat.blt d n) (some (t.set v d)) none
theorem zb2 {E:En}{n:Nat}{t t':Tr Value}{a:Act}{d:Option Tmp}{v u:Value}(ht:TR E n t a.tmps)(hv:VR E v u)(h:putD n t d v=some t'):TR E n t' (a.put d u).tmps:=by
 unfold putD at h
 split at h
 ·cases h;exact ht
 ·obtain ⟨hb,h⟩:=zac h
  cases h
  exact ht.put (zcc hb) hv
def pairT (t:Option (Tr Value))(h:Hp):Option (Tr Value×Hp):=match t with|some t=>some (t,h)|none=>none
theorem zce {t:Option (Tr Value)}{h h':Hp}{t':Tr Value}(hh:pairT t h=some (t',h')):t=some t'∧h'=h:=by
 unfold pairT at hh
 split at hh
 ·cases hh;exact ⟨rfl,rfl⟩
 ·cases hh
def xext0 (P:Program)(k:FuncId)(as:List Value):Option Value :=
 cond (allB plain as) (match pureRun P 64 (callFunc k ⟨as⟩) with
  |some (.value v)=>cond (plain v) (some v) none
  |_=>none) none
def xsame (F:Func)(as:List Value):Option Value:=match as with
 | [v]=>cond (F.name == "internal/abi.NoEscape") (cond (F.origin == "") (some v) none) none
 |_=>none
def xext (P:Program)(k:FuncId)(F:Func)(as:List Value):Option Value:=match xext0 P k as with
 |some v=>some v
 |none=>xsame F as
theorem zhn:Extern.allNextRows.lookup "internal/abi.NoEscape" = none:=by kernel_rfl
theorem zm5:Extern.allNextRows.lookup "" = none:=by kernel_rfl
theorem zff:Extern.allGenericRows.lookup "internal/abi.NoEscape" = none:=by kernel_rfl
theorem zg2:Extern.allTypedRows.lookup "internal/abi.NoEscape" = none:=by kernel_rfl
theorem zlf:Extern.allRows.lookup "internal/abi.NoEscape" = some Extern.AbiNoEscape.same:=by kernel_rfl
theorem zm6 {P:Program}{k:FuncId}{F:Func}{as:List Value}{v:Value}(hF:P.funcs[k]? = some F)(hnm:(F.name == "runtime.NumGoroutine")=false)(hb:F.body=none)(hh:xsame F as=some v) :
  as=[v]∧∀ (u:Value) (w:World),(callFunc k ⟨[u]⟩).run P w = .ok (.value u) w:=by
 unfold xsame at hh
 split at hh
 ·obtain ⟨h1,hh⟩:=zac hh
  obtain ⟨h2,hh⟩:=zac hh
  cases hh
  have h1:F.name = "internal/abi.NoEscape":=by simpa using h1
  have h2:F.origin = "":=by simpa using h2
  have hn:Extern.findNext F=none:=by
   unfold Extern.findNext
   simp only[h1,h2,zhn,zm5]
   rfl
  have he:Extern.find F=some Extern.AbiNoEscape.same:=by
   unfold Extern.find
   simp only[h1,zff,zg2,zlf]
   rfl
  refine ⟨rfl,fun u w=>?_⟩
  rw[run_callFunc_extern hF hnm (by rw[hb];rfl) hn he]
  rfl
 ·cases hh
theorem LR.plain_eq {E:En}{l l':List Value}(hp:allB plain l=true)(h:LR E l l'):l'=l:=by
 induction h with
 |nil=>rfl
 |cons h _ ih =>
  have hp:=(zag _ _).1 hp
  rw[VR.plain_eq (hp _ (by simp)) h,ih ((zag _ _).2 fun a ha=>hp a (by simp[ha]))]
def xval (x:X)(call:CallF)(t:Tr Value)(o:Oper)(h:Hp):Option (Value×Hp) :=
 match o.op with
 | .load ty p=>match xload x.ti h ty (ev x.ng t p) with
  |some v=>some (v,h)
  |none=>none
 | .alloc _ | .box _ _ | .buildSlice _ _ _ | .makeSlice _ _ _ | .store _ _ _ | .makeMap _ _ | .lookup _ _ _ _ | .mapUpdate _ _ _ _ | .insert _ _ _ _ | .range _ _ | .next _ _ | .entry _=>xmem x t o h
 | .convert _ _ _=>match xpure x t o with
  |some v=>some (v,h)
  |none=>xmem x t o h
 | .slice _ _ _ _ _=>match xpure x t o with
  |some v=>some (v,h)
  |none=>xmem x t o h
 | .call c=>match c.callee with
  | .value _=>match calleeOf x.fn (ev x.ng t) c with
   |some (k,F,as)=>match F.body with
    |some _=>call k F as h
    |none=>match xext x.P k F as with
     |some v=>some (v,h)
     |none=>none
   |none=>none
  | .builtin .append | .builtin .copy | .builtin .delete | .builtin .clear | .builtin .cap | .builtin .unsafeSliceData | .builtin .unsafeString=>xmem x t o h
  | .builtin .len=>match xpure x t o with
   |some v=>some (v,h)
   |none=>xmem x t o h
  |_=>match xpure x t o with
   |some v=>some (v,h)
   |none=>none
 |_=>match xpure x t o with
  |some v=>some (v,h)
  |none=>none
section
variable {x:X}{Dm:List Deferred}{call:CallF}{E:En}{n:Nat}{t:Tr Value}{a:Act}{o:Oper}{v:Value}{h h':Hp}{w:World}
theorem zfh {K:Act→World→Prop}{Q:Exit→Act→World→Prop}(hy:Yld x.P E a o v)(hK:∀ u,VR E v u→K (a.put o.dst u) w):o.wp x.P a w K Q:=by
 obtain ⟨u,hu,hr⟩:=hy
 unfold Oper.wp
 rw[hu w,Oper.upon_value]
 exact hK u hr
theorem zav {K:Act→World→Prop}{Q:Exit→Act→World→Prop}(hy:Ran x.P E h w a o v h')(hK:∀ E' w' u,Stp E E' h h' w w'→VR E' v u→K (a.put o.dst u) w'):o.wp x.P a w K Q:=by
 obtain ⟨E',w',r,hr,hst,⟨u,rfl,hv⟩|⟨rfl,rfl⟩⟩:=hy
 ·unfold Oper.wp
  rw[hr,Oper.upon_value]
  exact hK E' w' u hst hv
 ·unfold Oper.wp
  rw[hr,Oper.upon_skip]
  exact hK E' w' undef hst (VR.tuple' .nil)
theorem ziw (hx:x.Ok)(hcall:CallOK x call)(s:SR x Dm E n t h a w)(hh:xval x call t o h=some (v,h')){K:Act→World→Prop}{Q:Exit→Act→World→Prop}
  (hK:∀ E' w' u,Stp E E' h h' w w'→VR E' v u→K (a.put o.dst u) w'):o.wp x.P a w K Q:=by
 have pureCase:∀ (r:Option Value),r=xpure x t o→(match r with|some v=>some (v,h)|none=>none)=some (v,h')→o.wp x.P a w K Q:=fun r hr hm=>by
  split at hm
  ·rename_i u
   cases hm
   exact zfh (zcd hx s.tr s.gok hr.symm) fun u hu=>hK E w u (Stp.refl s.hr) hu
  ·cases hm
 unfold xval at hh
 split at hh
 ·rename_i ty p ho
  split at hh
  ·rename_i u hu
   cases hh
   cases hp:ev x.ng t p with
   |none=>rw[hp] at hu;cases hu
   |some pv =>
    rw[hp] at hu
    obtain ⟨b,off,l',u',e1,hat,hv,hrun⟩:=zez hx s.hr hu (zae s.tr s.gok hp)
    refine zav (E:=E) (h':=h) ⟨E,w,.value u',?_,Stp.refl s.hr,.inl ⟨u',rfl,hv⟩⟩ hK
    unfold execOp
    rw[ho]
    simp only[qT,Instr.loadAt,e1,Instr.sureAddr,qU,qS,hrun w hat]
  ·cases hh
 ·exact zav (zap hx s.tr s.gok s.hr hh) hK
 ·exact zav (zap hx s.tr s.gok s.hr hh) hK
 ·exact zav (zap hx s.tr s.gok s.hr hh) hK
 ·exact zav (zap hx s.tr s.gok s.hr hh) hK
 ·exact zav (zap hx s.tr s.gok s.hr hh) hK
 ·exact zav (zap hx s.tr s.gok s.hr hh) hK
 ·exact zav (zap hx s.tr s.gok s.hr hh) hK
 ·exact zav (zap hx s.tr s.gok s.hr hh) hK
 ·exact zav (zap hx s.tr s.gok s.hr hh) hK
 ·exact zav (zap hx s.tr s.gok s.hr hh) hK
 ·exact zav (zap hx s.tr s.gok s.hr hh) hK
 ·exact zav (zap hx s.tr s.gok s.hr hh) hK
 ·split at hh
  ·rename_i u hu
   cases hh
   exact zfh (zcd hx s.tr s.gok hu) fun u hu=>hK E w u (Stp.refl s.hr) hu
  ·exact zav (zap hx s.tr s.gok s.hr hh) hK
 ·split at hh
  ·rename_i u hu
   cases hh
   exact zfh (zcd hx s.tr s.gok hu) fun u hu=>hK E w u (Stp.refl s.hr) hu
  ·exact zav (zap hx s.tr s.gok s.hr hh) hK
 ·rename_i c ho
  split at hh
  ·split at hh
   ·rename_i k F as hc
    obtain ⟨⟨hF,hnm⟩,as',has,hrun⟩:=zik hx ho s.tr s.gok hc
    split at hh
    ·rename_i cd hb
     unfold Oper.wp
     rw[hrun w,zgo hF hnm hb,Oper.upon_enter]
     refine (hcall k F as h v h' hh hF E w as' s.hr s.gok has).mono ?_
     rintro e w' ⟨E',u,rfl,hst,hv⟩
     exact hK E' w' u hst hv
    ·split at hh
     ·rename_i u hu
      cases hh
      unfold xext at hu
      split at hu
      ·rename_i u1 hu0
       cases hu
       unfold xext0 at hu0
       obtain ⟨b1,hu0⟩:=zac hu0
       have:=LR.plain_eq b1 has;subst this
       split at hu0
       ·rename_i u' hp
        obtain ⟨b2,hu0⟩:=zac hu0
        injection hu0 with hu0;subst hu0
        unfold Oper.wp
        rw[hrun w,zcr _ _ _ _ hp w,Oper.upon_value]
        exact hK E w u' (Stp.refl s.hr) (VR.of_plain b2)
       ·cases hu0
      ·obtain ⟨e1,hsame⟩:=zm6 hF hnm (by assumption) hu
       subst e1
       cases has with
       |cons hv hnil =>
        cases hnil
        unfold Oper.wp
        rw[hrun w,hsame _ w,Oper.upon_value]
        exact hK E w _ (Stp.refl s.hr) hv
     ·cases hh
   ·cases hh
  ·exact zav (zap hx s.tr s.gok s.hr hh) hK
  ·exact zav (zap hx s.tr s.gok s.hr hh) hK
  ·exact zav (zap hx s.tr s.gok s.hr hh) hK
  ·exact zav (zap hx s.tr s.gok s.hr hh) hK
  ·exact zav (zap hx s.tr s.gok s.hr hh) hK
  ·exact zav (zap hx s.tr s.gok s.hr hh) hK
  ·exact zav (zap hx s.tr s.gok s.hr hh) hK
  ·split at hh
   ·rename_i u hu
    cases hh
    exact zfh (zcd hx s.tr s.gok hu) fun u hu=>hK E w u (Stp.refl s.hr) hu
   ·exact zav (zap hx s.tr s.gok s.hr hh) hK
  ·exact pureCase _ rfl hh
 ·exact pureCase _ rfl hh
end
def xone (x:X)(call:CallF)(n:Nat)(ops:List Oper)(o:Oper)(t:Tr Value)(h:Hp):Option (Tr Value×Hp) :=
 match xwant ops t o with
 |some true=>match xval x call t o h with
  |some (v,h')=>pairT (putD n t o.dst v) h'
  |none=>none
 |some false=>pairT (putD n t o.dst undef) h
 |none=>none
section
variable {x:X}{Dm:List Deferred}{call:CallF}{E:En}{n:Nat}{t t':Tr Value}{a:Act}{o:Oper}{h h':Hp}{w:World}
theorem SR.stp {E':En}{w':World}{a':Act}(s:SR x Dm E n t h a w)(hst:Stp E E' h h' w w')(ht:TR E' n t' a'.tmps)(hd:a'.defers=Dm):SR x Dm E' n t' h' a' w' :=
 ⟨ht,hst.hr,s.gok.mono hst.le,hd⟩
theorem zb3 (a:Act)(d:Option Tmp)(v:Value):(a.put d v).defers=a.defers:=by cases d <;> rfl
theorem zix (hx:x.Ok)(hcall:CallOK x call)(s:SR x Dm E n t h a w){ops:Array Oper}(hh:xone x call n ops.toList o t h=some (t',h')){K:Act→World→Prop}{Q:Exit→Act→World→Prop}
  (hK:∀ E' u w',Stp E E' h h' w w'→SR x Dm E' n t' h' (a.put o.dst u) w'→K (a.put o.dst u) w'):if Region.wanted o (yielded ops a.tmps)=true then o.wp x.P a w K Q else K (a.put o.dst undef) w:=by
 unfold xone at hh
 split at hh
 ·rename_i hw
  rw[zbe s.tr hw,qX rfl]
  split at hh
  ·rename_i v h2 hv
   obtain ⟨hp,rfl⟩:=zce hh
   exact ziw hx hcall s hv fun E' w' u hst hr=>hK E' u w' hst (s.stp hst (zb2 (s.tr.mono hst.le) hr hp) (by rw[zb3,s.defers]))
  ·cases hh
 ·rename_i hw
  rw[zbe s.tr hw,qW (by simp)]
  obtain ⟨hp,rfl⟩:=zce hh
  exact hK E undef w (Stp.refl s.hr) (s.stp (Stp.refl s.hr) (zb2 s.tr (VR.tuple' .nil) hp) (by rw[zb3,s.defers]))
 ·cases hh
end
section
variable {P:Program}{ops:Array Oper}{Q:Exit→Act→World→Prop}{S S':Array Bool→World→Prop}
def wpS (P:Program)(ops:Array Oper)(Q:Exit→Act→World→Prop)(S:Array Bool→World→Prop):Nat→Array Bool→Act→World→Prop
 | 0,L,a,w=>Region.ready .any ops L=[]∧Q .normal a w
 |f+1,L,a,w=>(Region.ready .any ops L=[]→Q .normal a w)∧∀ i∈Region.ready .any ops L,wpOp P ops Q i (fun a' w'=>S (L.setIfInBounds i true) w'∧wpS P ops Q S f (L.setIfInBounds i true) a' w') a w
theorem zd4:∀ (f:Nat) (L:Array Bool) (a:Act) (w:World),wpS P ops Q S f L a w→wpAny P .any ops Q f L a w
 | 0,_,_,_,h=>h
 |f+1,_,_,_,h=>⟨h.1,fun i hi=>wpOp_mono (fun a' w' h'=>zd4 f _ a' w' h'.2) (h.2 i hi)⟩
theorem zol (hS:∀ L w,S' L w→S L w):∀ (f:Nat) (L:Array Bool) (a:Act) (w:World),wpS P ops Q S' f L a w→wpS P ops Q S f L a w
 | 0,_,_,_,h=>h
 |f+1,_,_,_,h=>⟨h.1,fun i hi=>wpOp_mono (fun a' w' h'=>⟨hS _ _ h'.1,zol hS f _ a' w' h'.2⟩) (h.2 i hi)⟩
def Cl (ops:Array Oper)(L:Array Bool):Prop:=∀ (j:Nat) (o:Oper),ops[j]? = some o→L.getD j false=true→∀ e∈o.after,Region.binds .any e=true→L.getD e.on false=true
theorem Cl.add {L:Array Bool}(h:Cl ops L){i:Nat}(hi:i∈Region.ready .any ops L):Cl ops (L.setIfInBounds i true):=fun j o ho hj e he hb=>by
 by_cases hij:i=j
 ·subst hij
  obtain ⟨_,o',ho',hall⟩:=mem_ready.1 hi
  rw[ho] at ho';injection ho' with ho';subst ho'
  exact getD_set_true (hall e he hb)
 ·rw[getD_set_ne false hij] at hj
  exact getD_set_true (h j o ho hj e he hb)
theorem zcn {L:Array Bool}{i:Nat}(h:L.getD i true=false):L.getD i false=false:=by
 rw[qZ] at *
 cases hi:L[i]? with
 |none=>rfl
 |some b=>rw[hi] at h;exact h
theorem zho {i:Nat}{oi:Oper}{v:Value}(hi:ops[i]? = some oi)(hsel:∀ (j:Nat) (o:Oper) cs b,ops[j]? = some o→o.op ≠ .select cs b)
  (hQ:∀ c a w,¬ Q (.panic c) a w) (hS:∀ L w,S (L.setIfInBounds i true) w↔S L w) :
  ∀ (fuel:Nat) (L:Array Bool) (a:Act) (w:World),
   (∀ (j:Nat) oj,ops[j]? = some oj→j≠i→L.getD j true=false→(∀ e∈oj.after,Region.binds .any e=true→e.on≠i)→oi.apart ops oj=true) →
   i∈Region.ready .any ops L→Cl ops L→YieldsIf P ops (fun w=>∃ L,Cl ops L∧L.getD i true=false∧S L w) oi v a→S L w →
   wpS P ops Q S fuel (L.setIfInBounds i true) (a.put oi.dst v) w→wpS P ops Q S (fuel+1) L a w:=by
 intro fuel
 induction fuel with
 |zero =>
  intro L a w _ hr hcl hy hSw H
  refine ⟨fun h=>(by rw[h] at hr;cases hr),fun j hj=>?_⟩
  by_cases hji:j=i
  ·subst hji
   exact hy.wpOp hi ⟨L,hcl,(mem_ready.1 hr).1,hSw⟩ ⟨(hS L w).2 hSw,H⟩
  ·have:=ready_mono hj hji
   rw[H.1] at this
   cases this
 |succ fuel ih =>
  intro L a w hfree hr hcl hy hSw H
  refine ⟨fun h=>(by rw[h] at hr;cases hr),fun j hj=>?_⟩
  by_cases hji:j=i
  ·subst hji
   exact hy.wpOp hi ⟨L,hcl,(mem_ready.1 hr).1,hSw⟩ ⟨(hS L w).2 hSw,H⟩
  ·have h1:=H.2 j (ready_mono hj hji)
   obtain ⟨hjun,oj,hoj,hall⟩:=mem_ready.1 hj
   have hiun:=zcn (mem_ready.1 hr).1
   have hnot:∀ e∈oj.after,Region.binds .any e=true→e.on≠i:=fun e he hb heq=>by
    have h1:=hall e he hb
    rw[heq,hiun] at h1;cases h1
   have h2:=wpOp_putIf hoj (hfree j oj hoj hji hjun hnot) (fun cs b=>hsel i oi cs b hi) (fun cs b=>hsel j oj cs b hoj) (fun c a w h=>absurd h (hQ c _ w)) hy h1
   refine wpOp_mono (fun a' w' h3=>?_) h2
   have e1:(L.setIfInBounds i true).setIfInBounds j true=(L.setIfInBounds j true).setIfInBounds i true:=Array.setIfInBounds_comm _ _ (Ne.symm hji)
   rw[e1] at h3
   have hSj:S (L.setIfInBounds j true) w':=(hS _ _).1 h3.2.1
   refine ⟨hSj,ih (L.setIfInBounds j true) a' w' (fun k ok hk hki hun hno=>?_) (ready_mono hr (Ne.symm hji)) (hcl.add hj) h3.1 hSj h3.2.2⟩
   refine hfree k ok hk hki ?_ hno
   by_cases hjk:j=k
   ·subst hjk;exact hjun
   ·rw[getD_set_ne true hjk] at hun;exact hun
theorem zm7 {id:Nat}{a:Act}{w:World}(hm:P.follows .mixedOrders=true)
  (h:wpS P ops Q S ops.size (Array.replicate ops.size false) a w.drew):(Code.region id ops true).wp P Q a w :=
 wp_region_any hm (zd4 _ _ _ _ h)
end
inductive Pl where
 |take (i:Nat) (T D:List Nat)
 |chain (j:Nat)
 |al (k:Nat)
def takeKind (o:Oper):Bool:=match o.op with
 | .move _ | .assign _ | .pick .. | .nilCheck _ | .binOp .. | .unOp .. | .convert .. | .build .. | .makeFunc .. | .slice .. | .fieldAddr .. | .field .. | .indexAddr .. | .index .. | .extract .. | .makeInterface .. | .typeAssert .. | .load ..=>true
 | .call c=>match c.callee with
  | .builtin .len | .builtin .min | .builtin .max=>true
  |_=>false
 |_=>false
def takeK (ops:List Oper)(i:Nat):Bool:=match nth ops i with|some o=>takeKind o|none=>false
def dstNe (d:Nat)(o:Oper):Bool:=match o.dst with|some e => !(Nat.beq e d)|none=>true
def mkOps:Op→Option (List Operand)
 | .alloc _=>some []
 | .buildSlice _ _ ps=>some (ps.toList.map fun p=>p.2)
 | .makeSlice _ l c=>some [l,c]
 |_=>none
def isMk (o:Oper):Bool:=match mkOps o.op with|some _=>true|none=>false
def hasEdge (o:Oper)(k:Nat):Bool:=o.after.toList.any fun e=>Region.binds .any e && Nat.beq e.on k
def wrOk (o:Oper)(m:Nat)(l:List Oper):Nat→Bool :=
 List.rec (motive:=fun _=>Nat→Bool) (fun _=>true) (fun oj _ ih k=>cond (dstNe m oj) (ih (k+1)) (cond (hasEdge o k) (cond (isMk oj) false (ih (k+1))) false)) l
def srcOk (ops:List Oper)(o:Oper)(y:Operand):Bool:=match y with
 | .tmp m=>wrOk o m ops 0
 |_=>true
def gdT (ops:List Oper)(o:Oper):List Operand:=match o.guard with
 |none=>[]
 |some (j,_)=>match nth ops j with
  |some oj=>match oj.dst with
   |some d=>[.tmp d]
   |none=>[]
  |none=>[]
def alOf (ops:List Oper)(k:Nat):Option (Oper×Nat):=match nth ops k with
 |some o=>match mkOps o.op,o.dst with
  |some ys,some d=>cond (allB (dstNe d) (tak ops k)) (cond (allB (dstNe d) (drp ops (k+1))) (cond (allB (srcOk ops o) (app ys (gdT ops o))) (some (o,d)) none) none) none
  |_,_=>none
 |none=>none
def isAl (ops:List Oper)(k:Nat):Bool:=match alOf ops k with|some _=>true|none=>false
def depsIn (ops:Array Oper)(L:Array Bool)(o:Oper):Bool:=o.after.toList.all fun e => !(Region.binds .any e) || (L.getD e.on false || isAl ops.toList e.on)
def depsAt (ops:Array Oper)(L:Array Bool)(i:Nat):Bool:=match ops[i]? with|some o=>depsIn ops L o|none=>false
def withAl (ops:Array Oper)(L:Array Bool)(but:Nat):Array Bool :=
 ((List.range ops.size).map fun i=>L.getD i false || ((isAl ops.toList i && !(Nat.beq i but)) && depsAt ops L i)).toArray
def edgeTo (o:Oper)(l:List Nat):Bool:=o.after.toList.any fun e=>Region.binds .any e && l.contains e.on
def okT (ops:List Oper)(T:List Nat):List Nat→Bool :=
 List.rec (motive:=fun _=>List Nat→Bool) (fun _=>true) (fun k _ ih seen=>match nth ops k with
  |some o=>cond (edgeTo o seen) (ih (k :: seen)) false
  |none=>false) T
def okD (ops:List Oper)(T D:List Nat)(seen:List Nat):Bool :=
 cond (okT ops T seen) (allB (fun k=>cond (T.contains k) (cond (takeK ops k) false (!(isAl ops k))) false) D) false
def allEq (k:Nat)(l:List Nat):Bool:=allB (fun i=>Nat.beq i k) l
def alsOf (pl:List Pl):List Nat:=pl.filterMap fun | .al k=>some k|_=>none
def chk (ops:Array Oper)(pl:List Pl):Array Bool→Bool :=
 List.rec (motive:=fun _=>Array Bool→Bool) (fun L=>(Region.ready .any ops L).isEmpty) (fun s _ ih L=>match s with
  | .take i T D=>cond ((Region.ready .any ops L).contains i) (cond (Region.free .any ops L i) (cond (takeK ops.toList i) (cond (isAl ops.toList i) false (cond (okD ops.toList T D [i]) (ih (L.setIfInBounds i true)) false)) false) false) false
  | .chain j=>cond ((Region.ready .any ops L).contains j) (cond (isAl ops.toList j) false (cond (allEq j (Region.ready .any ops (withAl ops L ops.size))) (ih (L.setIfInBounds j true)) false)) false
  | .al k=>cond ((Region.ready .any ops L).contains k) (cond (isAl ops.toList k) (cond (allEq k (Region.ready .any ops (withAl ops L k))) (ih (L.setIfInBounds k true)) false) false) false) pl
def alsIn (ops:Array Oper)(pl:List Pl):Bool:=(List.range ops.size).all fun k => !(isAl ops.toList k) || (alsOf pl).contains k
theorem ziy {o:Oper}{m:Nat}:∀ {l:List Oper} {k:Nat},wrOk o m l k=true→∀ (j:Nat) oj,l[j]? = some oj→oj.dst=some m→(∃ e∈o.after,Region.binds .any e=true∧e.on=k+j)∧mkOps oj.op=none
 | [],k,_,j,oj,hj,_=>by simp at hj
 |a :: l,k,h,j,oj,hj,hd=>by
  change cond (dstNe m a) (wrOk o m l (k+1)) (cond (hasEdge o k) (cond (isMk a) false (wrOk o m l (k+1))) false)=true at h
  have hr:wrOk o m l (k+1)=true:=by
   cases h1:dstNe m a with
   |true=>rw[h1] at h;exact h
   |false =>
    rw[h1] at h
    cases h2:hasEdge o k with
    |false=>rw[h2] at h;cases h
    |true =>
     rw[h2] at h
     cases h3:isMk a with
     |true=>rw[h3] at h;cases h
     |false=>rw[h3] at h;exact h
  cases j with
  |succ j =>
   obtain ⟨⟨e,h1,h2,h3⟩,h4⟩:=ziy hr j oj (by simpa using hj) hd
   exact ⟨⟨e,h1,h2,by omega⟩,h4⟩
  |zero =>
   simp only[List.getElem?_cons_zero,Option.some.injEq] at hj
   subst hj
   have h1:dstNe m a=false:=by unfold dstNe;rw[hd];simp
   rw[h1] at h
   cases h2:hasEdge o k with
   |false=>rw[h2] at h;cases h
   |true =>
    rw[h2] at h
    cases h3:isMk a with
    |true=>rw[h3] at h;cases h
    |false =>
     refine ⟨?_,?_⟩
     ·unfold hasEdge at h2
      obtain ⟨e,he,hb⟩:=List.any_eq_true.1 h2
      simp only[Bool.and_eq_true] at hb
      exact ⟨e,by simpa using he,hb.1,by rw[xB hb.2];rfl⟩
     ·unfold isMk at h3
      split at h3
      ·cases h3
      ·assumption
theorem zbc {ops:Array Oper}{k:Nat}{o:Oper}{d:Nat}(h:alOf ops.toList k=some (o,d)) :
  ∃ ys,ops[k]? = some o∧mkOps o.op=some ys∧o.dst=some d∧(∀ (j:Nat) oj,j≠k→ops[j]? = some oj→oj.dst≠some d) ∧
   ∀ m,Operand.tmp m∈ys++gdT ops.toList o→∀ (j:Nat) oj,ops[j]? = some oj→oj.dst=some m→(∃ e∈o.after,Region.binds .any e=true∧e.on=j)∧mkOps oj.op=none:=by
 unfold alOf at h
 split at h
 ·rename_i o' ho
  rw[nth_eq] at ho
  have ho:ops[k]? = some o':=by simpa using ho
  split at h
  ·rename_i ys d' h1 h3
   obtain ⟨b1,h⟩:=zac h
   obtain ⟨b2,h⟩:=zac h
   obtain ⟨b3,h⟩:=zac h
   injection h with h;injection h with h4 h5;subst h4;subst h5
   rw[app_eq] at b3
   rw[zk2] at b1
   rw[zrq] at b2
   refine ⟨ys,ho,h1,h3,fun j oj hj hoj hd=>?_,fun m hm j oj hj hd=>by
    have:=ziy (k:=0) ((zag _ _).1 b3 _ hm) j oj (by simpa using hj) hd
    simpa using this⟩
   have hoj':ops.toList[j]? = some oj:=by simpa using hoj
   have hd':dstNe d' oj=true:=by
    rcases Nat.lt_or_gt_of_ne hj with hlt|hgt
    ·exact (zag _ _).1 b1 oj (List.mem_of_getElem? (i:=j) (by rw[List.getElem?_take_of_lt hlt];exact hoj'))
    ·exact (zag _ _).1 b2 oj (List.mem_of_getElem? (i:=j - (k+1)) (by rw[List.getElem?_drop,show k+1+(j - (k+1))=j by omega];exact hoj'))
   unfold dstNe at hd'
   rw[hd] at hd'
   simp[Nat.beq_refl] at hd'
  ·cases h
 ·cases h
theorem zlg {ops:List Oper}{k:Nat}(h:isAl ops k=true):∃ o d,alOf ops k=some (o,d):=by
 unfold isAl at h
 split at h
 ·rename_i p hp;exact ⟨p.1,p.2,hp⟩
 ·cases h
theorem zlh {ops:Array Oper}{L:Array Bool}(hcl:Cl ops L):∀ {T seen:List Nat},okT ops.toList T seen=true→(∀ k∈seen,L.getD k false=false)→∀ k∈T,L.getD k false=false
 | [],seen,_,_=>fun k hk=>by cases hk
 |k :: T,seen,h,hs=>by
  change (match nth ops.toList k with
   |some o=>cond (edgeTo o seen) (okT ops.toList T (k :: seen)) false
   |none=>false)=true at h
  split at h
  ·rename_i o ho
   have ho':ops[k]? = some o:=by rw[nth_eq] at ho;simpa using ho
   cases h3:edgeTo o seen with
   |false=>rw[h3] at h;cases h
   |true =>
    rw[h3] at h
    simp only[cond_true] at h
    have hk:L.getD k false=false:=by
     cases hb:L.getD k false with
     |false=>rfl
     |true =>
      unfold edgeTo at h3
      obtain ⟨e,he,hb2⟩:=List.any_eq_true.1 h3
      simp only[Bool.and_eq_true] at hb2
      have:=hcl k o ho' hb e (by simpa using he) hb2.1
      rw[hs e.on (by simpa using hb2.2)] at this;cases this
    have r1:=zlh hcl h (fun j hj=>by
     rcases List.mem_cons.1 hj with rfl|hj
     ·exact hk
     ·exact hs j hj)
    intro j hj
    rcases List.mem_cons.1 hj with rfl|hj
    ·exact hk
    ·exact r1 j hj
  ·cases h
theorem zrs {ops:Array Oper}{T D seen:List Nat}(h:okD ops.toList T D seen=true):∀ k∈D,takeK ops.toList k=false∧isAl ops.toList k=false:=fun k hk=>by
 unfold okD at h
 cases h1:okT ops.toList T seen with
 |false=>rw[h1] at h;cases h
 |true =>
  rw[h1] at h
  have:=(zag _ _).1 h k hk
  cases h2:T.contains k with
  |false=>rw[h2] at this;cases this
  |true =>
   cases h3:takeK ops.toList k with
   |true=>rw[h2,h3] at this;cases this
   |false=>rw[h2,h3] at this;exact ⟨rfl,by simpa using this⟩
theorem zrt {ops:Array Oper}{L:Array Bool}(hcl:Cl ops L){T D seen:List Nat}(h:okD ops.toList T D seen=true)(hs:∀ k∈seen,L.getD k false=false):∀ k∈D,L.getD k false=false:=fun k hk=>by
 unfold okD at h
 cases h1:okT ops.toList T seen with
 |false=>rw[h1] at h;cases h
 |true =>
  rw[h1] at h
  have:=(zag _ _).1 h k hk
  cases h2:T.contains k with
  |false=>rw[h2] at this;cases this
  |true=>exact zlh hcl h1 hs k (by simpa using h2)
def xmk (x:X)(f:Operand→Option Value)(op:Op):Option (Bk×Option (Nat×Nat)) :=
 match op with
 | .alloc e=>match x.ti.get e with
  |some i=>match i.zero with
   |some z=>some (oneBk e (cellsOf z),none)
   |none=>none
  |none=>none
 | .buildSlice ty k parts=>match undT x.ti ty,evP f parts.toList with
  |some (TypeDesc.slice e),some ps=>match x.ti.get e with
   |some te=>match te.zero with
    |some z=>cond (Nat.beq (len (cellsOf z)) te.size) (cond (Nat.ble (k*te.size) 4096) (match fillL (fun i=>some (i*te.size,te.size)) ps (repL (cellsOf z) k) with
     |some l=>some (newBk e l,some (k,k))
     |none=>none) none) none
    |none=>none
   |none=>none
  |_,_=>none
 | .makeSlice ty l c=>match undT x.ti ty,f l,f c with
  |some (TypeDesc.slice e),some (.int .i64 (.ofNat n)),some (.int .i64 (.ofNat k))=>match x.ti.get e with
   |some te=>match te.zero with
    |some z=>cond (Nat.beq (len (cellsOf z)) te.size) (cond (Nat.ble n k) (cond (Nat.ble k 1073741824) (cond (Nat.ble te.bytes 65536)
      (some ({ elem:=e,size:=k*te.size,ro:=false,dflt:=cellsOf z,cells := .leaf },some (n,k))) none) none) none) none
    |none=>none
   |none=>none
  |_,_,_=>none
 |_=>none
def mkV (q:Option (Nat×Nat))(p:Nat):Value:=match q with
 |none => .pointer (some ⟨p,0,none⟩)
 |some (n,c) => .slice (some ⟨p,0,none⟩) n c
def mkA (q:Option (Nat×Nat))(p:Nat):Value:=match q with
 |none => .pointer (some ⟨p,0,none⟩)
 |some (n,c) => .slice (some ⟨p,0,none⟩) n (2*c)
theorem zxo {E:En}{b p m:Nat}(q:Option (Nat×Nat))(h:E b=some ⟨p,0,m⟩):VR E (mkA q b) (mkV q p):=by
 cases q with
 |none=>exact VR.ptr (o:=0) h
 |some q=>exact VR.slice (o:=0) h (.inl ⟨by omega,by omega⟩)
def MkRel (E:En)(B:Bk)(cs:Array Value):Prop:=B.size≤cs.size∧(∀ j v,B.at j=some v→∃ u,cs[j]? = some u∧VR E v u)∧(B.one=true→cs.size=B.size)
theorem MkRel.mono {E E':En}{B:Bk}{cs:Array Value}(h:MkRel E B cs)(hE:E.le E'):MkRel E' B cs:=⟨h.1,fun j v hv=>by
 obtain ⟨u,hu,hr⟩:=h.2.1 j v hv
 exact ⟨u,hu,hr.mono hE⟩,h.2.2⟩
theorem MkRel.list {E:En}{e:TypeId}{l l':List Value}(h:LR E l l'):MkRel E (newBk e l) ⟨l'⟩:=⟨by show len l≤_;rw[za9,h.length];exact Nat.le_refl _,fun j v hv=>by
 rw[zcm] at hv
 obtain ⟨u,hu,hr⟩:=F2.get h hv
 exact ⟨u,by rw[xA];exact hu,hr⟩,fun h=>by cases h⟩
theorem MkRel.one {E:En}{e:TypeId}{l l':List Value}(h:LR E l l'):MkRel E (oneBk e l) ⟨l'⟩:=⟨by show len l≤_;rw[za9,h.length];exact Nat.le_refl _,fun j v hv=>by
 rw[zok] at hv
 obtain ⟨u,hu,hr⟩:=F2.get h hv
 exact ⟨u,by rw[xA];exact hu,hr⟩,fun _=>by show l'.length=len l;rw[za9,h.length]⟩
theorem zli {f g:Operand→Option Value}:∀ (l:List (Nat×Operand)),(∀ p∈l,f p.2=g p.2)→evP f l=evP g l
 | [],_=>rfl
 |p :: l,h=>by
  have ih:=zli l (fun q hq=>h q (List.mem_cons_of_mem _ hq))
  show (match f p.2 with
   |some v=>match evP f l with
    |some r=>some ((p.1,v) :: r)
    |none=>none
   |none=>none)=(match g p.2 with
   |some v=>match evP g l with
    |some r=>some ((p.1,v) :: r)
    |none=>none
   |none=>none)
  rw[h p List.mem_cons_self,ih]
theorem zru {x:X}{f g:Operand→Option Value}{op:Op}{ys:List Operand}(hy:mkOps op=some ys)(h:∀ y∈ys,f y=g y):xmk x f op=xmk x g op:=by
 unfold mkOps at hy
 split at hy
 ·rfl
 ·cases hy
  rename_i ty k ps
  have:evP f ps.toList=evP g ps.toList:=zli _ fun p hp=>h _ (List.mem_map.2 ⟨p,hp,rfl⟩)
  unfold xmk
  simp only[this]
 ·cases hy
  unfold xmk
  simp only[h _ List.mem_cons_self,h _ (List.mem_cons_of_mem _ List.mem_cons_self)]
 ·cases hy
section
variable {x:X}{E:En}{n:Nat}{t:Tr Value}{a:Act}{o:Oper}
theorem zrv (hx:x.Ok)(ht:TR E n t a.tmps)(hg:GOk x.ng E){B:Bk}{q:Option (Nat×Nat)}(hh:xmk x (ev x.ng t) o.op=some (B,q)) :
  ∃ cs,MkRel E B cs∧∀ w,(execOp a.eval o).run x.P w = .ok (.value (mkV q w.heap.size)) (w.alloc (.cells cs B.elem)):=by
 unfold xmk at hh
 split at hh
 ·rename_i e ho
  split at hh
  ·rename_i i hi
   have hti:=hx.tiOk hi
   split at hh
   ·rename_i z hz
    cases hh
    have hzr:LR E (cellsOf z) (cellsOf z):=(VR.of_plain (E:=E) (hti.zero_plain hz)).cells
    refine ⟨⟨cellsOf z⟩,.one hzr,fun w=>?_⟩
    unfold execOp
    rw[ho]
    have:z.cells=⟨cellsOf z⟩:=Array.toList_inj.1 (zbf z)
    simp only[qT,Instr.alloc,hti.run_zero w hz,qS,newVar,newRow,run_newObj,qU,this,World.alloc_eq]
    rfl
   ·cases hh
  ·cases hh
 ·rename_i ty k parts ho
  split at hh
  ·rename_i e ps hu hps
   obtain ⟨i,hi,hu⟩:=zao hx hu
   have hps:=zfa ht hg hps
   split at hh
   ·rename_i te hte
    have hti:=hx.tiOk hte
    split at hh
    ·rename_i z hz
     obtain ⟨b1,hh⟩:=zac hh
     obtain ⟨b2,hh⟩:=zac hh
     have b1:=zay b1
     have b2:=zbh b2
     rw[za9] at b1
     split at hh
     ·rename_i l hl
      cases hh
      have hzp:=hti.zero_plain hz
      obtain ⟨r1,r2⟩:=zee (z:=z) (k*te.size) (by rw[b1];exact zjx _ _)
      have hzr:LR E (cellsOf z) (cellsOf z):=(VR.of_plain (E:=E) hzp).cells
      have hL:LR E (repL (cellsOf z) k) ((Array.range (k*te.size)).map (z.cells[· % z.cells.size]!)).toList:=F2.of_get (by rw[zcz,r1,b1]) fun j u u' hj hj'=>by
       have hlt:j<k*te.size:=by
        have:=(xC.1 hj).1
        rw[zcz,b1] at this;exact this
       rw[zjy _ _ _ (by rw[b1];exact hlt)] at hj
       rw[Array.getElem?_toList,r2 j hlt] at hj'
       obtain ⟨u2,hu2,hr2⟩:=F2.get hzr hj
       rw[hj'] at hu2;cases hu2;exact hr2
      obtain ⟨r',hr',hrr⟩:=zhh _ hps hL hl
      have hf:=ze9 (fun i=>some (i*te.size,te.size)) (parts.toList.map fun p=>(p.1,a.eval p.2)) ((Array.range (k*te.size)).map (z.cells[· % z.cells.size]!))
      rw[hr'] at hf
      obtain ⟨arr,ha,hb⟩:=map_some hf
      have harr:arr=⟨r'⟩:=Array.toList_inj.1 (by simpa using hb)
      subst harr
      refine ⟨⟨r'⟩,.list hrr,fun w=>?_⟩
      unfold execOp
      rw[ho]
      simp only[qT,Instr.buildSlice,hi.run_under w,hu,qS,hti.run_size w,qW (show ¬ k*te.size > 2 ^ 24 by omega),qU,zfc]
      by_cases h0:k*te.size=0
      ·have e0:(Array.range (k*te.size)).map (fun y=>(#[]:Array Value)[y % (#[]:Array Value).size]!)=(Array.range (k*te.size)).map (z.cells[· % z.cells.size]!):=by rw[h0];simp
       rw[qX h0]
       simp only[qT,qU,qS,e0,ha,newRow,run_newObj,World.alloc_eq]
       rfl
      ·rw[qW h0]
       simp only[qT,qU,qS,hti.run_zero w hz,ha,newRow,run_newObj,World.alloc_eq]
       rfl
     ·cases hh
    ·cases hh
   ·cases hh
  ·cases hh
 ·rename_i ty p q' ho
  split at hh
  ·rename_i e l c hu hp hq
   obtain ⟨i,hi,hu⟩:=zao hx hu
   have e1:=VR.plain_inv rfl (zae ht hg hp)
   have e2:=VR.plain_inv rfl (zae ht hg hq)
   split at hh
   ·rename_i te hte
    have hti:=hx.tiOk hte
    split at hh
    ·rename_i z hz
     obtain ⟨b1,hh⟩:=zac hh
     obtain ⟨b2,hh⟩:=zac hh
     obtain ⟨b3,hh⟩:=zac hh
     obtain ⟨b4,hh⟩:=zac hh
     cases hh
     have b1:=zay b1
     have b2:=zbh b2
     have b3:=zbh b3
     have b4:=zbh b4
     rw[za9] at b1
     have hzp:=hti.zero_plain hz
     obtain ⟨r1,r2⟩:=zee (z:=z) (c*te.size) (by rw[b1];exact zjx _ _)
     have hzr:LR E (cellsOf z) (cellsOf z):=(VR.of_plain (E:=E) hzp).cells
     refine ⟨(Array.range (c*te.size)).map (z.cells[· % z.cells.size]!),⟨by simp,fun j u hu=>?_,fun h=>by cases h⟩,fun w=>?_⟩
     ·rw[Bk.at_eq] at hu
      by_cases hj:j<c*te.size
      ·rw[qX hj] at hu
       change (cellsOf z)[j % (cellsOf z).length]? = some u at hu
       rw[r2 j hj]
       exact F2.get hzr hu
      ·rw[qW hj] at hu;cases hu
     ·unfold execOp
      rw[ho]
      obtain ⟨inf,hinf,hby,_⟩:=hti.run_info w
      have wl:IntKind.i64.wrap (Int.ofNat l)=(l:Int):=by rw[IntKind.wrap_i64];simp only[Int.ofNat_eq_natCast];omega
      have wc:IntKind.i64.wrap (Int.ofNat c)=(c:Int):=by rw[IntKind.wrap_i64];simp only[Int.ofNat_eq_natCast];omega
      have hmul:(te.bytes:Int)*(c:Int)≤281474976710656:=by
       have h1:te.bytes*c≤281474976710656:=Nat.le_trans (Nat.mul_le_mul b4 b3) (by omega)
       have h2:=Int.ofNat_le.2 h1
       rw[Int.natCast_mul] at h2
       exact h2
      have hp:(2:Int) ^ 48=281474976710656:=rfl
      have hc1:((decide ((c:Int)<0) || decide ((te.bytes:Int)*(c:Int) > 2 ^ 48)) || decide ((l:Int)<0) || decide ((l:Int) > (c:Int)))=false:=by
       rw[hp,decide_eq_false (by omega),decide_eq_false (by omega),decide_eq_false (by omega),decide_eq_false (by omega)];rfl
      simp only[qT,Instr.makeSlice,hi.run_under w,hu,qS,e1,e2,asInt,asIntOf,qU,hinf,hby,wl,wc,hc1,Bool.false_eq_true,if_false,run_askRoom,Int.toNat_natCast,hti.run_size w]
      by_cases h0:c*te.size=0
      ·have e0:(Array.range (c*te.size)).map (fun y=>(#[]:Array Value)[y % (#[]:Array Value).size]!)=(Array.range (c*te.size)).map (z.cells[· % z.cells.size]!):=by rw[h0];simp
       rw[qX h0]
       simp only[qT,qU,qS,e0,newRow,run_newObj,World.alloc_eq]
       rfl
      ·rw[qW h0]
       simp only[qT,qU,qS,hti.run_zero w hz,newRow,run_newObj,World.alloc_eq]
       rfl
    ·cases hh
   ·cases hh
  ·cases hh
 ·cases hh
end
abbrev Mkd:=Option (Bk×Option (Nat×Nat))
def xmkw (x:X)(ops:List Oper)(t:Tr Value)(o:Oper):Option Mkd:=match xwant ops t o with
 |some true=>match xmk x (ev x.ng t) o.op with
  |some r=>some (some r)
  |none=>none
 |some false=>some none
 |none=>none
theorem zm8 {ops:List Oper}{t t':Tr Value}{o:Oper}(h:∀ d,Operand.tmp d∈gdT ops o→t'.get d=t.get d):xwant ops t' o=xwant ops t o:=by
 unfold xwant
 cases hg:o.guard with
 |none=>rfl
 |some g =>
  obtain ⟨j,want⟩:=g
  simp only
  cases hj:nth ops j with
  |none=>rfl
  |some oj =>
   simp only
   cases hd:oj.dst with
   |none=>rfl
   |some d =>
    simp only
    rw[h d (by unfold gdT;rw[hg];simp only[hj,hd];exact List.mem_singleton.2 rfl)]
theorem ev_put {ng:Gb}{t t':Tr Value}{y:Operand}(h:∀ m,y = .tmp m→t'.get m=t.get m):ev ng t' y=ev ng t y:=by
 cases y with
 |tmp m=>exact h m rfl
 |_=>rfl
theorem zp8 {x:X}{ops:List Oper}{t t':Tr Value}{o:Oper}{ys:List Operand}(hy:mkOps o.op=some ys)(h:∀ m,Operand.tmp m∈ys++gdT ops o→t'.get m=t.get m):xmkw x ops t' o=xmkw x ops t o:=by
 unfold xmkw
 rw[zm8 fun d hd=>h d (List.mem_append.2 (.inr hd)),zru (f:=ev x.ng t') (g:=ev x.ng t) hy fun y hym=>ev_put fun m hm=>h m (List.mem_append.2 (.inl (by rw[← hm];exact hym)))]
end Go.Proofs.YtemgclnkgieldaaGreatDoor.CX
