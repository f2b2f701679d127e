/- A run of code whose input is known, by the kernel: part 1. -/
import Derived.OrdersHeld
import Derived.Below
noncomputable section
namespace Go.Proofs.YtemgclnkgieldaaGreatDoor.CX
section
open Go Go.RowKit
set_option linter.defProp false
def qS:=@Result.andThen_ok
def qT:=@Sem.run_bind
def qU:=@Sem.run_pure
def qW:=@if_neg
def qX:=@if_pos
def qY:=@Array.getElem?_eq_some_iff
def qZ:=@Array.getD_eq_getD_getElem?
def xA:=@List.getElem?_toArray
def xB:=@Nat.eq_of_beq_eq_true
def xC:=@List.getElem?_eq_some_iff
end
inductive Tr (α:Type) where
 |leaf
 |node (l:Tr α) (v:Option α) (r:Tr α)
theorem zcl {n:Nat}(h:¬ n=0):Nat.beq n 0=false:=by
 cases n with
 |zero=>exact absurd rfl h
 |succ n=>rfl
section
variable {α:Type}
def Tr.get (t:Tr α):Nat→Option α :=
 Tr.rec (motive:=fun _=>Nat→Option α) (fun _=>none)
  (fun _ v _ gl gr i=>Nat.rec (motive:=fun _=>Option α) v
   (fun j _=>Bool.rec (motive:=fun _=>Option α) (gr (Nat.div j 2)) (gl (Nat.div j 2)) (Nat.beq (Nat.mod j 2) 0)) i) t
def singleF (x:α)(d:Nat):Nat→Tr α :=
 Nat.rec (motive:=fun _=>Nat→Tr α) (fun _ => .leaf)
  (fun _ ih i=>Nat.rec (motive:=fun _=>Tr α) (.node .leaf (some x) .leaf)
   (fun j _=>Bool.rec (motive:=fun _=>Tr α) (.node .leaf none (ih (Nat.div j 2))) (.node (ih (Nat.div j 2)) none .leaf) (Nat.beq (Nat.mod j 2) 0)) i) d
def Tr.set (x:α)(t:Tr α):Nat→Tr α :=
 Tr.rec (motive:=fun _=>Nat→Tr α) (fun i=>singleF x (i+1) i)
  (fun l v r sl sr i=>Nat.rec (motive:=fun _=>Tr α) (.node l (some x) r)
   (fun j _=>Bool.rec (motive:=fun _=>Tr α) (.node l v (sr (Nat.div j 2))) (.node (sl (Nat.div j 2)) v r) (Nat.beq (Nat.mod j 2) 0)) i) t
theorem Tr.get_leaf (i:Nat):(Tr.leaf:Tr α).get i=none:=rfl
theorem Tr.get_zero (l:Tr α)(v:Option α)(r:Tr α):(Tr.node l v r).get 0=v:=rfl
theorem Tr.get_succ (l:Tr α)(v:Option α)(r:Tr α)(j:Nat):(Tr.node l v r).get (j+1)=if j % 2=0 then l.get (j / 2) else r.get (j / 2):=by
 show Bool.rec (motive:=fun _=>Option α) (r.get (j / 2)) (l.get (j / 2)) (Nat.beq (j % 2) 0)=_
 by_cases h:j % 2=0
 ·rw[qX h,h];rfl
 ·rw[qW h,zcl h]
theorem zk0 (x:α)(d j:Nat):singleF x (d+1) (j+1)=if j % 2=0 then .node (singleF x d (j / 2)) none .leaf else .node .leaf none (singleF x d (j / 2)):=by
 show Bool.rec (motive:=fun _=>Tr α) (Tr.node .leaf none (singleF x d (j / 2))) (Tr.node (singleF x d (j / 2)) none .leaf) (Nat.beq (j % 2) 0)=_
 by_cases h:j % 2=0
 ·rw[qX h,h];rfl
 ·rw[qW h,zcl h]
theorem Tr.set_succ (x:α)(l:Tr α)(v:Option α)(r:Tr α)(j:Nat):(Tr.node l v r).set x (j+1)=if j % 2=0 then .node (l.set x (j / 2)) v r else .node l v (r.set x (j / 2)):=by
 show Bool.rec (motive:=fun _=>Tr α) (Tr.node l v (r.set x (j / 2))) (Tr.node (l.set x (j / 2)) v r) (Nat.beq (j % 2) 0)=_
 by_cases h:j % 2=0
 ·rw[qX h,h];rfl
 ·rw[qW h,zcl h]
theorem zey (x:α):∀ d i j,i<d→(singleF x d i).get j=if j=i then some x else none
 | 0,i,j,h=>by omega
 |d+1,0,j,_=>by
  show (Tr.node .leaf (some x) .leaf).get j=_
  cases j with
  |zero=>rfl
  |succ j=>rw[Tr.get_succ];simp[Tr.get_leaf]
 |d+1,i+1,j,h=>by
  rw[zk0]
  by_cases hi:i % 2=0
  ·rw[qX hi]
   cases j with
   |zero=>simp[Tr.get_zero]
   |succ j =>
    rw[Tr.get_succ]
    by_cases hj:j % 2=0
    ·rw[qX hj,zey x d _ _ (by omega)]
     by_cases e:j=i
     ·subst e;simp
     ·rw[qW (by omega),qW (by omega)]
    ·rw[qW hj,Tr.get_leaf,qW (by omega)]
  ·rw[qW hi]
   cases j with
   |zero=>simp[Tr.get_zero]
   |succ j =>
    rw[Tr.get_succ]
    by_cases hj:j % 2=0
    ·rw[qX hj,Tr.get_leaf,qW (by omega)]
    ·rw[qW hj,zey x d _ _ (by omega)]
     by_cases e:j=i
     ·subst e;simp
     ·rw[qW (by omega),qW (by omega)]
theorem Tr.get_set (x:α):∀ (t:Tr α) (i j:Nat),(t.set x i).get j=if j=i then some x else t.get j
 | .leaf,i,j=>by show (singleF x (i+1) i).get j=_;rw[zey x _ _ _ (by omega),Tr.get_leaf]
 | .node l v r,0,j=>by
  show (Tr.node l (some x) r).get j=_
  cases j with
  |zero=>rfl
  |succ j=>rw[Tr.get_succ,Tr.get_succ];simp
 | .node l v r,i+1,j=>by
  rw[Tr.set_succ]
  by_cases hi:i % 2=0
  ·rw[qX hi]
   cases j with
   |zero=>simp[Tr.get_zero]
   |succ j =>
    rw[Tr.get_succ,Tr.get_succ]
    by_cases hj:j % 2=0
    ·rw[qX hj,qX hj,Tr.get_set x l]
     by_cases e:j=i
     ·subst e;simp
     ·rw[qW (by omega),qW (by omega)]
    ·rw[qW hj,qW hj,qW (by omega)]
  ·rw[qW hi]
   cases j with
   |zero=>simp[Tr.get_zero]
   |succ j =>
    rw[Tr.get_succ,Tr.get_succ]
    by_cases hj:j % 2=0
    ·rw[qX hj,qX hj,qW (by omega)]
    ·rw[qW hj,qW hj,Tr.get_set x r]
     by_cases e:j=i
     ·subst e;simp
     ·rw[qW (by omega),qW (by omega)]
theorem Tr.get_set_ne (x:α)(t:Tr α){i j:Nat}(h:j≠i):(t.set x i).get j=t.get j:=by rw[Tr.get_set,qW h]
def Tr.del (t:Tr α):Nat→Tr α :=
 Tr.rec (motive:=fun _=>Nat→Tr α) (fun _ => .leaf)
  (fun l v r sl sr i=>Nat.rec (motive:=fun _=>Tr α) (.node l none r)
   (fun j _=>Bool.rec (motive:=fun _=>Tr α) (.node l v (sr (Nat.div j 2))) (.node (sl (Nat.div j 2)) v r) (Nat.beq (Nat.mod j 2) 0)) i) t
theorem Tr.del_succ (l:Tr α)(v:Option α)(r:Tr α)(j:Nat):(Tr.node l v r).del (j+1)=if j % 2=0 then .node (l.del (j / 2)) v r else .node l v (r.del (j / 2)):=by
 show Bool.rec (motive:=fun _=>Tr α) (Tr.node l v (r.del (j / 2))) (Tr.node (l.del (j / 2)) v r) (Nat.beq (j % 2) 0)=_
 by_cases h:j % 2=0
 ·rw[qX h,h];rfl
 ·rw[qW h,zcl h]
theorem Tr.get_del:∀ (t:Tr α) (i j:Nat),(t.del i).get j=if j=i then none else t.get j
 | .leaf,i,j=>by show (Tr.leaf:Tr α).get j=_;rw[Tr.get_leaf];simp
 | .node l v r,0,j=>by
  show (Tr.node l none r).get j=_
  cases j with
  |zero=>rfl
  |succ j=>rw[Tr.get_succ,Tr.get_succ];simp
 | .node l v r,i+1,j=>by
  rw[Tr.del_succ]
  by_cases hi:i % 2=0
  ·rw[qX hi]
   cases j with
   |zero=>simp[Tr.get_zero]
   |succ j =>
    rw[Tr.get_succ,Tr.get_succ]
    by_cases hj:j % 2=0
    ·rw[qX hj,qX hj,Tr.get_del l]
     by_cases e:j=i
     ·subst e;simp
     ·rw[qW (by omega),qW (by omega)]
    ·rw[qW hj,qW hj,qW (by omega)]
  ·rw[qW hi]
   cases j with
   |zero=>simp[Tr.get_zero]
   |succ j =>
    rw[Tr.get_succ,Tr.get_succ]
    by_cases hj:j % 2=0
    ·rw[qX hj,qX hj,qW (by omega)]
    ·rw[qW hj,qW hj,Tr.get_del r]
     by_cases e:j=i
     ·subst e;simp
     ·rw[qW (by omega),qW (by omega)]
def full (f:Nat→Option α)(d:Nat):Nat→Nat→Tr α :=
 Nat.rec (motive:=fun _=>Nat→Nat→Tr α) (fun _ _ => .leaf) (fun _ ih a b => .node (ih (2*a) (a+b)) (f b) (ih (2*a) (2*a+b))) d
theorem zg4 (f:Nat→Option α):∀ d a b i x,(full f d a b).get i=some x→f (a*i+b)=some x
 | 0,a,b,i,x,h=>by cases h
 |d+1,a,b,i,x,h=>by
  change (Tr.node (full f d (2*a) (a+b)) (f b) (full f d (2*a) (2*a+b))).get i=some x at h
  cases i with
  |zero=>simpa [Tr.get_zero] using h
  |succ j =>
   rw[Tr.get_succ] at h
   by_cases hj:j % 2=0
   ·rw[qX hj] at h
    have:=zg4 f d _ _ _ _ h
    rw[← this];congr 1
    have e:2*a*(j / 2)=a*j:=by rw[show 2*a*(j / 2)=a*(2*(j / 2)) by rw[Nat.mul_comm 2 a,Nat.mul_assoc],show 2*(j / 2)=j by omega]
    rw[e,Nat.mul_add];omega
   ·rw[qW hj] at h
    have:=zg4 f d _ _ _ _ h
    rw[← this];congr 1
    have e:2*a*(j / 2)+a=a*j:=by
     have:j=2*(j / 2)+1:=by omega
     rw[show 2*a*(j / 2)=a*(2*(j / 2)) by rw[Nat.mul_comm 2 a,Nat.mul_assoc]]
     conv=>rhs;rw[this]
     rw[Nat.mul_add];omega
    rw[Nat.mul_add];omega
end
open Go Go.RowKit
inductive F2 {α β:Type} (R:α→β→Prop):List α→List β→Prop where
 |nil:F2 R [] []
 |cons {a:α} {b:β} {l:List α} {m:List β} (h:R a b) (t:F2 R l m):F2 R (a :: l) (b :: m)
section
variable {α β:Type}{R S:α→β→Prop}{l l₂:List α}{m m₂:List β}
theorem F2.length (h:F2 R l m):l.length=m.length:=by
 induction h with
 |nil=>rfl
 |cons _ _ ih=>simp[ih]
theorem F2.mono (hR:∀ a b,R a b→S a b)(h:F2 R l m):F2 S l m:=by
 induction h with
 |nil=>exact .nil
 |cons h _ ih=>exact .cons (hR _ _ h) ih
theorem F2.append (h:F2 R l m)(h₂:F2 R l₂ m₂):F2 R (l++l₂) (m++m₂):=by
 induction h with
 |nil=>exact h₂
 |cons h _ ih=>exact .cons h ih
theorem F2.take (h:F2 R l m)(n:Nat):F2 R (l.take n) (m.take n):=by
 induction h generalizing n with
 |nil=>simp;exact .nil
 |cons h _ ih=>cases n with
  |zero=>exact .nil
  |succ n=>exact .cons h (ih n)
theorem F2.drop (h:F2 R l m)(n:Nat):F2 R (l.drop n) (m.drop n):=by
 induction h generalizing n with
 |nil=>simp;exact .nil
 |cons h t ih=>cases n with
  |zero=>exact .cons h t
  |succ n=>exact ih n
theorem F2.get (h:F2 R l m){i:Nat}{a:α}(ha:l[i]? = some a):∃ b,m[i]? = some b∧R a b:=by
 induction h generalizing i with
 |nil=>simp at ha
 |cons h _ ih=>cases i with
  |zero=>simp at ha;subst ha;exact ⟨_,rfl,h⟩
  |succ i=>simp at ha;simpa using ih ha
theorem F2.of_get (hl:l.length=m.length)(h:∀ (i:Nat) a b,l[i]? = some a→m[i]? = some b→R a b):F2 R l m:=by
 induction l generalizing m with
 |nil=>cases m with
  |nil=>exact .nil
  |cons _ _=>simp at hl
 |cons a l ih=>cases m with
  |nil=>simp at hl
  |cons b m=>exact .cons (h 0 a b rfl rfl) (ih (by simpa using hl) fun i a b ha hb=>h (i+1) a b (by simpa using ha) (by simpa using hb))
theorem F2.map {γ δ:Type}{T:γ→δ→Prop}{f:α→γ}{g:β→δ}(h:F2 R l m)(hf:∀ a b,R a b→T (f a) (g b)):F2 T (l.map f) (m.map g):=by
 induction h with
 |nil=>exact .nil
 |cons h _ ih=>exact .cons (hf _ _ h) ih
end
theorem F2.refl {α:Type}{R:α→α→Prop}(l:List α)(h:∀ a∈l,R a a):F2 R l l:=by
 induction l with
 |nil=>exact .nil
 |cons a l ih=>exact .cons (h a (by simp)) (ih fun b hb=>h b (by simp[hb]))
structure Em where
 blk:Nat
 d:Nat
 m:Nat
structure En where
 f:Nat→Option Em
 s:Nat→Value
 one:∀ n,(s n).oneCell'=true
instance:CoeFun En (fun _=>Nat→Option Em):=⟨En.f⟩
structure En.le (E E':En):Prop where
 s:E'.s=E.s
 le:∀ b x,E b=some x→E' b=some x
instance {E E':En}:CoeFun (E.le E') (fun _=>∀ b x,E b=some x→E' b=some x):=⟨En.le.le⟩
theorem En.le_refl (E:En):E.le E:=⟨rfl,fun _ _ h=>h⟩
theorem En.le_trans {E F G:En}(h:E.le F)(k:F.le G):E.le G:=⟨k.s.trans h.s,fun b x hx=>k.le b x (h.le b x hx)⟩
def plainCell:Value→Bool
 | .bool _ | .int .. | .complex .. | .string _ | .pointer none | .nilFunc | .nilIface | .slice none 0 0 | .map none | .chan none=>true
 |_=>false
def allB {α:Type}(p:α→Bool)(l:List α):Bool:=List.rec (motive:=fun _=>Bool) true (fun a _ ih=>cond (p a) ih false) l
theorem zrm {α:Type}(p:α→Bool)(a:α)(l:List α):allB p (a :: l)=cond (p a) (allB p l) false:=rfl
theorem zag {α:Type}(p:α→Bool)(l:List α):allB p l=true↔∀ a∈l,p a=true:=by
 induction l with
 |nil=>simp[allB]
 |cons a l ih=>rw[zrm];cases h:p a <;> simp[h,ih]
def plain:Value→Bool
 | .agg ⟨l⟩=>allB plainCell l
 | .tuple ⟨l⟩=>allB plainCell l
 |v=>plainCell v
def CapR (e:Em)(o c c':Nat):Prop:=(c % 2=0∧c'=c / 2)∨(c % 2=1∧c / 131072≤c'∧o+c'*(c / 2 % 65536)=e.m∧0<c / 2 % 65536)
inductive VR (E:En):Value→Value→Prop where
 |plain {v:Value} (h:plainCell v=true):VR E v v
 |sym {k:FloatKind} {n:Nat}:VR E (.float k n) (E.s n)
 |ptr {b o:Nat} {e:Em} (h:E b=some e):VR E (.pointer (some ⟨b,o,none⟩)) (.pointer (some ⟨e.blk,o+e.d,none⟩))
 |slice {b o n c c':Nat} {e:Em} (h:E b=some e) (hc:CapR e o c c'):VR E (.slice (some ⟨b,o,none⟩) n c) (.slice (some ⟨e.blk,o+e.d,none⟩) n c')
 |map {b:Nat} {e:Em} (h:E b=some e):VR E (.map (some b)) (.map (some e.blk))
 |func {f:FuncId} {fi fi' ca ca':List Value} (h1:fi.length=fi'.length) (h2:∀ (i:Nat) v v',fi[i]? = some v→fi'[i]? = some v'→VR E v v')
   (h3:ca.length=ca'.length) (h4:∀ (i:Nat) v v',ca[i]? = some v→ca'[i]? = some v'→VR E v v'):VR E (.func (.func f) ⟨fi⟩ ⟨ca⟩) (.func (.func f) ⟨fi'⟩ ⟨ca'⟩)
 |yld {i:Nat} {e:Em} (h:E i=some e):VR E (.func (.yield i) ⟨[]⟩ ⟨[]⟩) (.func (.yield e.blk) ⟨[]⟩ ⟨[]⟩)
 |iface {t:TypeId} {v v':Value} (h:VR E v v'):VR E (.iface t v) (.iface t v')
 |agg {l l':List Value} (h1:l.length=l'.length) (h2:∀ (i:Nat) v v',l[i]? = some v→l'[i]? = some v'→VR E v v'):VR E (.agg ⟨l⟩) (.agg ⟨l'⟩)
 |tuple {l l':List Value} (h1:l.length=l'.length) (h2:∀ (i:Nat) v v',l[i]? = some v→l'[i]? = some v'→VR E v v'):VR E (.tuple ⟨l⟩) (.tuple ⟨l'⟩)
abbrev LR (E:En):=F2 (VR E)
section
variable {E E':En}{v v':Value}{l l':List Value}
theorem VR.mono (hE:E.le E')(h:VR E v v'):VR E' v v':=by
 induction h with
 |plain h=>exact .plain h
 |sym=>rw[← hE.s];exact .sym
 |ptr h=>exact .ptr (hE.le _ _ h)
 |slice h hc=>exact .slice (hE.le _ _ h) hc
 |map h=>exact .map (hE.le _ _ h)
 |func h1 _ h3 _ i2 i4=>exact .func h1 i2 h3 i4
 |yld h=>exact .yld (hE.le _ _ h)
 |iface _ ih=>exact .iface ih
 |agg h1 _ i2=>exact .agg h1 i2
 |tuple h1 _ i2=>exact .tuple h1 i2
theorem LR.mono (hE:E.le E')(h:LR E l l'):LR E' l l':=F2.mono (fun _ _=>VR.mono hE) h
theorem VR.agg' (h:LR E l l'):VR E (.agg ⟨l⟩) (.agg ⟨l'⟩) := .agg h.length fun i v v' hv hv'=>by
 obtain ⟨b,hb,hr⟩:=F2.get h hv
 rw[hv'] at hb;injection hb with hb;rw[hb];exact hr
theorem VR.tuple' (h:LR E l l'):VR E (.tuple ⟨l⟩) (.tuple ⟨l'⟩) := .tuple h.length fun i v v' hv hv'=>by
 obtain ⟨b,hb,hr⟩:=F2.get h hv
 rw[hv'] at hb;injection hb with hb;rw[hb];exact hr
theorem VR.func' {f:FuncId}{fi fi' ca ca':List Value}(h:LR E fi fi')(k:LR E ca ca'):VR E (.func (.func f) ⟨fi⟩ ⟨ca⟩) (.func (.func f) ⟨fi'⟩ ⟨ca'⟩) :=
 .func h.length (fun i v v' hv hv'=>by
  obtain ⟨b,hb,hr⟩:=F2.get h hv
  rw[hv'] at hb;injection hb with hb;rw[hb];exact hr) k.length (fun i v v' hv hv'=>by
  obtain ⟨b,hb,hr⟩:=F2.get k hv
  rw[hv'] at hb;injection hb with hb;rw[hb];exact hr)
theorem VR.agg_inv {u:Value}(h:VR E (.agg ⟨l⟩) u):∃ l',u = .agg ⟨l'⟩∧LR E l l':=by
 cases h with
 |plain h=>simp[plainCell] at h
 |agg h1 h2=>exact ⟨_,rfl,F2.of_get h1 h2⟩
theorem VR.tuple_inv {u:Value}(h:VR E (.tuple ⟨l⟩) u):∃ l',u = .tuple ⟨l'⟩∧LR E l l':=by
 cases h with
 |plain h=>simp[plainCell] at h
 |tuple h1 h2=>exact ⟨_,rfl,F2.of_get h1 h2⟩
theorem VR.func_inv {f:FuncId}{fi ca:List Value}{u:Value}(h:VR E (.func (.func f) ⟨fi⟩ ⟨ca⟩) u):∃ fi' ca',u = .func (.func f) ⟨fi'⟩ ⟨ca'⟩∧LR E fi fi'∧LR E ca ca':=by
 cases h with
 |plain h=>simp[plainCell] at h
 |func h1 h2 h3 h4=>exact ⟨_,_,rfl,F2.of_get h1 h2,F2.of_get h3 h4⟩
theorem VR.ptr_inv {a:Addr}{u:Value}(h:VR E (.pointer (some a)) u):∃ e,a.spot=none∧E a.block=some e∧u = .pointer (some ⟨e.blk,a.off+e.d,none⟩):=by
 cases h with
 |plain h=>simp[plainCell] at h
 |ptr h=>exact ⟨_,rfl,h,rfl⟩
theorem VR.slice_inv {a:Addr}{n c:Nat}{u:Value}(h:VR E (.slice (some a) n c) u):∃ e c',a.spot=none∧E a.block=some e∧u = .slice (some ⟨e.blk,a.off+e.d,none⟩) n c'∧CapR e a.off c c':=by
 cases h with
 |plain h=>simp[plainCell] at h
 |slice h hc=>exact ⟨_,_,rfl,h,rfl,hc⟩
theorem VR.yld_inv {i:Nat}{u:Value}(h:VR E (.func (.yield i) ⟨[]⟩ ⟨[]⟩) u):∃ e,E i=some e∧u = .func (.yield e.blk) ⟨[]⟩ ⟨[]⟩:=by
 cases h with
 |plain h=>simp[plainCell] at h
 |yld h=>exact ⟨_,h,rfl⟩
theorem VR.iface_inv {t:TypeId}{x u:Value}(h:VR E (.iface t x) u):∃ x',u = .iface t x'∧VR E x x':=by
 cases h with
 |plain h=>simp[plainCell] at h
 |iface h=>exact ⟨_,rfl,h⟩
theorem VR.map_inv {b:Nat}{u:Value}(h:VR E (.map (some b)) u):∃ e,E b=some e∧u = .map (some e.blk):=by
 cases h with
 |plain h=>simp[plainCell] at h
 |map h=>exact ⟨_,h,rfl⟩
theorem VR.plain_inv (hp:plainCell v=true)(h:VR E v v'):v'=v:=by
 cases h with
 |plain h=>rfl
 |_=>simp[plainCell] at hp
theorem LR.plain_inv (hp:∀ a∈l,plainCell a=true)(h:LR E l l'):l'=l:=by
 induction h with
 |nil=>rfl
 |cons h _ ih=>rw[VR.plain_inv (hp _ (by simp)) h,ih fun a ha=>hp a (by simp[ha])]
theorem VR.plain_eq (hp:CX.plain v=true)(h:VR E v v'):v'=v:=by
 unfold CX.plain at hp
 split at hp
 ·obtain ⟨l',rfl,hl⟩:=h.agg_inv
  rw[LR.plain_inv ((zag _ _).1 hp) hl]
 ·obtain ⟨l',rfl,hl⟩:=h.tuple_inv
  rw[LR.plain_inv ((zag _ _).1 hp) hl]
 ·exact VR.plain_inv hp h
theorem VR.of_plain (hp:CX.plain v=true):VR E v v:=by
 unfold CX.plain at hp
 split at hp
 ·exact VR.agg' (F2.refl _ fun a ha => .plain ((zag _ _).1 hp a ha))
 ·exact VR.tuple' (F2.refl _ fun a ha => .plain ((zag _ _).1 hp a ha))
 ·exact .plain hp
end
theorem CapR.func {e:Em}{o c c1 c2:Nat}(h:CapR e o c c1)(k:CapR e o c c2):c1=c2:=by
 rcases h with ⟨h1,h2⟩|⟨h1,h2,h3,h4⟩ <;> rcases k with ⟨k1,k2⟩|⟨k1,k2,k3,k4⟩
 ·omega
 ·omega
 ·omega
 ·exact Nat.eq_of_mul_eq_mul_right h4 (by omega)
theorem VR.func_eq {E:En}{v u1:Value}(h:VR E v u1):∀ {u2:Value},VR E v u2→u1=u2:=by
 have lst:∀ {l l1 l2:List Value},l.length=l1.length→l.length=l2.length→(∀ (i:Nat) v v',l[i]? = some v→l1[i]? = some v'→∀ {u2:Value},VR E v u2→v'=u2) →
   (∀ (i:Nat) v v',l[i]? = some v→l2[i]? = some v'→VR E v v')→l1=l2:=fun {l l1 l2} e1 e2 h1 h2=>by
  apply List.ext_getElem (by omega)
  intro i hi hi2
  have hl:i<l.length:=by omega
  exact h1 i l[i] l1[i] (List.getElem?_eq_getElem hl) (List.getElem?_eq_getElem hi) (h2 i l[i] l2[i] (List.getElem?_eq_getElem hl) (List.getElem?_eq_getElem hi2))
 induction h with
 |plain hp=>intro u2 k;exact (VR.plain_inv hp k).symm
 |sym =>
  intro u2 k
  cases k with
  |plain h=>simp[plainCell] at h
  |sym=>rfl
 |ptr he=>intro u2 k;obtain ⟨e2,_,he2,rfl⟩:=k.ptr_inv;change E _=some e2 at he2;rw[he] at he2;cases he2;rfl
 |slice he hc =>
  intro u2 k
  obtain ⟨e2,c2,_,he2,rfl,hc2⟩:=k.slice_inv
  change E _=some e2 at he2
  rw[he] at he2;cases he2
  rw[CapR.func hc hc2]
 |map he=>intro u2 k;obtain ⟨e2,he2,rfl⟩:=k.map_inv;rw[he] at he2;cases he2;rfl
 |yld he=>intro u2 k;obtain ⟨e2,he2,rfl⟩:=k.yld_inv;rw[he] at he2;cases he2;rfl
 |iface _ ih=>intro u2 k;obtain ⟨x',rfl,hx⟩:=k.iface_inv;rw[ih hx]
 |func h1 _ h3 _ i2 i4 =>
  intro u2 k
  cases k with
  |plain hp=>simp[plainCell] at hp
  |func k1 k2 k3 k4=>rw[lst h1 k1 i2 k2,lst h3 k3 i4 k4]
 |agg h1 _ i2 =>
  intro u2 k
  cases k with
  |plain hp=>simp[plainCell] at hp
  |agg k1 k2=>rw[lst h1 k1 i2 k2]
 |tuple h1 _ i2 =>
  intro u2 k
  cases k with
  |plain hp=>simp[plainCell] at hp
  |tuple k1 k2=>rw[lst h1 k1 i2 k2]
def cellsOf:Value→List Value
 | .agg ⟨l⟩=>l
 |v=>[v]
theorem zbf (v:Value):v.cells.toList=cellsOf v:=by cases v <;> rfl
theorem VR.cells {E:En}{v v':Value}(h:VR E v v'):LR E (cellsOf v) (cellsOf v'):=by
 cases h with
 |plain h=>cases v <;> first|exact .cons (.plain h) .nil|simp[plainCell] at h
 | @sym k n =>
  have h1:=E.one n
  have:cellsOf (E.s n)=[E.s n]:=by
   cases h:E.s n <;> first|rfl|(rw[h] at h1;simp[Value.oneCell'] at h1)
  rw[this];exact .cons .sym .nil
 |agg h1 h2=>exact F2.of_get h1 h2
 |ptr h=>exact .cons (.ptr h) .nil
 |slice h hc=>exact .cons (.slice h hc) .nil
 |map h=>exact .cons (.map h) .nil
 |func h1 h2 h3 h4=>exact .cons (.func h1 h2 h3 h4) .nil
 |yld h=>exact .cons (.yld h) .nil
 |iface h=>exact .cons (.iface h) .nil
 |tuple h1 h2=>exact .cons (.tuple h1 h2) .nil
structure Bk where
 elem:TypeId
 size:Nat
 ro:Bool
 dflt:List Value
 cells:Tr Value
 one:Bool:=false
inductive Ob where
 |row (b:Bk)
 |map (es:List (Value×Value)) (bs:List Nat) (cl:Nat)
 |iter (m:Option Nat) (since:Nat) (seen:List Nat) (last:Nat)
 |dfr
 |loop (n:Nat) (t:Tr Value) (ps:List Tmp) (assign body:Code) (st:LoopState) (pd:Option Code)
structure Hp where
 next:Nat
 bs:Tr (Option Ob)
def nth {α:Type}(l:List α):Nat→Option α :=
 List.rec (motive:=fun _=>Nat→Option α) (fun _=>none) (fun a _ ih i=>Nat.rec (motive:=fun _=>Option α) (some a) (fun j _=>ih j) i) l
theorem nth_eq {α:Type}(l:List α)(i:Nat):nth l i=l[i]?:=by
 induction l generalizing i with
 |nil=>rfl
 |cons a l ih=>cases i with
  |zero=>rfl
  |succ i=>show nth l i=_;rw[ih];simp
def Bk.at (b:Bk)(j:Nat):Option Value :=
 cond (Nat.blt j b.size) (Option.rec (motive:=fun _=>Option Value) (nth b.dflt (Nat.mod j b.dflt.length)) (fun v=>some v) (b.cells.get j)) none
def Hp.ob (h:Hp)(i:Nat):Option Ob:=Option.rec (motive:=fun _=>Option Ob) none (fun o=>o) (h.bs.get i)
def Hp.blk (h:Hp)(i:Nat):Option Bk:=match h.ob i with|some (.row b)=>some b|_=>none
def Hp.put (h:Hp)(i:Nat)(b:Ob):Hp:={ next:=h.next,bs:=h.bs.set (some b) i }
def Hp.kill (h:Hp)(i:Nat):Hp:={ next:=h.next,bs:=h.bs.set none i }
def Hp.new (h:Hp)(b:Ob):Hp:={ next:=h.next+1,bs:=h.bs.set (some b) h.next }
theorem Hp.ob_put (h:Hp)(i j:Nat)(b:Ob):(h.put i b).ob j=if j=i then some b else h.ob j:=by
 unfold Hp.ob Hp.put
 simp only[Tr.get_set]
 by_cases e:j=i <;> simp[e]
theorem Hp.ob_kill (h:Hp)(i j:Nat):(h.kill i).ob j=if j=i then none else h.ob j:=by
 unfold Hp.ob Hp.kill
 simp only[Tr.get_set]
 by_cases e:j=i <;> simp[e]
theorem Hp.ob_new (h:Hp)(j:Nat)(b:Ob):(h.new b).ob j=if j=h.next then some b else h.ob j:=by
 unfold Hp.ob Hp.new
 simp only[Tr.get_set]
 by_cases e:j=h.next <;> simp[e]
theorem Hp.blk_some {h:Hp}{i:Nat}{b:Bk}:h.blk i=some b↔h.ob i=some (.row b):=by
 unfold Hp.blk
 split
 ·rename_i b' hb;rw[hb];simp
 ·rename_i hne
  constructor
  ·intro e;cases e
  ·intro e;exact absurd e (hne _)
def CellsR (E:En)(B:Bk)(d:Nat)(cs:Array Value):Prop:=∀ j v,B.at j=some v→∃ u,cs[d+j]? = some u∧VR E v u
def EsR (E:En)(es:List (Value×Value))(fs:List MapEntry):Prop:=F2 (fun x y=>x.1=y.key∧plainCell x.1=true∧VR E x.2 y.val) es fs
def TR (E:En)(n:Nat)(t:Tr Value)(tmps:Array Value):Prop:=tmps.size=n∧∀ i v,t.get i=some v→∃ u,tmps[i]? = some u∧VR E v u
theorem TR.mono {E E':En}{n:Nat}{t:Tr Value}{tmps:Array Value}(hE:E.le E')(h:TR E n t tmps):TR E' n t tmps :=
 ⟨h.1,fun i v hv=>let ⟨u,hu,hr⟩:=h.2 i v hv;⟨u,hu,hr.mono hE⟩⟩
def MR (E:En)(m m':Option Nat):Prop:=match m with
 |none=>m'=none
 |some r=>∃ er,E r=some er∧m'=some er.blk
theorem MR.mono {E E':En}{m m':Option Nat}(hE:E.le E')(h:MR E m m'):MR E' m m':=by
 cases m with
 |none=>exact h
 |some r=>obtain ⟨er,h1,h2⟩:=h;exact ⟨er,hE _ _ h1,h2⟩
def ObR (E:En)(w:World)(e:Em):Ob→Prop
 | .row B=>∃ cs fr,w.heap[e.blk]? = some (.cells cs B.elem fr)∧cs.size=e.d+e.m∧B.size≤e.m∧CellsR E B e.d cs ∧
   ((B.ro=false→∀ j,j<cs.size→¬ (fr.1≤j∧j<fr.2))∧(B.one=true→e.d=0∧cs.size=B.size))
 | .map es bs cl=>∃ fs,w.heap[e.blk]? = some (.map fs cl)∧EsR E es fs.toList∧fs.toList.map (·.born)=bs
 | .iter m since seen last=>∃ m',w.heap[e.blk]? = some (.mapIter m' since ⟨seen⟩ last)∧MR E m m'∧e.d=0
 | .dfr=>w.heap[e.blk]? = some (.deferred (some []))
 | .loop n t ps as bd st pd=>∃ fn tmps r,w.heap[e.blk]? = some (.loop { state:=st,pending:=pd,fn:=fn,tmps:=tmps,params:=⟨ps⟩,assign:=as,body:=bd,defers:=r })∧TR E n t tmps
structure HR (E:En)(h:Hp)(w:World):Prop where
 fresh:∀ i,h.next≤i→E i=none
 obj:∀ i o,h.ob i=some o→∃ e,E i=some e∧ObR E w e o
 inj:∀ i j o o' e e',h.ob i=some o→h.ob j=some o'→E i=some e→E j=some e'→e.blk=e'.blk→i=j
theorem CellsR.mono {E E':En}{B:Bk}{d:Nat}{cs:Array Value}(hE:E.le E')(h:CellsR E B d cs):CellsR E' B d cs:=fun j v hv=>by
 obtain ⟨u,hu,hr⟩:=h j v hv
 exact ⟨u,hu,hr.mono hE⟩
theorem EsR.mono {E E':En}{es:List (Value×Value)}{fs:List MapEntry}(hE:E.le E')(h:EsR E es fs):EsR E' es fs :=
 F2.mono (fun _ _ ⟨a,b,c⟩=>⟨a,b,c.mono hE⟩) h
theorem ObR.mono {E E':En}{w w':World}{e:Em}{o:Ob}(hE:E.le E')(hw:w'.heap[e.blk]? = w.heap[e.blk]?)(h:ObR E w e o):ObR E' w' e o:=by
 cases o with
 |row B =>
  obtain ⟨cs,fr,h1,h2,h3,h4,h5⟩:=h
  exact ⟨cs,fr,hw.trans h1,h2,h3,h4.mono hE,h5⟩
 |map es bs cl =>
  obtain ⟨fs,h1,h2,h3⟩:=h
  exact ⟨fs,hw.trans h1,h2.mono hE,h3⟩
 |iter m since seen last =>
  obtain ⟨m',h1,h2,h3⟩:=h
  exact ⟨m',hw.trans h1,h2.mono hE,h3⟩
 |dfr=>exact hw.trans h
 |loop n t ps as bd st pd =>
  obtain ⟨fn,tmps,r,h1,h2⟩:=h
  exact ⟨fn,tmps,r,hw.trans h1,h2.mono hE⟩
theorem ObR.lt {E:En}{w:World}{e:Em}{o:Ob}(h:ObR E w e o):e.blk<w.heap.size:=by
 cases o with
 |row B=>obtain ⟨cs,fr,h1,_⟩:=h;exact (qY.1 h1).1
 |map es bs cl=>obtain ⟨fs,h1,_⟩:=h;exact (qY.1 h1).1
 |iter m since seen last=>obtain ⟨m',h1,_⟩:=h;exact (qY.1 h1).1
 |dfr=>exact (qY.1 h).1
 |loop n t ps as bd st pd=>obtain ⟨fn,tmps,r,h1,_⟩:=h;exact (qY.1 h1).1
def Ob.wr:Ob→Bool
 | .row B => !B.ro
 |_=>true
def Img (E:En)(h:Hp)(k:Nat):Prop:=∃ i o e,h.ob i=some o∧o.wr=true∧E i=some e∧e.blk=k
def Img0 (E:En)(h:Hp)(k:Nat):Prop:=∃ i o e,h.ob i=some o∧E i=some e∧e.blk=k
structure Stp (E E':En)(h h':Hp)(w w':World):Prop where
 le:E.le E'
 hr:HR E' h' w'
 os:w'.os=w.os
 tape:w'.tape=w.tape
 output:w'.output=w.output
 size:w.heap.size≤w'.heap.size
 keep:∀ k,k<w.heap.size→¬ Img E h k→w'.heap[k]? = w.heap[k]? ∧ ¬ Img E' h' k
 keep0:∀ k,k<w.heap.size→¬ Img0 E h k→¬ Img0 E' h' k
section
variable {E:En}{h:Hp}{w:World}
theorem HR.drew (H:HR E h w):HR E h w.drew:=⟨H.fresh,H.obj,H.inj⟩
theorem Stp.refl (H:HR E h w):Stp E E h h w w:=⟨En.le_refl E,H,rfl,rfl,rfl,Nat.le_refl _,fun _ _ hk=>⟨rfl,hk⟩,fun _ _ hk=>hk⟩
theorem Stp.drew1 (H:HR E h w):Stp E E h h w w.drew:=⟨En.le_refl E,H.drew,rfl,rfl,rfl,Nat.le_refl _,fun _ _ hk=>⟨rfl,hk⟩,fun _ _ hk=>hk⟩
theorem Stp.trans {E1 E2 E3:En}{h1 h2 h3:Hp}{w1 w2 w3:World}(a:Stp E1 E2 h1 h2 w1 w2)(b:Stp E2 E3 h2 h3 w2 w3):Stp E1 E3 h1 h3 w1 w3 :=
 ⟨En.le_trans a.le b.le,b.hr,b.os.trans a.os,b.tape.trans a.tape,b.output.trans a.output,Nat.le_trans a.size b.size,fun k hk hi=>by
  obtain ⟨e1,i1⟩:=a.keep k hk hi
  obtain ⟨e2,i2⟩:=b.keep k (Nat.lt_of_lt_of_le hk a.size) i1
  exact ⟨e2.trans e1,i2⟩,fun k hk hi=>b.keep0 k (Nat.lt_of_lt_of_le hk a.size) (a.keep0 k hk hi)⟩
theorem Stp.below {E':En}{h':Hp}{w':World}(s:Stp E E' h h' w w'){B:Nat}(hB:B≤w.heap.size)(hi:∀ k,k<B→¬ Img E h k):Below B w w' :=
 ⟨s.os,s.tape,s.output,s.size,fun k hk=>(s.keep k (by omega) (hi k hk)).1⟩
def En.add (E:En)(i:Nat)(e:Em):En:={ E with f:=fun j=>if j=i then some e else E j }
theorem En.add_self (E:En)(i:Nat)(e:Em):(E.add i e) i=some e:=qX rfl
theorem En.add_ne (E:En){i j:Nat}(e:Em)(h:j≠i):(E.add i e) j=E j:=qW h
theorem En.le_add {E:En}{i:Nat}{e:Em}(h:E i=none):E.le (E.add i e):=⟨rfl,fun b x hx=>by
 by_cases hb:b=i
 ·subst hb;rw[h] at hx;cases hx
 ·rw[En.add_ne E e hb];exact hx⟩
theorem HR.le_new (H:HR E h w)(e:Em):E.le (E.add h.next e):=En.le_add (H.fresh _ (Nat.le_refl _))
theorem HR.newAt (H:HR E h w)(o:Ob)(e:Em)(hfree:∀ i o' e',h.ob i=some o'→E i=some e'→e'.blk≠e.blk)
  (ho:ObR (E.add h.next e) w e o):HR (E.add h.next e) (h.new o) w:=by
 have hle:=H.le_new e
 refine ⟨fun i hi=>?_,fun i o' hi=>?_,fun i j o1 o2 e1 e2 h1 h2 h3 h4 h5=>?_⟩
 ·have hi':h.next+1≤i:=hi
  rw[En.add_ne E e (by omega)];exact H.fresh i (by omega)
 ·rw[Hp.ob_new] at hi
  by_cases hn:i=h.next
  ·rw[qX hn] at hi
   cases hi;subst hn
   exact ⟨e,En.add_self _ _ _,ho⟩
  ·rw[qW hn] at hi
   obtain ⟨e',he',hob⟩:=H.obj i o' hi
   exact ⟨e',hle _ _ he',hob.mono hle rfl⟩
 ·rw[Hp.ob_new] at h1 h2
  by_cases hi:i=h.next <;> by_cases hj:j=h.next
  ·omega
  ·subst hi
   rw[En.add_self] at h3;rw[qW hj] at h2;rw[En.add_ne E e hj] at h4
   cases h3
   exact absurd h5.symm (hfree j o2 e2 h2 h4)
  ·subst hj
   rw[En.add_self] at h4;rw[qW hi] at h1;rw[En.add_ne E e hi] at h3
   cases h4
   exact absurd h5 (hfree i o1 e1 h1 h3)
  ·rw[qW hi] at h1;rw[qW hj] at h2
   rw[En.add_ne E e hi] at h3;rw[En.add_ne E e hj] at h4
   exact H.inj i j o1 o2 e1 e2 h1 h2 h3 h4 h5
theorem HR.alloc (H:HR E h w)(ob:Obj):HR E h (w.alloc ob):=by
 refine ⟨H.fresh,fun i o hi=>?_,H.inj⟩
 obtain ⟨e,he,hob⟩:=H.obj i o hi
 exact ⟨e,he,hob.mono (En.le_refl E) (Below.heap_alloc _ _ _ hob.lt)⟩
theorem Stp.alloc (H:HR E h w)(ob:Obj):Stp E E h h w (w.alloc ob) :=
 ⟨En.le_refl E,H.alloc ob,rfl,rfl,rfl,by simp,fun k hk hi=>⟨Below.heap_alloc _ _ _ hk,hi⟩,fun _ _ hk=>hk⟩
theorem Stp.new (H:HR E h w)(o:Ob)(ob:Obj)(e:Em)(he:e.blk=w.heap.size)
  (ho:ObR (E.add h.next e) (w.alloc ob) e o):Stp E (E.add h.next e) h (h.new o) w (w.alloc ob):=by
 have H2:HR (E.add h.next e) (h.new o) (w.alloc ob):=(H.alloc ob).newAt o e (fun i o' e' hi he'=>by
  obtain ⟨e2,he2,hob⟩:=H.obj i o' hi
  rw[he'] at he2;cases he2
  have:=hob.lt;omega) ho
 refine ⟨H.le_new e,H2,rfl,rfl,rfl,by simp,fun k hk hi=>⟨Below.heap_alloc _ _ _ hk,?_⟩,fun k hk hi=>?_⟩
 ·rintro ⟨i,o',e',h1,h2,h3,h4⟩
  rw[Hp.ob_new] at h1
  by_cases hn:i=h.next
  ·subst hn
   rw[En.add_self] at h3;cases h3;omega
  ·rw[qW hn] at h1;rw[En.add_ne E e hn] at h3
   exact hi ⟨i,o',e',h1,h2,h3,h4⟩
 ·rintro ⟨i,o',e',h1,h3,h4⟩
  rw[Hp.ob_new] at h1
  by_cases hn:i=h.next
  ·subst hn
   rw[En.add_self] at h3;cases h3;omega
  ·rw[qW hn] at h1;rw[En.add_ne E e hn] at h3
   exact hi ⟨i,o',e',h1,h3,h4⟩
theorem HR.kill (H:HR E h w)(i:Nat):HR E (h.kill i) w:=by
 refine ⟨H.fresh,fun j o hj=>?_,fun j k o o' e e' h1 h2=>?_⟩
 ·rw[Hp.ob_kill] at hj
  by_cases hn:j=i
  ·rw[qX hn] at hj;cases hj
  ·rw[qW hn] at hj;exact H.obj j o hj
 ·rw[Hp.ob_kill] at h1 h2
  by_cases hn:j=i
  ·rw[qX hn] at h1;cases h1
  ·by_cases hk:k=i
   ·rw[qX hk] at h2;cases h2
   ·rw[qW hn] at h1;rw[qW hk] at h2
    exact H.inj j k o o' e e' h1 h2
theorem Stp.put (H:HR E h w){i:Nat}{o o':Ob}{e:Em}{w':World}(hi:h.ob i=some o)(hwr:o.wr=true)(he:E i=some e)
  (hos:w'.os=w.os) (htape:w'.tape=w.tape) (hout:w'.output=w.output) (hsz:w'.heap.size=w.heap.size) (hab:∀ k,k≠e.blk→w'.heap[k]? = w.heap[k]?)
  (ho:ObR E w' e o'):Stp E E h (h.put i o') w w':=by
 have H2:HR E (h.put i o') w':=by
  refine ⟨H.fresh,fun j o'' hj=>?_,fun j k o1 o2 e1 e2 h1 h2 h3 h4 h5=>?_⟩
  ·rw[Hp.ob_put] at hj
   by_cases hn:j=i
   ·rw[qX hn] at hj;cases hj;subst hn
    exact ⟨e,he,ho⟩
   ·rw[qW hn] at hj
    obtain ⟨e',he',hob⟩:=H.obj j o'' hj
    exact ⟨e',he',hob.mono (En.le_refl E) (hab _ fun heq=>hn (H.inj j i _ _ _ _ hj hi he' he heq))⟩
  ·have get:∀ {x:Nat} {z:Ob},(h.put i o').ob x=some z→∃ z',h.ob x=some z':=fun {x z} hx=>by
    rw[Hp.ob_put] at hx
    by_cases hn:x=i
    ·subst hn;exact ⟨o,hi⟩
    ·rw[qW hn] at hx;exact ⟨_,hx⟩
   obtain ⟨z1,hz1⟩:=get h1
   obtain ⟨z2,hz2⟩:=get h2
   exact H.inj j k z1 z2 e1 e2 hz1 hz2 h3 h4 h5
 refine ⟨En.le_refl E,H2,hos,htape,hout,by omega,fun k hk hni=>?_,fun k hk hni=>?_⟩
 ·have hne:k≠e.blk:=fun heq=>hni ⟨i,o,e,hi,hwr,he,heq.symm⟩
  refine ⟨hab k hne,?_⟩
  rintro ⟨j,oj,ej,h1,h2,h3,h4⟩
  rw[Hp.ob_put] at h1
  by_cases hn:j=i
  ·subst hn;rw[he] at h3;cases h3;exact hne h4.symm
  ·rw[qW hn] at h1;exact hni ⟨j,oj,ej,h1,h2,h3,h4⟩
 ·have hne:k≠e.blk:=fun heq=>hni ⟨i,o,e,hi,he,heq.symm⟩
  rintro ⟨j,oj,ej,h1,h3,h4⟩
  rw[Hp.ob_put] at h1
  by_cases hn:j=i
  ·subst hn;rw[he] at h3;cases h3;exact hne h4.symm
  ·rw[qW hn] at h1;exact hni ⟨j,oj,ej,h1,h3,h4⟩
end
def isAggD:TypeDesc→Bool
 | .struct _ | .array _ _=>true
 |_=>false
structure TI where
 under:TypeDesc
 size:Nat
 bytes:Nat
 zero:Option Value
 agg:Bool
def plainOpt:Option Value→Option Value
 |some z=>cond (plain z) (some z) none
 |none=>none
def tiOf (P:Program)(t:Nat):Option TI :=
 match P.info? t,P.underlying t with
 |some i,some u=>some { under:=u,size:=i.size,bytes:=i.bytes,zero:=plainOpt i.zero,agg:=isAggD u }
 |_,_=>none
structure Gb where
 n:Nat
 s:Nat→Value
def GOk (ng:Gb)(E:En):Prop:=(∀ g,g<ng.n→∃ m,E g=some ⟨g,0,m⟩)∧E.s=ng.s
theorem GOk.mono {E E':En}{ng:Gb}(hE:E.le E')(h:GOk ng E):GOk ng E':=⟨fun g hg=>let ⟨m,hm⟩:=h.1 g hg;⟨m,hE _ _ hm⟩,hE.s.trans h.2⟩
def psym:Value→Bool
 | .float _ _=>true
 |v=>plainCell v
def conc (s:Nat→Value):Value→Value
 | .float _ n=>s n
 |v=>v
theorem VR.of_psym {E:En}{v:Value}(h:psym v=true):VR E v (conc E.s v):=by
 cases v <;> first|exact .sym|exact .plain h
theorem VR.psym_inv {E:En}{v u:Value}(h:psym v=true)(r:VR E v u):u=conc E.s v:=VR.func_eq r (VR.of_psym h)
structure X where
 P:Program
 ti:Tr TI
 fn:Tr Func
 ng:Gb
 facts:BinOp→Value→Value→Option Value
 orc:Nat→List Value→Hp→Option (Value×Hp)
def FactsOk (s:Nat→Value)(facts:BinOp→Value→Value→Option Value):Prop:=∀ op a b v,facts op a b=some v→psym a=true∧psym b=true∧psym v=true ∧
 ∃ k i k' j,conc s a = .int k i∧conc s b = .int k' j∧∀ ty,binOp op ty (.int k i) (.int k' j) = .pure (conc s v)
def OrcOk (P:Program)(ng:Gb)(orc:Nat→List Value→Hp→Option (Value×Hp)):Prop:=∀ k as h v h',orc k as h=some (v,h')→∀ E w as',HR E h w→GOk ng E→LR E as as' →
 Calls P k ⟨as'⟩ w fun e w'=>∃ E' u,e = .returned u∧Stp E E' h h' w w'∧VR E' v u
structure X.Ok (x:X):Prop where
 facts:FactsOk x.ng.s x.facts
 orc:OrcOk x.P x.ng x.orc
 ti:∀ t i,x.ti.get t=some i→tiOf x.P t=some i
 fn:∀ f g,x.fn.get f=some g→x.P.funcs[f]? = some g∧(g.name == "runtime.NumGoroutine")=false
 mixed:x.P.follows .mixedOrders=true
def fnOf (P:Program)(f:Nat):Option Func:=match P.funcs[f]? with
 |some g=>cond (g.name == "runtime.NumGoroutine") none (some g)
 |none=>none
theorem zrn {P:Program}{f:Nat}{g:Func}(h:fnOf P f=some g):P.funcs[f]? = some g∧(g.name == "runtime.NumGoroutine")=false:=by
 unfold fnOf at h
 split at h
 ·rename_i g' hg
  cases hb:(g'.name == "runtime.NumGoroutine") with
  |true=>rw[hb] at h;cases h
  |false=>rw[hb] at h;cases h;exact ⟨hg,hb⟩
 ·cases h
def X.mk' (P:Program)(dt df ng:Nat)(s:Nat→Value)(facts:BinOp→Value→Value→Option Value)(orc:Nat→List Value→Hp→Option (Value×Hp)):X:={ P,ti:=full (tiOf P) dt 1 0,fn:=full (fnOf P) df 1 0,ng:=⟨ng,s⟩,facts,orc }
theorem X.mk'_ok (P:Program)(dt df ng:Nat)(s:Nat→Value)(facts:BinOp→Value→Value→Option Value)(orc:Nat→List Value→Hp→Option (Value×Hp))(hf:FactsOk s facts)(ho:OrcOk P ⟨ng,s⟩ orc)(h:P.follows .mixedOrders=true):(X.mk' P dt df ng s facts orc).Ok :=
 ⟨hf,ho,fun t i hi=>by have:=zg4 _ _ _ _ _ _ hi;rw[Nat.one_mul,Nat.add_zero] at this;exact this,fun f g hi=>by have:=zg4 _ _ _ _ _ _ hi;rw[Nat.one_mul,Nat.add_zero] at this;exact zrn this,h⟩
structure TIOk (P:Program)(t:TypeId)(i:TI):Prop where
 under:P.underlying t=some i.under
 info:∃ inf,P.info? t=some inf∧inf.size=i.size∧inf.bytes=i.bytes∧(∀ z,i.zero=some z→inf.zero=some z∧plain z=true)
 agg:i.agg=isAggD i.under
theorem X.Ok.tiOk {x:X}(hx:x.Ok){t:TypeId}{i:TI}(h:x.ti.get t=some i):TIOk x.P t i:=by
 have:=hx.ti t i h
 unfold tiOf at this
 split at this
 ·rename_i inf u h1 h2
  cases this
  refine ⟨h2,⟨inf,h1,rfl,rfl,fun z hz=>?_⟩,rfl⟩
  unfold plainOpt at hz
  cases hz0:inf.zero with
  |none=>rw[hz0] at hz;cases hz
  |some z0 =>
   rw[hz0] at hz
   simp only at hz
   cases hp:plain z0 with
   |false=>rw[hp] at hz;cases hz
   |true=>rw[hp] at hz;cases hz;exact ⟨rfl,hp⟩
 ·cases this
section
variable {P:Program}{t:TypeId}{i:TI}(h:TIOk P t i)(w:World)
include h
theorem TIOk.run_under:(underlying t).run P w = .ok i.under w:=by simp[underlying,h.under]
theorem TIOk.run_info:∃ inf,(typeInfo t).run P w = .ok inf w∧inf.bytes=i.bytes∧inf.size=i.size:=by
 obtain ⟨inf,h1,h2,h3,_⟩:=h.info
 exact ⟨inf,by simp[typeInfo,h1],h3,h2⟩
theorem TIOk.run_size:(Go.sizeOf t).run P w = .ok i.size w:=by
 obtain ⟨inf,h1,h2,_⟩:=h.info
 simp[Go.sizeOf,typeInfo,h1,h2]
theorem TIOk.run_zero {z:Value}(hz:i.zero=some z):(zeroValue t).run P w = .ok z w:=by
 obtain ⟨inf,h1,_,_,h4⟩:=h.info
 simp[zeroValue,typeInfo,h1,(h4 z hz).1]
theorem TIOk.zero_plain {z:Value}(hz:i.zero=some z):plain z=true:=by
 obtain ⟨inf,h1,_,_,h4⟩:=h.info
 exact (h4 z hz).2
theorem TIOk.run_isAgg:(isAgg t).run P w = .ok i.agg w:=by
 unfold isAgg
 rw[qT,h.run_under w,qS,h.agg]
 cases i.under <;> rfl
end
def ev (ng:Gb)(t:Tr Value):Operand→Option Value
 | .tmp i=>t.get i
 | .const v=>cond (plain v) (some v) none
 | .global g=>cond (Nat.blt g ng.n) (some (.pointer (some ⟨g,0,none⟩))) none
 | .func f=>some (.func (.func f) ⟨[]⟩ ⟨[]⟩)
theorem zac {α:Type}{b:Bool}{x:Option α}{v:α}(h:cond b x none=some v):b=true∧x=some v:=by
 cases b with
 |true=>exact ⟨rfl,h⟩
 |false=>cases h
theorem zcc {a b:Nat}(h:Nat.blt a b=true):a<b:=by simpa [Nat.blt_eq] using h
theorem zbh {a b:Nat}(h:Nat.ble a b=true):a≤b:=Nat.le_of_ble_eq_true h
theorem zay {a b:Nat}(h:Nat.beq a b=true):a=b:=xB h
section
variable {E:En}{n:Nat}{ng:Gb}{t:Tr Value}{a:Act}
theorem zae (ht:TR E n t a.tmps)(hg:GOk ng E){x:Operand}{v:Value}(h:ev ng t x=some v):VR E v (a.eval x):=by
 cases x with
 |tmp i =>
  obtain ⟨u,hu,hr⟩:=ht.2 i v h
  show VR E v (a.tmps.getD i undef)
  rw[qZ,hu];exact hr
 |const c =>
  obtain ⟨hp,hc⟩:=zac h
  cases hc
  exact VR.of_plain hp
 |global g =>
  obtain ⟨hb,hc⟩:=zac h
  cases hc
  obtain ⟨m,hm⟩:=hg.1 g (zcc hb)
  exact VR.ptr (o:=0) hm
 |func f =>
  cases h
  exact VR.func' .nil .nil
theorem TR.put (ht:TR E n t a.tmps){d:Nat}{v u:Value}(hd:d<n)(hv:VR E v u):TR E n (t.set v d) (a.tmps.setIfInBounds d u):=by
 refine ⟨by simp[ht.1],fun i w hw=>?_⟩
 rw[Tr.get_set] at hw
 by_cases hi:i=d
 ·rw[qX hi] at hw;cases hw;subst hi
  exact ⟨u,by rw[Array.getElem?_setIfInBounds_self_of_lt];rw[ht.1];exact hd,hv⟩
 ·rw[qW hi] at hw
  obtain ⟨u',hu',hr⟩:=ht.2 i w hw
  exact ⟨u',by rw[Array.getElem?_setIfInBounds_ne (by omega)];exact hu',hr⟩
end
def pureRun {α:Type}(P:Program)(n:Nat):Sem α→Option α :=
 Nat.rec (motive:=fun _=>Sem α→Option α) (fun _=>none) (fun _ ih s=>match s with
  | .pure a=>some a
  | .program k=>ih (k P)
  | .mark _ k=>ih k
  |_=>none) n
theorem zcr {α:Type}(P:Program):∀ (n:Nat) (s:Sem α) (a:α),pureRun P n s=some a→∀ w,s.run P w = .ok a w
 | 0,s,a,h,w=>by cases h
 |n+1,s,a,h,w=>by
  cases s with
  |pure b=>change some b=some a at h;cases h;rfl
  |program k=>exact zcr P n (k P) a h w
  |mark m k=>exact zcr P n k a h w
  |_=>cases h
def plainOpd (f:Operand→Option Value)(x:Operand):Bool:=match f x with|some v=>plain v|none=>false
def pureOp (P:Program)(f:Operand→Option Value)(o:Oper):Option Value :=
 cond (allB (plainOpd f) o.op.operands.toList) (match pureRun P 64 (execOp (fun x=>(f x).getD undef) o) with
  |some (.value v)=>cond (plain v) (some v) none
  |_=>none) none
def Yld (P:Program)(E:En)(a:Act)(o:Oper)(v:Value):Prop:=∃ u,(∀ w,(execOp a.eval o).run P w = .ok (.value u) w)∧VR E v u
section
variable {x:X}{E:En}{n:Nat}{t:Tr Value}{a:Act}{o:Oper}{v:Value}
theorem zbp (hs:∀ cs b,o.op ≠ .select cs b)(ht:TR E n t a.tmps)(hg:GOk x.ng E)(h:pureOp x.P (ev x.ng t) o=some v):Yld x.P E a o v:=by
 unfold pureOp at h
 obtain ⟨hb,h⟩:=zac h
 have he:execOp a.eval o=execOp (fun y=>(ev x.ng t y).getD undef) o:=execOp_congr o hs fun y hy=>by
  have:=(zag _ _).1 hb y (by simpa using hy)
  unfold plainOpd at this
  split at this
  ·rename_i u hu
   have:=VR.plain_eq this (zae ht hg hu)
   rw[this,hu];rfl
  ·cases this
 split at h
 ·rename_i u hr
  obtain ⟨hp,h⟩:=zac h
  injection h with h;subst h
  exact ⟨u,fun w=>by rw[he];exact zcr _ _ _ _ hr w,VR.of_plain hp⟩
 ·cases h
end
def semPure {α:Type}:Sem α→Option α
 | .pure a=>some a
 |_=>none
theorem ze8 {α:Type}{s:Sem α}{a:α}(h:semPure s=some a):s = .pure a:=by
 cases s <;> first|(injection h with h;rw[h])|cases h
def plainV (v:Option Value):Option Value:=match v with|some v=>cond (plainCell v) (some v) none|none=>none
theorem zgl {v:Option Value}{u:Value}(h:plainV v=some u):v=some u∧plainCell u=true:=by
 unfold plainV at h
 split at h
 ·obtain ⟨a,b⟩:=zac h;cases b;exact ⟨rfl,a⟩
 ·cases h
def addrB (a b:Addr):Bool:=cond (Nat.beq a.block b.block) (cond (Nat.beq a.off b.off) (match a.spot,b.spot with|none,none=>true|_,_=>false) false) false
theorem zjs {a b:Addr}(h:addrB a b=true):a=b:=by
 unfold addrB at h
 cases h1:Nat.beq a.block b.block <;> rw[h1] at h
 ·cases h
 ·cases h2:Nat.beq a.off b.off <;> rw[h2] at h
  ·cases h
  ·obtain ⟨b1,o1,s1⟩:=a
   obtain ⟨b2,o2,s2⟩:=b
   have e1:b1=b2:=zay h1
   have e2:o1=o2:=zay h2
   subst e1 e2
   cases s1 <;> cases s2 <;> first|rfl|cases h
def undT (ti:Tr TI)(t:TypeId):Option TypeDesc:=match ti.get t with|some i=>some i.under|none=>none
def eqRes (op:BinOp)(b:Bool):Option Value:=match op with
 | .eql=>some (.bool b)
 | .neq=>some (.bool (!b))
 |_=>none
def xeqSl (ti:Tr TI)(op:BinOp)(t:TypeId)(a:Option Addr):Option Value:=match undT ti t with
 |some (TypeDesc.slice _)=>eqRes op a.isNone
 |_=>none
def xeqPn (ti:Tr TI)(op:BinOp)(t:TypeId)(a:Option Addr):Option Value:=match undT ti t with
 |some (TypeDesc.pointer _)=>eqRes op a.isNone
 |_=>none
def xeqPp (ti:Tr TI)(op:BinOp)(t:TypeId)(a b:Addr):Option Value:=match undT ti t with
 |some (TypeDesc.pointer e)=>match ti.get e with
  |some te=>cond (Nat.beq te.size 0) none (cond (addrB a b) (eqRes op true) none)
  |none=>none
 |_=>none
def xeqFn (ti:Tr TI)(op:BinOp)(t:TypeId):Option Value:=match undT ti t with
 |some (TypeDesc.func _ _ _)=>eqRes op false
 |_=>none
def xbin (P:Program)(facts:BinOp→Value→Value→Option Value)(ti:Tr TI)(f:Operand→Option Value)(o:Oper)(op:BinOp)(t:TypeId)(x y:Operand):Option Value :=
 match f x,f y with
 |some (.int k a),some (.int k' b)=>plainV (semPure (binOp op t (.int k a) (.int k' b)))
 |some (.slice a _ _),some (.slice none _ _)=>xeqSl ti op t a
 |some (.pointer a),some (.pointer none)=>xeqPn ti op t a
 |some (.pointer (some a)),some (.pointer (some b))=>xeqPp ti op t a b
 |some (.func _ _ _),some .nilFunc=>xeqFn ti op t
 |some (.float k m),some u=>facts op (.float k m) u
 |some u,some (.float k m)=>facts op u (.float k m)
 |_,_=>pureOp P f o
section
variable {P:Program}{w:World}
theorem zdz (op:BinOp)(t:TypeId)(x y:Operand)(k k':IntKind)(a b:Int):(eqGuard op t x y (.int k a) (.int k' b)).run P w = .ok () w:=by
 cases op <;> rfl
theorem zf0 (op:BinOp)(t:TypeId)(x y:Operand)(a b:Option Addr)(n m c d:Nat):(eqGuard op t x y (.slice a n c) (.slice b m d)).run P w = .ok () w:=by
 cases op <;> rfl
theorem zd0 (op:BinOp)(t:TypeId)(x y:Operand)(a b:Option Addr):(eqGuard op t x y (.pointer a) (.pointer b)).run P w = .ok () w:=by
 cases op <;> rfl
theorem zgx (op:BinOp)(t:TypeId)(x y:Operand)(f:Fn)(a b:Array Value):(eqGuard op t x y (.func f a b) .nilFunc).run P w = .ok () w:=by
 cases op <;> rfl
theorem zbn {ρ:Operand→Value}{o:Oper}{op:BinOp}{t yt:TypeId}{x y:Operand}{v:Value}(ho:o.op = .binOp op t x y yt)
  (hg:(eqGuard op t x y (ρ x) (ρ y)).run P w = .ok () w) (hb:(binOp op t (ρ x) (ρ y)).run P w = .ok v w):(execOp ρ o).run P w = .ok (.value v) w:=by
 unfold execOp
 rw[ho]
 simp only[qT,hg,hb,qS,qU]
end
theorem zao {x:X}(hx:x.Ok){t:TypeId}{d:TypeDesc}(h:undT x.ti t=some d):∃ i,TIOk x.P t i∧i.under=d:=by
 unfold undT at h
 split at h
 ·rename_i i hi;injection h with h;exact ⟨i,hx.tiOk hi,h⟩
 ·cases h
theorem VR.snil_inv {E:En}{n c:Nat}{u:Value}(h:VR E (.slice none n c) u):n=0∧c=0∧u = .slice none 0 0:=by
 cases h with
 |plain h =>
  cases n with
  |zero=>cases c with
   |zero=>exact ⟨rfl,rfl,rfl⟩
   |succ c=>simp[plainCell] at h
  |succ n=>simp[plainCell] at h
theorem VR.pnil_inv {E:En}{u:Value}(h:VR E (.pointer none) u):u = .pointer none:=VR.plain_inv rfl h
theorem VR.sl_form {E:En}{s:Option Addr}{n c:Nat}{u:Value}(h:VR E (.slice s n c) u):∃ s' c',u = .slice s' n c'∧s'.isNone=s.isNone:=by
 cases s with
 |none=>obtain ⟨rfl,rfl,rfl⟩:=h.snil_inv;exact ⟨none,0,rfl,rfl⟩
 |some ad=>obtain ⟨e,c',_,_,h3,_⟩:=h.slice_inv;exact ⟨_,_,h3,rfl⟩
theorem VR.p_form {E:En}{s:Option Addr}{u:Value}(h:VR E (.pointer s) u):∃ s',u = .pointer s'∧s'.isNone=s.isNone:=by
 cases s with
 |none=>exact ⟨none,h.pnil_inv,rfl⟩
 |some ad=>obtain ⟨e,_,_,h3⟩:=h.ptr_inv;exact ⟨_,h3,rfl⟩
section
variable {P:Program}{w:World}{t:TypeId}{i:TI}
theorem zk1 (h:TIOk P t i){e:TypeId}(hu:i.under = .slice e)(s:Option Addr)(n c:Nat):(Op.equal t (.slice s n c) (.slice none 0 0)).run P w = .ok s.isNone w:=by
 have hw:=h.run_under w
 rw[hu] at hw
 have key:∀ d,(Op.equalIn (d+1) t (.slice s n c) (.slice none 0 0)).run P w = .ok s.isNone w:=fun d=>by
  cases s <;> simp[Op.equalIn,hw]
 exact key 9999
theorem zmx (h:TIOk P t i){e:TypeId}(hu:i.under = .pointer e)(s:Option Addr):(Op.equal t (.pointer s) (.pointer none)).run P w = .ok s.isNone w:=by
 have hw:=h.run_under w
 rw[hu] at hw
 have key:∀ d,(Op.equalIn (d+1) t (.pointer s) (.pointer none)).run P w = .ok s.isNone w:=fun d=>by
  cases s <;> simp[Op.equalIn,hw]
 exact key 9999
theorem zro (h:TIOk P t i){e:TypeId}(hu:i.under = .pointer e){ie:TI}(he:TIOk P e ie)(s:Addr):(Op.equal t (.pointer (some s)) (.pointer (some s))).run P w = .ok true w:=by
 have hw:=h.run_under w
 rw[hu] at hw
 have key:∀ d,(Op.equalIn (d+1) t (.pointer (some s)) (.pointer (some s))).run P w = .ok true w:=fun d=>by
  simp[Op.equalIn,hw,he.run_size w,sameAddr]
 exact key 9999
theorem zrp (h:TIOk P t i){ps rs:Array TypeId}{b:Bool}(hu:i.under = .func ps rs b)(f:Fn)(x y:Array Value):(Op.equal t (.func f x y) .nilFunc).run P w = .ok false w:=by
 have hw:=h.run_under w
 rw[hu] at hw
 have key:∀ d,(Op.equalIn (d+1) t (.func f x y) .nilFunc).run P w = .ok false w:=fun d=>by
  simp[Op.equalIn,hw]
 exact key 9999
end
theorem zed {P:Program}{w:World}{op:BinOp}{t:TypeId}{x y:Value}{b:Bool}{v:Value}(hv:eqRes op b=some v)
  (hxy:binOp .eql t x y=(do pure (.bool (← Op.equal t x y)))∧binOp .neq t x y=(do pure (.bool (!(← Op.equal t x y)))))
  (h:(Op.equal t x y).run P w = .ok b w):(binOp op t x y).run P w = .ok v w∧plainCell v=true:=by
 unfold eqRes at hv
 split at hv
 ·cases hv;rw[hxy.1];exact ⟨by simp only[qT,h,qS,qU],rfl⟩
 ·cases hv;rw[hxy.2];exact ⟨by simp only[qT,h,qS,qU],rfl⟩
 ·cases hv
section
variable {x:X}{E:En}{n:Nat}{t:Tr Value}{a:Act}{o:Oper}{v:Value}
theorem zdn {op:BinOp}{b:Bool}{v:Value}(h:eqRes op b=some v):plainCell v=true:=by
 unfold eqRes at h
 split at h <;> first|(cases h;rfl)|cases h
theorem zir (hx:x.Ok){op:BinOp}{ty yt:TypeId}{p q:Operand}{y z:Value}(ho:o.op = .binOp op ty p q yt)(ht:TR E n t a.tmps)(hg:GOk x.ng E)
  (hp:ev x.ng t p=some y) (hq:ev x.ng t q=some z) (h:x.facts op y z=some v):Yld x.P E a o v:=by
 obtain ⟨h1,h2,h3,k,i,k',j,e1,e2,hb⟩:=hx.facts op y z v h
 have r1:=VR.psym_inv h1 (zae ht hg hp)
 have r2:=VR.psym_inv h2 (zae ht hg hq)
 rw[hg.2,e1] at r1
 rw[hg.2,e2] at r2
 refine ⟨conc x.ng.s v,fun w=>zbn ho (by rw[r1,r2];exact zdz _ _ _ _ _ _ _ _) (by rw[r1,r2,hb];rfl),?_⟩
 rw[← hg.2];exact VR.of_psym h3
theorem zp3 (hx:x.Ok){op:BinOp}{ty yt:TypeId}{p q:Operand}(ho:o.op = .binOp op ty p q yt)(ht:TR E n t a.tmps)(hg:GOk x.ng E)
  (h:xbin x.P x.facts x.ti (ev x.ng t) o op ty p q=some v):Yld x.P E a o v:=by
 unfold xbin at h
 split at h
 ·rename_i k i k' j hp hq
  obtain ⟨h,hpl⟩:=zgl h
  have hb:=ze8 h
  have e1:=VR.plain_inv rfl (zae ht hg hp)
  have e2:=VR.plain_inv rfl (zae ht hg hq)
  exact ⟨v,fun w=>zbn ho (by rw[e1,e2];exact zdz _ _ _ _ _ _ _ _) (by rw[e1,e2,hb];rfl),.plain hpl⟩
 ·rename_i s n1 c1 n2 c2 hp hq
  obtain ⟨s',c',e1,hs⟩:=(zae ht hg hp).sl_form
  obtain ⟨_,_,e2⟩:=(zae ht hg hq).snil_inv
  unfold xeqSl at h
  split at h
  ·rename_i el hu
   obtain ⟨i,hi,hu⟩:=zao hx hu
   rw[← hs] at h
   refine ⟨v,fun w=>zbn ho (by rw[e1,e2];exact zf0 _ _ _ _ _ _ _ _ _ _) ?_,.plain (zdn h)⟩
   rw[e1,e2]
   exact (zed h ⟨rfl,rfl⟩ (zk1 hi hu _ _ _)).1
  ·cases h
 ·rename_i s hp hq
  obtain ⟨s',e1,hs⟩:=(zae ht hg hp).p_form
  have e2:=(zae ht hg hq).pnil_inv
  unfold xeqPn at h
  split at h
  ·rename_i el hu
   obtain ⟨i,hi,hu⟩:=zao hx hu
   rw[← hs] at h
   refine ⟨v,fun w=>zbn ho (by rw[e1,e2];exact zd0 _ _ _ _ _ _) ?_,.plain (zdn h)⟩
   rw[e1,e2]
   exact (zed h ⟨rfl,rfl⟩ (zmx hi hu _)).1
  ·cases h
 ·rename_i s r hp hq
  unfold xeqPp at h
  split at h
  ·rename_i el hu
   obtain ⟨i,hi,hu⟩:=zao hx hu
   split at h
   ·rename_i te hte
    cases hz:Nat.beq te.size 0 with
    |true=>rw[hz] at h;cases h
    |false =>
     rw[hz] at h
     change cond (addrB s r) (eqRes op true) none=some v at h
     obtain ⟨hab,h2⟩:=zac h
     have:=zjs hab;subst this
     obtain ⟨e,_,he,e1⟩:=(zae ht hg hp).ptr_inv
     obtain ⟨e',_,he',e2⟩:=(zae ht hg hq).ptr_inv
     rw[he] at he';cases he'
     refine ⟨v,fun w=>zbn ho (by rw[e1,e2];exact zd0 _ _ _ _ _ _) ?_,.plain (zdn h2)⟩
     rw[e1,e2]
     exact (zed h2 ⟨rfl,rfl⟩ (zro hi hu (hx.tiOk hte) _)).1
   ·cases h
  ·cases h
 ·rename_i f fi ca hp hq
  unfold xeqFn at h
  split at h
  ·rename_i ps rs b hu
   obtain ⟨i,hi,hu⟩:=zao hx hu
   have r1:=zae ht hg hp
   have e2:a.eval q = .nilFunc:=VR.plain_inv rfl (zae ht hg hq)
   have:∃ f' fi' ca',a.eval p = .func f' fi' ca':=by
    generalize a.eval p=u at r1
    cases r1 with
    |plain h=>exact ⟨_,_,_,rfl⟩
    |func=>exact ⟨_,_,_,rfl⟩
    |yld=>exact ⟨_,_,_,rfl⟩
   obtain ⟨f',fi',ca',e1⟩:=this
   refine ⟨v,fun w=>zbn ho (by rw[e1,e2];exact zgx _ _ _ _ _ _ _) ?_,.plain (zdn h)⟩
   rw[e1,e2]
   exact (zed h ⟨rfl,rfl⟩ (zrp hi hu _ _ _)).1
  ·cases h
 ·rename_i k m u hp hq
  exact zir hx ho ht hg hp hq h
 ·rename_i u k m hp hq
  exact zir hx ho ht hg hp hq h
 ·exact zbp (by rw[ho];intro cs b h;cases h) ht hg h
end
section
variable {α:Type}
def app (l m:List α):List α:=List.rec (motive:=fun _=>List α) m (fun a _ ih=>a :: ih) l
theorem app_eq (l m:List α):app l m=l++m:=by
 induction l with
 |nil=>rfl
 |cons a l ih=>show a :: app l m=_;rw[ih];rfl
def tak (l:List α):Nat→List α:=List.rec (motive:=fun _=>Nat→List α) (fun _=>[]) (fun a _ ih n=>Nat.rec (motive:=fun _=>List α) [] (fun k _=>a :: ih k) n) l
theorem zk2 (l:List α)(n:Nat):tak l n=l.take n:=by
 induction l generalizing n with
 |nil=>cases n <;> rfl
 |cons a l ih=>cases n with
  |zero=>rfl
  |succ n=>show a :: tak l n=_;rw[ih];rfl
def drp (l:List α):Nat→List α:=List.rec (motive:=fun _=>Nat→List α) (fun _=>[]) (fun a l ih n=>Nat.rec (motive:=fun _=>List α) (a :: l) (fun k _=>ih k) n) l
theorem zrq (l:List α)(n:Nat):drp l n=l.drop n:=by
 induction l generalizing n with
 |nil=>cases n <;> rfl
 |cons a l ih=>cases n with
  |zero=>rfl
  |succ n=>show drp l n=_;rw[ih];rfl
def len (l:List α):Nat:=List.rec (motive:=fun _=>Nat) 0 (fun _ _ ih=>ih+1) l
theorem za9 (l:List α):len l=l.length:=by
 induction l with
 |nil=>rfl
 |cons a l ih=>show len l+1=_;rw[ih];rfl
end
def splice (off:Nat)(vs l:List Value):List Value:=app (tak l off) (app vs (drp l (off+len vs)))
theorem zd1 (off:Nat)(vs l:List Value):splice off vs l=l.take off++(vs++l.drop (off+vs.length)):=by
 unfold splice;rw[app_eq,app_eq,zk2,zrq,za9]
theorem zp4 {E:En}{off:Nat}{vs vs' l l':List Value}(h:LR E vs vs')(k:LR E l l'):LR E (splice off vs l) (splice off vs' l'):=by
 rw[zd1,zd1, ← h.length]
 exact (k.take _).append (h.append (k.drop _))
def fillL (place:Nat→Option (Nat×Nat))(parts:List (Nat×Value)):List Value→Option (List Value) :=
 List.rec (motive:=fun _=>List Value→Option (List Value)) (fun cells=>some cells)
  (fun p _ ih cells=>match place p.1 with
   |none=>none
   |some (off,size)=>cond (Nat.beq (len (cellsOf p.2)) size) (cond (Nat.ble (off+size) (len cells)) (ih (splice off (cellsOf p.2) cells)) none) none) parts
theorem zk3 (off:Nat):∀ (vs:List Value) (k:Nat) (cells:Array Value),off+k+vs.length≤cells.size →
  ((vs.zipIdx k).foldl (fun cs (c:Value×Nat)=>cs.setIfInBounds (off+c.2) c.1) cells).toList=splice (off+k) vs cells.toList
 | [],k,cells,_=>by simp[zd1]
 |v :: vs,k,cells,h=>by
  simp only[List.length_cons] at h
  simp only[List.zipIdx_cons,List.foldl_cons]
  rw[zk3 off vs (k+1) _ (by simp;omega),zd1,zd1]
  rw[Array.toList_setIfInBounds]
  apply List.ext_getElem?
  intro i
  simp only[List.length_cons]
  rcases Nat.lt_trichotomy i (off+k) with hi|hi|hi
  ·rw[List.getElem?_append_left (by simp;omega),List.getElem?_append_left (by simp;omega),List.getElem?_take_of_lt (by omega),List.getElem?_take_of_lt (by omega),List.getElem?_set_ne (by omega)]
  ·subst hi
   rw[List.getElem?_append_left (by simp;omega),List.getElem?_take_of_lt (by omega),List.getElem?_set_self (by simp;omega),List.getElem?_append_right (by simp;omega)]
   simp
   rw[Nat.min_eq_left (by omega)];simp
  ·have e1:(List.take (off+(k+1)) (cells.toList.set (off+k) v)).length=off+k+1:=by simp;omega
   have e2:(List.take (off+k) cells.toList).length=off+k:=by simp;omega
   obtain ⟨j,rfl⟩:∃ j,i=off+k+1+j:=⟨i - (off+k+1),by omega⟩
   rw[List.getElem?_append_right (by rw[e1];omega)]
   conv=>rhs;rw[List.getElem?_append_right (by rw[e2];omega)]
   rw[e1,e2,show off+k+1+j - (off+k+1)=j by omega,show off+k+1+j - (off+k)=j+1 by omega,List.cons_append,List.getElem?_cons_succ]
   by_cases hj:j<vs.length
   ·rw[List.getElem?_append_left hj,List.getElem?_append_left hj]
   ·rw[List.getElem?_append_right (by omega),List.getElem?_append_right (by omega),List.getElem?_drop,List.getElem?_drop,List.getElem?_set_ne (by omega)]
    congr 1;omega
theorem zrr {a b:Nat}(h:¬ a≤b):Nat.ble a b=false:=by
 cases hb:Nat.ble a b with
 |false=>rfl
 |true=>exact absurd (zbh hb) h
theorem ze9 (place:Nat→Option (Nat×Nat)):∀ (parts:List (Nat×Value)) (cells:Array Value),(Instr.fill place cells parts).map (·.toList)=fillL place parts cells.toList
 | [],cells=>rfl
 |(i,v) :: rest,cells=>by
  show _=match place i with
   |none=>none
   |some (off,size)=>cond (Nat.beq (len (cellsOf v)) size) (cond (Nat.ble (off+size) (len cells.toList)) (fillL place rest (splice off (cellsOf v) cells.toList)) none) none
  unfold Instr.fill
  cases hp:place i with
  |none=>rfl
  |some p =>
   obtain ⟨off,size⟩:=p
   simp only
   have hc:v.cells.size=(cellsOf v).length:=by rw[← zbf];simp
   rw[za9,za9]
   by_cases h1:v.cells.size=size
   ·have b1:Nat.beq (cellsOf v).length size=true:=by rw[← hc,h1];exact Nat.beq_refl _
    by_cases h2:off+v.cells.size≤cells.size
    ·have b2:Nat.ble (off+size) cells.toList.length=true:=Nat.ble_eq_true_of_le (by simp;omega)
     rw[b1,b2,qW (by simp;omega)]
     simp only[cond_true]
     rw[ze9 place rest]
     congr 1
     have:=zk3 off (cellsOf v) 0 cells (by omega)
     rw[Nat.add_zero] at this
     rw[← this, ← zbf, ← Array.foldl_toList,Array.toList_zipIdx]
    ·have b2:Nat.ble (off+size) cells.toList.length=false:=zrr (by simp;omega)
     rw[b1,b2,qX (by simp;omega)];rfl
   ·have b1:Nat.beq (cellsOf v).length size=false:=by
     cases hb:Nat.beq (cellsOf v).length size with
     |false=>rfl
     |true=>exact absurd (hc.trans (zay hb)) h1
    rw[b1,qX (by simp[h1])];rfl
def PR (E:En):=F2 (fun (p q:Nat×Value)=>p.1=q.1∧VR E p.2 q.2)
theorem zhh {E:En}(place:Nat→Option (Nat×Nat)){ps qs:List (Nat×Value)}(h:PR E ps qs):∀ {l l' r:List Value},LR E l l'→fillL place ps l=some r →
  ∃ r',fillL place qs l'=some r'∧LR E r r':=by
 induction h with
 |nil=>intro l l' r hl h;cases h;exact ⟨l',rfl,hl⟩
 | @cons p q ps qs hpq _ ih =>
  intro l l' r hl h
  obtain ⟨he,hv⟩:=hpq
  change (match place p.1 with
   |none=>none
   |some (off,size)=>cond (Nat.beq (len (cellsOf p.2)) size) (cond (Nat.ble (off+size) (len l)) (fillL place ps (splice off (cellsOf p.2) l)) none) none)=some r at h
  show ∃ r',(match place q.1 with
   |none=>none
   |some (off,size)=>cond (Nat.beq (len (cellsOf q.2)) size) (cond (Nat.ble (off+size) (len l')) (fillL place qs (splice off (cellsOf q.2) l')) none) none)=some r'∧LR E r r'
  rw[← he]
  cases hp:place p.1 with
  |none=>rw[hp] at h;cases h
  |some os =>
   obtain ⟨off,size⟩:=os
   rw[hp] at h
   simp only at h ⊢
   obtain ⟨b1,h⟩:=zac h
   obtain ⟨b2,h⟩:=zac h
   rw[za9] at b1 b2
   have hc:=hv.cells
   rw[za9,za9, ← hc.length, ← hl.length,b1,b2]
   exact ih (zp4 hc hl) h
theorem zb5 (b o k:Nat):(⟨b,o,none⟩:Addr).add k=⟨b,o+k,none⟩:=by
 unfold Addr.add
 split
 ·rename_i h;subst h;rfl
 ·rfl
def evL (f:Operand→Option Value)(l:List Operand):Option (List Value) :=
 List.rec (motive:=fun _=>Option (List Value)) (some []) (fun x _ ih=>match f x with
  |some v=>match ih with
   |some r=>some (v :: r)
   |none=>none
  |none=>none) l
def evP (f:Operand→Option Value)(l:List (Nat×Operand)):Option (List (Nat×Value)) :=
 List.rec (motive:=fun _=>Option (List (Nat×Value))) (some []) (fun x _ ih=>match f x.2 with
  |some v=>match ih with
   |some r=>some ((x.1,v) :: r)
   |none=>none
  |none=>none) l
section
variable {E:En}{n:Nat}{ng:Gb}{t:Tr Value}{a:Act}
theorem zd2 (ht:TR E n t a.tmps)(hg:GOk ng E):∀ {l:List Operand} {vs:List Value},evL (ev ng t) l=some vs→LR E vs (l.map a.eval)
 | [],vs,h=>by cases h;exact .nil
 |x :: l,vs,h=>by
  change (match ev ng t x with
   |some v=>match evL (ev ng t) l with
    |some r=>some (v :: r)
    |none=>none
   |none=>none)=some vs at h
  split at h
  ·rename_i v hv
   split at h
   ·rename_i r hr
    cases h
    exact .cons (zae ht hg hv) (zd2 ht hg hr)
   ·cases h
  ·cases h
theorem zfa (ht:TR E n t a.tmps)(hg:GOk ng E):∀ {l:List (Nat×Operand)} {vs:List (Nat×Value)},evP (ev ng t) l=some vs→PR E vs (l.map fun p=>(p.1,a.eval p.2))
 | [],vs,h=>by cases h;exact .nil
 |x :: l,vs,h=>by
  change (match ev ng t x.2 with
   |some v=>match evP (ev ng t) l with
    |some r=>some ((x.1,v) :: r)
    |none=>none
   |none=>none)=some vs at h
  split at h
  ·rename_i v hv
   split at h
   ·rename_i r hr
    cases h
    exact .cons ⟨rfl,zae ht hg hv⟩ (zfa ht hg hr)
   ·cases h
  ·cases h
end
def natV:Option Value→Option Nat
 |some (.int _ (.ofNat n))=>some n
 |_=>none
theorem zd3 {v:Option Value}{n:Nat}(h:natV v=some n):∃ k,v=some (.int k (Int.ofNat n)):=by
 unfold natV at h
 split at h
 ·cases h;exact ⟨_,rfl⟩
 ·cases h
def xpart (ti:Tr TI)(t:TypeId)(l:List Value)(off:Nat):Option Value :=
 match ti.get t with
 |some i=>cond i.agg (some (.agg ⟨tak (drp l off) i.size⟩)) (nth l off)
 |none=>none
theorem zmy {x:X}(hx:x.Ok){E:En}{t:TypeId}{l l':List Value}{off:Nat}{v:Value}(hl:LR E l l')(h:xpart x.ti t l off=some v) :
  ∃ u,(∀ w,(part t ⟨l'⟩ off).run x.P w = .ok u w)∧VR E v u:=by
 unfold xpart at h
 split at h
 ·rename_i i hi
  have hti:=hx.tiOk hi
  cases hag:i.agg with
  |true =>
   rw[hag] at h
   cases h
   refine ⟨.agg ⟨(l'.drop off).take i.size⟩,fun w=>?_,by rw[zk2,zrq];exact VR.agg' ((hl.drop _).take _)⟩
   unfold part
   simp only[qT,hti.run_isAgg w,hag,qS,if_true,hti.run_size w,qU]
   congr 2
   apply Array.toList_inj.1
   rw[Array.toList_extract]
   simp[List.extract]
  |false =>
   rw[hag] at h
   change nth l off=some v at h
   rw[nth_eq] at h
   obtain ⟨u,hu,hr⟩:=F2.get hl h
   refine ⟨u,fun w=>?_,hr⟩
   unfold part
   have e:(⟨l'⟩:Array Value)[off]? = some u:=by rw[xA];exact hu
   simp only[qT,hti.run_isAgg w,hag,qS,e,Bool.false_eq_true,if_false,qU]
 ·cases h
def structF (ti:Tr TI)(t:TypeId)(f:Nat):Option Field :=
 match undT ti t with
 |some (TypeDesc.struct fs)=>nth fs.toList f
 |_=>none
theorem zk4 {x:X}(hx:x.Ok){t:TypeId}{f:Nat}{fd:Field}(h:structF x.ti t f=some fd) :
  ∃ i fs,TIOk x.P t i∧i.under = .struct fs∧fs[f]? = some fd:=by
 unfold structF at h
 split at h
 ·rename_i fs hu
  obtain ⟨i,hi,hu⟩:=zao hx hu
  refine ⟨i,fs,hi,hu,?_⟩
  rw[nth_eq] at h
  simpa using h
 ·cases h
def xfieldAddr (ti:Tr TI)(f:Operand→Option Value)(t:TypeId)(x:Operand)(k:Nat):Option Value :=
 match f x with
 |some (.pointer (some ⟨b,o,none⟩))=>match structF ti t k with
  |some fd=>match ti.get fd.type with
   |some i=>cond (Nat.beq i.size 0) none (some (.pointer (some ⟨b,o+fd.offset,none⟩)))
   |none=>none
  |none=>none
 |_=>none
def xindexAddr (ti:Tr TI)(f:Operand→Option Value)(t:TypeId)(x ix:Operand):Option Value :=
 match natV (f ix),f x,undT ti t with
 |some i,some (.pointer (some ⟨b,o,none⟩)),some (TypeDesc.array n e)=>match ti.get e with
  |some te=>cond (Nat.blt i n) (some (.pointer (some ⟨b,o+i*te.size,none⟩))) none
  |none=>none
 |some i,some (.slice (some ⟨b,o,none⟩) n _),some (TypeDesc.slice e)=>match ti.get e with
  |some te=>cond (Nat.blt i n) (some (.pointer (some ⟨b,o+i*te.size,none⟩))) none
  |none=>none
 |_,_,_=>none
def xindex (P:Program)(ti:Tr TI)(f:Operand→Option Value)(o:Oper)(t:TypeId)(x ix:Operand):Option Value :=
 match f x with
 |some (.string _)=>pureOp P f o
 |some (.agg ⟨l⟩)=>match natV (f ix),undT ti t with
  |some i,some (TypeDesc.array n e)=>match ti.get e with
   |some te=>cond (Nat.blt i n) (xpart ti e l (i*te.size)) none
   |none=>none
  |_,_=>none
 |_=>none
section
variable {x:X}{E:En}{n:Nat}{t:Tr Value}{a:Act}{o:Oper}{v:Value}
theorem zk5 {a b:Nat}(h:Nat.beq a b=false):a≠b:=fun e=>by rw[e,Nat.beq_refl] at h;cases h
theorem zdc {α:Type}{b:Bool}{y:Option α}{v:α}(h:cond b none y=some v):b=false∧y=some v:=by
 cases b with
 |true=>cases h
 |false=>exact ⟨rfl,h⟩
theorem zgy (hx:x.Ok){ty:TypeId}{p:Operand}{k:Nat}(ho:o.op = .fieldAddr ty p k)(ht:TR E n t a.tmps)(hg:GOk x.ng E)
  (h:xfieldAddr x.ti (ev x.ng t) ty p k=some v):Yld x.P E a o v:=by
 unfold xfieldAddr at h
 split at h
 ·rename_i b off hl
  obtain ⟨e,_,he,e1⟩:=(zae ht hg hl).ptr_inv
  split at h
  ·rename_i fd hfd
   obtain ⟨i,fs,hi,hu,hf⟩:=zk4 hx hfd
   split at h
   ·rename_i j hj
    obtain ⟨hz,h⟩:=zdc h
    cases h
    have hz:=zk5 hz
    refine ⟨.pointer (some ⟨e.blk,off+fd.offset+e.d,none⟩),fun w=>?_,.ptr he⟩
    unfold execOp
    rw[ho]
    simp only[qT,Instr.fieldAt,hi.run_under w,hu,qS,hf,e1,Instr.sureAddr,qU,fieldPlace,(hx.tiOk hj).run_size w,qW hz,zb5]
    rw[show off+e.d+fd.offset=off+fd.offset+e.d by omega]
   ·cases h
  ·cases h
 ·cases h
theorem zgz (hx:x.Ok){ty:TypeId}{p q:Operand}(ho:o.op = .indexAddr ty p q)(ht:TR E n t a.tmps)(hg:GOk x.ng E)
  (h:xindexAddr x.ti (ev x.ng t) ty p q=some v):Yld x.P E a o v:=by
 unfold xindexAddr at h
 split at h
 ·rename_i i b off m el hi hp hu
  obtain ⟨k,hq⟩:=zd3 hi
  have eq:=VR.plain_inv rfl (zae ht hg hq)
  obtain ⟨e,_,he,e1⟩:=(zae ht hg hp).ptr_inv
  obtain ⟨ty',hty,hu⟩:=zao hx hu
  split at h
  ·rename_i te hte
   obtain ⟨hb,h⟩:=zac h
   cases h
   have hb:=zcc hb
   refine ⟨.pointer (some ⟨e.blk,off+i*te.size+e.d,none⟩),fun w=>?_,.ptr he⟩
   unfold execOp
   rw[ho]
   have hc:(0:Int)≤Int.ofNat i∧Int.ofNat i<(m:Int):=⟨Int.natCast_nonneg _,Int.ofNat_lt.2 hb⟩
   simp only[qT,Instr.indexAt,eq,asIntOf,hty.run_under w,hu,qS,e1,Instr.sureAddr,qU,qX hc,(hx.tiOk hte).run_size w,zb5]
   rw[show off+e.d+(Int.ofNat i).toNat*te.size=off+i*te.size+e.d by simp;omega]
  ·cases h
 ·rename_i i b off m c el hi hp hu
  obtain ⟨k,hq⟩:=zd3 hi
  have eq:=VR.plain_inv rfl (zae ht hg hq)
  obtain ⟨e,c',_,he,e1,_⟩:=(zae ht hg hp).slice_inv
  obtain ⟨ty',hty,hu⟩:=zao hx hu
  split at h
  ·rename_i te hte
   obtain ⟨hb,h⟩:=zac h
   cases h
   have hb:=zcc hb
   refine ⟨.pointer (some ⟨e.blk,off+i*te.size+e.d,none⟩),fun w=>?_,.ptr he⟩
   unfold execOp
   rw[ho]
   have hc:(0:Int)≤Int.ofNat i∧Int.ofNat i<(m:Int):=⟨Int.natCast_nonneg _,Int.ofNat_lt.2 hb⟩
   simp only[qT,Instr.indexAt,eq,asIntOf,hty.run_under w,hu,qS,e1,qU,qX hc,(hx.tiOk hte).run_size w,zb5]
   rw[show off+e.d+(Int.ofNat i).toNat*te.size=off+i*te.size+e.d by simp;omega]
  ·cases h
 ·cases h
theorem zk6 (hx:x.Ok){ty:TypeId}{p q:Operand}(ho:o.op = .index ty p q)(ht:TR E n t a.tmps)(hg:GOk x.ng E)
  (h:xindex x.P x.ti (ev x.ng t) o ty p q=some v):Yld x.P E a o v:=by
 unfold xindex at h
 split at h
 ·exact zbp (by rw[ho];intro cs b h;cases h) ht hg h
 ·rename_i l hl
  obtain ⟨l',e1,hl'⟩:=(zae ht hg hl).agg_inv
  split at h
  ·rename_i i m el hi hu
   obtain ⟨k,hq⟩:=zd3 hi
   have eq:=VR.plain_inv rfl (zae ht hg hq)
   obtain ⟨ty',hty,hu⟩:=zao hx hu
   split at h
   ·rename_i te hte
    obtain ⟨hb,h⟩:=zac h
    have hb:=zcc hb
    obtain ⟨u,hu',hr⟩:=zmy hx hl' h
    refine ⟨u,fun w=>?_,hr⟩
    unfold execOp
    rw[ho]
    have hc:(0:Int)≤Int.ofNat i∧Int.ofNat i<(m:Int):=⟨Int.natCast_nonneg _,Int.ofNat_lt.2 hb⟩
    have hi':(Int.ofNat i).toNat=i:=by simp
    simp only[qT,Instr.index,eq,asIntOf,hty.run_under w,hu,qS,e1,qU,qX hc,(hx.tiOk hte).run_size w,hi',hu' w]
   ·cases h
  ·cases h
 ·cases h
end
def bnd (f:Operand→Option Value)(o:Option Operand)(d:Nat):Option Nat :=
 match o with
 |none=>some d
 |some x=>natV (f x)
def Bnd (v:Option Value)(d n:Nat):Prop:=(v=none∧n=d)∨∃ k,v=some (.int k (Int.ofNat n))
section
variable {E:En}{n:Nat}{ng:Gb}{t:Tr Value}{a:Act}
theorem zdd (ht:TR E n t a.tmps)(hg:GOk ng E){o:Option Operand}{d k:Nat}(h:bnd (ev ng t) o d=some k):Bnd (o.map a.eval) d k:=by
 unfold bnd at h
 split at h
 ·injection h with h;exact .inl ⟨rfl,h.symm⟩
 ·obtain ⟨kd,hk⟩:=zd3 h
  exact .inr ⟨kd,by rw[Option.map_some,VR.plain_inv rfl (zae ht hg hk)]⟩
end
theorem za4 {P:Program}{w:World}{k:IntKind}{n y:Nat}{code:BoundsCode}(h:n≤y):(Instr.sliceBound (.int k (Int.ofNat n)) y code).run P w = .ok n w:=by
 have hc:(0:Int)≤Int.ofNat n∧Int.ofNat n≤(y:Int):=⟨Int.natCast_nonneg _,Int.ofNat_le.2 h⟩
 simp only[Instr.sliceBound,qT,asIntOf,qU,qS,qX hc]
 simp
theorem zcx {P:Program}{w:World}{s:Bool}{len cap l h m:Nat}{lo hi mx:Option Value}(hm:Bnd mx cap m)(hh:Bnd hi len h)(hl:Bnd lo 0 l)
  (h1:l≤h) (h2:h≤m) (h3:m≤cap) (h4:mx.isSome=true→hi.isSome=true):(Instr.sliceBounds s len cap lo hi mx).run P w = .ok (l,h,m) w:=by
 unfold Instr.sliceBounds
 rcases hm with ⟨rfl,rfl⟩|⟨km,rfl⟩
 ·rcases hh with ⟨rfl,rfl⟩|⟨kh,rfl⟩
  ·rcases hl with ⟨rfl,rfl⟩|⟨kl,rfl⟩
   ·rfl
   ·simp only[qT,qU,qS,za4 h1]
  ·rcases hl with ⟨rfl,rfl⟩|⟨kl,rfl⟩
   ·simp only[qT,qU,qS,za4 h2]
   ·simp only[qT,qU,qS,za4 h2,za4 h1]
 ·rcases hh with ⟨rfl,rfl⟩|⟨kh,rfl⟩
  ·simp at h4
  ·rcases hl with ⟨rfl,rfl⟩|⟨kl,rfl⟩
   ·simp only[qT,qU,qS,za4 h3,za4 h2]
   ·simp only[qT,qU,qS,za4 h3,za4 h2,za4 h1]
def capLo (c:Nat):Nat:=cond (Nat.beq (c % 2) 0) (c / 2) (c / 131072)
def slSl (b o c sz l h:Nat):Option Nat→Option Value
 |some m=>cond (Nat.ble l h) (cond (Nat.ble h m) (cond (Nat.ble m (capLo c)) (some (.slice (some ⟨b,cond (Nat.beq m l) o (o+l*sz),none⟩) (h - l) (2*(m - l)))) none) none) none
 |none=>cond (Nat.ble l h) (cond (Nat.ble h (capLo c)) (cond (Nat.beq (c % 2) 0)
   (some (.slice (some ⟨b,cond (Nat.beq (c / 2) l) o (o+l*sz),none⟩) (h - l) (c - 2*l)))
   (cond (Nat.beq l 0) (some (.slice (some ⟨b,o,none⟩) h c))
    (cond (Nat.blt l (capLo c)) (cond (Nat.beq sz (c / 2 % 65536)) (some (.slice (some ⟨b,o+l*sz,none⟩) (h - l) (c - 131072*l))) none) none))) none) none
def mxOf (f:Operand→Option Value)(hi mx:Option Operand):Option (Option Nat) :=
 match mx with
 |none=>some none
 |some x=>match hi with
  |some _=>match natV (f x) with
   |some n=>some (some n)
   |none=>none
  |none=>none
def xslice (P:Program)(ti:Tr TI)(f:Operand→Option Value)(o:Oper)(t:TypeId)(x:Operand)(lo hi mx:Option Operand):Option Value :=
 match f x with
 |some (.string _)=>pureOp P f o
 |some (.slice (some ⟨b,of,none⟩) n c)=>match undT ti t,mxOf f hi mx with
  |some (TypeDesc.slice e),some m=>match ti.get e,bnd f lo 0,bnd f hi n with
   |some te,some l,some h=>slSl b of c te.size l h m
   |_,_,_=>none
  |_,_=>none
 |some (.slice none n _)=>match undT ti t,mxOf f hi mx with
  |some (TypeDesc.slice e),some none=>match ti.get e,bnd f lo 0,bnd f hi n with
   |some _,some l,some h=>cond (Nat.beq l 0) (cond (Nat.beq h 0) (some (.slice none 0 0)) none) none
   |_,_,_=>none
  |_,_=>none
 |some (.pointer (some ⟨b,of,none⟩))=>match undT ti t,mxOf f hi mx with
  |some (TypeDesc.array k e),some m=>match ti.get e,bnd f lo 0,bnd f hi k with
   |some te,some l,some h=>slSl b of (2*k) te.size l h m
   |_,_,_=>none
  |_,_=>none
 |_=>none
theorem zoj {e:Em}{o c c':Nat}(h:CapR e o c c'):capLo c≤c':=by
 unfold capLo
 rcases h with ⟨h1,h2⟩|⟨h1,h2,_⟩
 ·rw[h1];simp;omega
 ·rw[h1];exact h2
theorem zb6 {α:Type}(a b:Nat)(x y:α):cond (Nat.beq a b) x y=if a=b then x else y:=by
 by_cases h:a=b
 ·rw[qX h,h,Nat.beq_refl];rfl
 ·rw[qW h]
  cases hb:Nat.beq a b with
  |false=>rfl
  |true=>exact absurd (zay hb) h
theorem zis {E:En}{b o c c' sz l h:Nat}{e:Em}{v:Value}{m:Option Nat}(he:E b=some e)(hc:CapR e o c c')(hs:slSl b o c sz l h m=some v) :
  ∃ m',(∀ mv,(m=none→mv=none)→(∀ k,m=some k→∃ kd,mv=some (.int kd (Int.ofNat k)))→Bnd mv c' m')∧l≤h∧h≤m'∧m'≤c' ∧
   VR E v (.slice (some (if m'=l then ⟨e.blk,o+e.d,none⟩ else (⟨e.blk,o+e.d,none⟩:Addr).add (l*sz))) (h - l) (m' - l)):=by
 have hlo:=zoj hc
 unfold slSl at hs
 split at hs
 ·rename_i m
  obtain ⟨h1,hs⟩:=zac hs
  obtain ⟨h2,hs⟩:=zac hs
  obtain ⟨h3,hs⟩:=zac hs
  cases hs
  have h1:=zbh h1
  have h2:=zbh h2
  have h3:=zbh h3
  refine ⟨m,fun mv _ hk => .inr (hk m rfl),h1,h2,by omega,?_⟩
  rw[zb6]
  by_cases hml:m=l
  ·rw[qX hml,qX hml]
   exact .slice he (.inl ⟨by omega,by omega⟩)
  ·rw[qW hml,qW hml,zb5,show o+e.d+l*sz=o+l*sz+e.d by omega]
   exact .slice he (.inl ⟨by omega,by omega⟩)
 ·obtain ⟨h1,hs⟩:=zac hs
  obtain ⟨h2,hs⟩:=zac hs
  have h1:=zbh h1
  have h2:=zbh h2
  refine ⟨c',fun mv hn _ => .inl ⟨hn rfl,rfl⟩,h1,by omega,Nat.le_refl _,?_⟩
  rw[zb6] at hs
  rcases hc with ⟨c1,c2⟩|⟨c1,c2,c3,c4⟩
  ·rw[qX c1] at hs
   cases hs
   have hlc:capLo c=c / 2:=by unfold capLo;rw[c1];rfl
   rw[zb6, ← c2]
   by_cases hml:c'=l
   ·rw[qX hml,qX hml]
    exact .slice he (.inl ⟨by omega,by omega⟩)
   ·rw[qW hml,qW hml,zb5,show o+e.d+l*sz=o+l*sz+e.d by omega]
    exact .slice he (.inl ⟨by omega,by omega⟩)
  ·have hlc:capLo c=c / 131072:=by unfold capLo;rw[c1];rfl
   rw[qW (by omega),zb6] at hs
   by_cases hl0:l=0
   ·rw[qX hl0] at hs
    cases hs;subst hl0
    have:(if c'=0 then (⟨e.blk,o+e.d,none⟩:Addr) else (⟨e.blk,o+e.d,none⟩:Addr).add (0*sz))=⟨e.blk,o+e.d,none⟩:=by
     rw[zb5];simp
    rw[this]
    exact .slice he (.inr ⟨c1,c2,c3,c4⟩)
   ·rw[qW hl0] at hs
    obtain ⟨h3,hs⟩:=zac hs
    obtain ⟨h4,hs⟩:=zac hs
    cases hs
    have h3:=zcc h3
    have h4:=zay h4
    rw[qW (by omega),zb5,show o+e.d+l*sz=o+l*sz+e.d by omega]
    refine .slice he (.inr ⟨by omega,by omega,?_,by omega⟩)
    have e1:(c - 131072*l) / 2 % 65536=c / 2 % 65536:=by omega
    rw[e1, ← h4]
    rw[← h4] at c3
    have:l*sz+(c' - l)*sz=c'*sz:=by rw[← Nat.add_mul];congr 1;omega
    omega
theorem zf1 {E:En}{n:Nat}{ng:Gb}{t:Tr Value}{a:Act}(ht:TR E n t a.tmps)(hg:GOk ng E){hi mx:Option Operand}{m:Option Nat}(h:mxOf (ev ng t) hi mx=some m) :
  (m=none→mx.map a.eval=none)∧(∀ k,m=some k→∃ kd,mx.map a.eval=some (.int kd (Int.ofNat k)))∧((mx.map a.eval).isSome=true→(hi.map a.eval).isSome=true):=by
 unfold mxOf at h
 split at h
 ·cases h;exact ⟨fun _=>rfl,fun k hk=>(by cases hk),fun hk=>(by cases hk)⟩
 ·split at h
  ·split at h
   ·rename_i k hk
    cases h
    obtain ⟨kd,hk⟩:=zd3 hk
    refine ⟨fun hn=>(by cases hn),fun k' hk'=>?_,fun _=>rfl⟩
    cases hk'
    exact ⟨kd,by rw[Option.map_some,VR.plain_inv rfl (zae ht hg hk)]⟩
   ·cases h
  ·cases h
section
variable {x:X}{E:En}{n:Nat}{t:Tr Value}{a:Act}{o:Oper}{v:Value}
theorem zk7 (hx:x.Ok){ty:TypeId}{p:Operand}{lo hi mx:Option Operand}(ho:o.op = .slice ty p lo hi mx)(ht:TR E n t a.tmps)(hg:GOk x.ng E)
  (h:xslice x.P x.ti (ev x.ng t) o ty p lo hi mx=some v):Yld x.P E a o v:=by
 unfold xslice at h
 split at h
 ·exact zbp (by rw[ho];intro cs b h;cases h) ht hg h
 ·rename_i b of k c hp
  obtain ⟨e,c',_,he,e1,hc⟩:=(zae ht hg hp).slice_inv
  split at h
  ·rename_i el m hu hm
   obtain ⟨ty',hty,hu⟩:=zao hx hu
   obtain ⟨m1,m2,m3⟩:=zf1 ht hg hm
   split at h
   ·rename_i te l hh hte hl hh'
    obtain ⟨m',b1,b2,b3,b4,b5⟩:=zis he hc h
    refine ⟨_,fun w=>?_,b5⟩
    unfold execOp
    rw[ho]
    have hb:=zcx (P:=x.P) (w:=w) (s:=true) (b1 _ m1 m2) (zdd ht hg hh') (zdd ht hg hl) b2 b3 b4 m3
    simp only[qT,Instr.sliceAt,hty.run_under w,hu,qS,e1,Instr.slice,hb,(hx.tiOk hte).run_size w,qU,Option.map_some]
    split <;> rfl
   ·cases h
  ·cases h
 ·rename_i k c hp
  obtain ⟨rfl,rfl,e1⟩:=(zae ht hg hp).snil_inv
  split at h
  ·rename_i el hu hm
   obtain ⟨ty',hty,hu⟩:=zao hx hu
   obtain ⟨m1,m2,m3⟩:=zf1 ht hg hm
   split at h
   ·rename_i te l hh hte hl hh'
    obtain ⟨h1,h⟩:=zac h
    obtain ⟨h2,h⟩:=zac h
    cases h
    have h1:=zay h1;subst h1
    have h2:=zay h2;subst h2
    refine ⟨.slice none 0 0,fun w=>?_,.plain rfl⟩
    unfold execOp
    rw[ho]
    have hb:=zcx (P:=x.P) (w:=w) (s:=true) (cap:=0) (m:=0) (.inl ⟨m1 rfl,rfl⟩) (zdd ht hg hh') (zdd ht hg hl) (Nat.le_refl _) (Nat.le_refl _) (Nat.le_refl _) m3
    simp only[qT,Instr.sliceAt,hty.run_under w,hu,qS,e1,Instr.slice,hb,(hx.tiOk hte).run_size w,qU,if_true]
   ·cases h
  ·cases h
 ·rename_i b of hp
  obtain ⟨e,_,he,e1⟩:=(zae ht hg hp).ptr_inv
  split at h
  ·rename_i k el m hu hm
   obtain ⟨ty',hty,hu⟩:=zao hx hu
   obtain ⟨m1,m2,m3⟩:=zf1 ht hg hm
   split at h
   ·rename_i te l hh hte hl hh'
    obtain ⟨m',b1,b2,b3,b4,b5⟩:=zis (c':=k) he (.inl ⟨by omega,by omega⟩) h
    refine ⟨_,fun w=>?_,b5⟩
    unfold execOp
    rw[ho]
    have hb:=zcx (P:=x.P) (w:=w) (s:=false) (b1 _ m1 m2) (zdd ht hg hh') (zdd ht hg hl) b2 b3 b4 m3
    simp only[qT,Instr.sliceAt,hty.run_under w,hu,qS,e1,Instr.sureAddr,hb,(hx.tiOk hte).run_size w,qU]
   ·cases h
  ·cases h
 ·cases h
end
theorem zfb {α β:Type}{P:Program}{w:World}(f:α→Sem β)(g:α→β):∀ (l:List α),(∀ a∈l,(f a).run P w = .ok (g a) w)→(l.mapM f).run P w = .ok (l.map g) w
 | [],_=>rfl
 |a :: l,h=>by
  rw[List.mapM_cons]
  simp only[qT,h a (by simp),qS,zfb f g l (fun b hb=>h b (by simp[hb])),qU,List.map_cons]
theorem zva {α β:Type}{P:Program}{w:World}(f:α→Sem β)(g:α→β)(l:Array α)(h:∀ a∈l.toList,(f a).run P w = .ok (g a) w):(l.mapM f).run P w = .ok ⟨l.toList.map g⟩ w:=by
 rw[Array.mapM_eq_mapM_toList,Sem.run_map,zfb f g _ h]
 rfl
def placesL (ti:Tr TI)(fs:List Field):Option (List (Nat×Nat)) :=
 List.rec (motive:=fun _=>Option (List (Nat×Nat))) (some []) (fun f _ ih=>match ti.get f.type with
  |some i=>match ih with
   |some r=>some ((f.offset,i.size) :: r)
   |none=>none
  |none=>none) fs
theorem zjt {x:X}(hx:x.Ok):∀ {fs:List Field} {ps:List (Nat×Nat)},placesL x.ti fs=some ps →
  ∃ g:Field→Nat×Nat,ps=fs.map g∧∀ w,∀ f∈fs,(do pure (f.offset, ← Go.sizeOf f.type):Sem (Nat×Nat)).run x.P w = .ok (g f) w:=by
 intro fs
 suffices H:∀ {ps:List (Nat×Nat)},placesL x.ti fs=some ps→ps=fs.map (fun f=>(f.offset,x.P.cellsOf f.type))∧∀ w,∀ f∈fs,(do pure (f.offset, ← Go.sizeOf f.type):Sem (Nat×Nat)).run x.P w = .ok (f.offset,x.P.cellsOf f.type) w from
  fun {_} h=>⟨_,(H h).1,(H h).2⟩
 induction fs with
 |nil=>intro ps h;cases h;exact ⟨rfl,fun w f hf=>by cases hf⟩
 |cons f fs ih =>
  intro ps h
  change (match x.ti.get f.type with
   |some i=>match placesL x.ti fs with
    |some r=>some ((f.offset,i.size) :: r)
    |none=>none
   |none=>none)=some ps at h
  split at h
  ·rename_i i hi
   split at h
   ·rename_i r hr
    cases h
    obtain ⟨h1,h2⟩:=ih hr
    have hti:=hx.tiOk hi
    have hc:x.P.cellsOf f.type=i.size:=by
     obtain ⟨inf,e1,e2,_⟩:=hti.info
     unfold Program.cellsOf;rw[e1];exact e2
    refine ⟨by rw[List.map_cons,hc,h1],fun w g hg=>?_⟩
    rcases List.mem_cons.1 hg with rfl|hg
    ·simp only[qT,hti.run_size w,qS,qU,hc]
    ·exact h2 w g hg
   ·cases h
  ·cases h
def aggOpt (l:Option (List Value)):Option Value:=match l with|some l=>some (.agg ⟨l⟩)|none=>none
def xbuild (ti:Tr TI)(f:Operand→Option Value)(t:TypeId)(parts:Array (Nat×Operand)):Option Value :=
 match ti.get t with
 |some i=>match i.zero,evP f parts.toList with
  |some z,some ps=>match i.under with
   | .struct fs=>match placesL ti fs.toList with
    |some pl=>aggOpt (fillL (nth pl) ps (cellsOf z))
    |none=>none
   | .array _ e=>match ti.get e with
    |some te=>aggOpt (fillL (fun i=>some (i*te.size,te.size)) ps (cellsOf z))
    |none=>none
   |_=>none
  |_,_=>none
 |none=>none
theorem zfc (ρ:Operand→Value)(parts:Array (Nat×Operand)):(parts.map fun (i,x)=>(i,ρ x)).toList=parts.toList.map fun p=>(p.1,ρ p.2):=by simp
theorem map_some {α β:Type}{o:Option α}{f:α→β}{b:β}(h:o.map f=some b):∃ a,o=some a∧f a=b:=by
 cases o with
 |none=>cases h
 |some a=>exact ⟨a,rfl,by injection h⟩
theorem zhi {E:En}{place:Nat→Option (Nat×Nat)}{ps qs:List (Nat×Value)}{l r:List Value}{z:Value}(h:PR E ps qs)(hl:LR E l (cellsOf z))(hf:fillL place ps l=some r) :
  ∃ r',Instr.fill place z.cells qs=some ⟨r'⟩∧LR E r r':=by
 obtain ⟨r',h1,h2⟩:=zhh place h hl hf
 refine ⟨r',?_,h2⟩
 have:=ze9 place qs z.cells
 rw[zbf,h1] at this
 obtain ⟨a,ha,hb⟩:=map_some this
 rw[ha];congr 1
 exact Array.toList_inj.1 (by simpa using hb)
section
variable {x:X}{E:En}{n:Nat}{t:Tr Value}{a:Act}{o:Oper}{v:Value}
theorem zk8 (hx:x.Ok){ty:TypeId}{parts:Array (Nat×Operand)}(ho:o.op = .build ty parts)(ht:TR E n t a.tmps)(hg:GOk x.ng E)
  (h:xbuild x.ti (ev x.ng t) ty parts=some v):Yld x.P E a o v:=by
 unfold xbuild at h
 split at h
 ·rename_i i hi
  have hti:=hx.tiOk hi
  split at h
  ·rename_i z ps hz hps
   have hps:=zfa ht hg hps
   have hzr:LR E (cellsOf z) (cellsOf z):=(VR.of_plain (E:=E) (hti.zero_plain hz)).cells
   split at h
   ·rename_i fs hu
    split at h
    ·rename_i pl hpl
     obtain ⟨g,hg1,hg2⟩:=zjt hx hpl
     unfold aggOpt at h
     split at h
     ·rename_i r hr
      cases h
      obtain ⟨r',hr',hrr⟩:=zhi hps hzr hr
      refine ⟨.agg ⟨r'⟩,fun w=>?_,VR.agg' hrr⟩
      unfold execOp
      rw[ho]
      have hpp:(fun i=>(⟨fs.toList.map g⟩:Array (Nat×Nat))[i]?)=nth pl:=by
       funext i;rw[nth_eq,hg1];simp
      simp only[qT,Instr.build,hti.run_zero w hz,hti.run_under w,hu,qS,zva _ g fs (hg2 w),zfc,hpp,hr',qU]
     ·cases h
    ·cases h
   ·rename_i len e hu
    split at h
    ·rename_i te hte
     unfold aggOpt at h
     split at h
     ·rename_i r hr
      cases h
      obtain ⟨r',hr',hrr⟩:=zhi hps hzr hr
      refine ⟨.agg ⟨r'⟩,fun w=>?_,VR.agg' hrr⟩
      unfold execOp
      rw[ho]
      simp only[qT,Instr.build,hti.run_zero w hz,hti.run_under w,hu,qS,(hx.tiOk hte).run_size w,zfc,hr',qU]
     ·cases h
    ·cases h
   ·cases h
  ·cases h
 ·cases h
theorem zcy {P:Program}{w:World}{ρ:Operand→Value}{b:Builtin}{args:Array Operand}{tys:Array TypeId}(ho:o.op = .call { callee := .builtin b,args:=args,argTypes:=tys }) :
  ∃ cs,(execOp ρ o).run P w=(builtin b tys o.type cs (args.map ρ)).run P w:=by
 unfold execOp
 rw[ho]
 simp only[resolve,qT,qU,qS,invoke]
 exact ⟨_,rfl⟩
def xlen (ti:Tr TI)(f:Operand→Option Value)(c:Call):Option Value :=
 match c.args,c.argTypes with
 |⟨[y]⟩,⟨ty :: _⟩=>match f y,undT ti ty with
  |some (.slice _ k _),some (TypeDesc.slice _)=>some (.int .i64 (Int.ofNat k))
  |some (.string s),some TypeDesc.string=>some (.int .i64 (Int.ofNat s.size))
  |_,_=>none
 |_,_=>none
theorem zp5 (hx:x.Ok){c:Call}(hc:c.callee = .builtin .len)(ho:o.op = .call c)(ht:TR E n t a.tmps)(hg:GOk x.ng E)
  (h:xlen x.ti (ev x.ng t) c=some v):Yld x.P E a o v:=by
 obtain ⟨callee,args,tys⟩:=c
 simp only at hc;subst hc
 unfold xlen at h
 simp only at h
 split at h
 ·rename_i y ty tl
  split at h
  ·rename_i s k cp el hy hu
   obtain ⟨s',c',e1,_⟩:=(zae ht hg hy).sl_form
   obtain ⟨i,hi,hu⟩:=zao hx hu
   cases h
   refine ⟨_,fun w=>?_,.plain rfl⟩
   obtain ⟨cs,hcs⟩:=zcy (P:=x.P) (w:=w) (ρ:=a.eval) ho
   rw[hcs]
   have hw:=hi.run_under w
   rw[hu] at hw
   simp only[builtin,Builtin.len_,List.map_toArray,List.map_cons,List.map_nil,e1,xA,List.getElem?_cons_zero,qT,hw,qS,qU]
   rfl
  ·rename_i s hy hu
   have e1:=VR.plain_inv rfl (zae ht hg hy)
   obtain ⟨i,hi,hu⟩:=zao hx hu
   cases h
   refine ⟨_,fun w=>?_,.plain rfl⟩
   obtain ⟨cs,hcs⟩:=zcy (P:=x.P) (w:=w) (ρ:=a.eval) ho
   rw[hcs]
   have hw:=hi.run_under w
   rw[hu] at hw
   simp only[builtin,Builtin.len_,List.map_toArray,List.map_cons,List.map_nil,e1,xA,List.getElem?_cons_zero,qT,hw,qS,qU]
   rfl
  ·cases h
 ·cases h
def xassert (ti:Tr TI)(f:Operand→Option Value)(y:Operand)(as:TypeId)(ok:Bool):Option Value :=
 match f y,ti.get as with
 |some (.iface t v),some i=>match i.under with
  | .interface _=>none
  |_=>cond (Nat.beq t as) (some (cond ok (.tuple ⟨[v,.bool true]⟩) v)) (cond ok (match i.zero with
   |some z=>some (.tuple ⟨[z,.bool false]⟩)
   |none=>none) none)
 |_,_=>none
theorem zju (hx:x.Ok){y:Operand}{xt as:TypeId}{ok:Bool}(ho:o.op = .typeAssert y xt as ok)(ht:TR E n t a.tmps)(hg:GOk x.ng E)
  (h:xassert x.ti (ev x.ng t) y as ok=some v):Yld x.P E a o v:=by
 unfold xassert at h
 split at h
 ·rename_i dt u i hy hi
  have hti:=hx.tiOk hi
  obtain ⟨u',e1,hr⟩:=(zae ht hg hy).iface_inv
  split at h
  ·cases h
  ·rename_i hnot
   rw[zb6] at h
   by_cases he:dt=as
   ·rw[qX he] at h
    cases h
    refine ⟨cond ok (.tuple ⟨[u',.bool true]⟩) u',fun w=>?_,?_⟩
    ·unfold execOp
     rw[ho]
     have hw:=hti.run_under w
     cases hu:i.under with
     |interface ms=>exact absurd hu (hnot ms)
     |_=>rw[hu] at hw;cases ok <;> simp[Instr.typeAssert,hw,e1,he]
    ·cases ok
     ·exact hr
     ·exact VR.tuple' (.cons hr (.cons (.plain rfl) .nil))
   ·rw[qW he] at h
    obtain ⟨hok,h⟩:=zac h
    subst hok
    split at h
    ·rename_i z hz
     cases h
     refine ⟨.tuple ⟨[z,.bool false]⟩,fun w=>?_,VR.tuple' (.cons (VR.of_plain (hti.zero_plain hz)) (.cons (.plain rfl) .nil))⟩
     unfold execOp
     rw[ho]
     have hw:=hti.run_under w
     cases hu:i.under with
     |interface ms=>exact absurd hu (hnot ms)
     |_=>rw[hu] at hw;simp[Instr.typeAssert,hw,e1,he,hti.run_zero w hz]
    ·cases h
 ·cases h
def xmkif (ti:Tr TI)(f:Operand→Option Value)(ty:TypeId)(y:Operand):Option Value :=
 match f y,ti.get ty with
 |some v,some i=>match i.under with
  | .interface _=>none
  |_=>some (.iface ty v)
 |_,_=>none
theorem zmz (hx:x.Ok){y:Operand}{ty:TypeId}(ho:o.op = .makeInterface ty y)(ht:TR E n t a.tmps)(hg:GOk x.ng E)
  (h:xmkif x.ti (ev x.ng t) ty y=some v):Yld x.P E a o v:=by
 unfold xmkif at h
 split at h
 ·rename_i u i hy hi
  have hti:=hx.tiOk hi
  split at h
  ·cases h
  ·rename_i hnot
   cases h
   refine ⟨.iface ty (a.eval y),fun w=>?_,.iface (zae ht hg hy)⟩
   unfold execOp
   rw[ho]
   have hw:=hti.run_under w
   cases hu:i.under with
   |interface ms=>exact absurd hu (hnot ms)
   |_=>rw[hu] at hw;simp[Instr.makeInterface,hw]
 ·cases h
def xconv (P:Program)(ti:Tr TI)(f:Operand→Option Value)(o:Oper)(src dst:TypeId)(y:Operand):Option Value :=
 match f y,undT ti src,undT ti dst with
 |some (.int _ k),some _,some (TypeDesc.int kd)=>plainV (semPure (Conv.intToInt kd k))
 |_,_,_=>pureOp P f o
theorem zm0 (hx:x.Ok){src dst:TypeId}{y:Operand}(ho:o.op = .convert src dst y)(ht:TR E n t a.tmps)(hg:GOk x.ng E)
  (h:xconv x.P x.ti (ev x.ng t) o src dst y=some v):Yld x.P E a o v:=by
 unfold xconv at h
 split at h
 ·rename_i k1 k2 d kd hy hu1 hu2
  obtain ⟨h,hp⟩:=zgl h
  have hb:=ze8 h
  have e1:=VR.plain_inv rfl (zae ht hg hy)
  obtain ⟨i1,h1,_⟩:=zao hx hu1
  obtain ⟨i2,h2,hu2⟩:=zao hx hu2
  refine ⟨v,fun w=>?_,.plain hp⟩
  unfold execOp
  rw[ho]
  have hw:=h2.run_under w
  rw[hu2] at hw
  simp only[convert,qT,h1.run_under w,hw,qS,e1,hb,Sem.run_pure']
  rfl
 ·exact zbp (by rw[ho];intro cs b h;cases h) ht hg h
def xnil (f:Operand→Option Value)(y:Operand):Option Value :=
 match f y with
 |some (.pointer (some p))=>some (.pointer (some p))
 |some (.func (.func g) fi ca)=>some (.func (.func g) fi ca)
 |_=>none
def xpick (f:Operand→Option Value)(c p q:Operand):Option Value :=
 match f c with
 |some (.bool b)=>cond b (f p) (f q)
 |_=>none
def xextr (f:Operand→Option Value)(y:Operand)(k:Nat):Option Value :=
 match f y with
 |some (.tuple ⟨l⟩)=>nth l k
 |_=>none
def xmkfn (f:Operand→Option Value)(fn:Fn)(fi ca:Array Operand):Option Value :=
 match fn,evL f fi.toList,evL f ca.toList with
 | .func g,some l,some m=>some (.func (.func g) ⟨l⟩ ⟨m⟩)
 |_,_,_=>none
def xpure (x:X)(t:Tr Value)(o:Oper):Option Value :=
 match o.op with
 | .move y | .assign y=>ev x.ng t y
 | .pick c p q=>xpick (ev x.ng t) c p q
 | .nilCheck y=>xnil (ev x.ng t) y
 | .binOp op ty p q _=>xbin x.P x.facts x.ti (ev x.ng t) o op ty p q
 | .unOp ..=>pureOp x.P (ev x.ng t) o
 | .convert s d y=>xconv x.P x.ti (ev x.ng t) o s d y
 | .build ty ps=>xbuild x.ti (ev x.ng t) ty ps
 | .makeFunc fn fi ca=>xmkfn (ev x.ng t) fn fi ca
 | .slice ty y lo hi mx=>xslice x.P x.ti (ev x.ng t) o ty y lo hi mx
 | .fieldAddr ty y k=>xfieldAddr x.ti (ev x.ng t) ty y k
 | .indexAddr ty y k=>xindexAddr x.ti (ev x.ng t) ty y k
 | .index ty y k=>xindex x.P x.ti (ev x.ng t) o ty y k
 | .extract y k=>xextr (ev x.ng t) y k
 | .makeInterface ty y=>xmkif x.ti (ev x.ng t) ty y
 | .typeAssert y _ as ok=>xassert x.ti (ev x.ng t) y as ok
 | .call c=>match c.callee with
  | .builtin .len=>xlen x.ti (ev x.ng t) c
  | .builtin .min=>pureOp x.P (ev x.ng t) o
  | .builtin .max=>pureOp x.P (ev x.ng t) o
  |_=>none
 |_=>none
theorem zcd (hx:x.Ok)(ht:TR E n t a.tmps)(hg:GOk x.ng E)(h:xpure x t o=some v):Yld x.P E a o v:=by
 unfold xpure at h
 split at h
 ·rename_i y ho
  exact ⟨a.eval y,fun w=>by unfold execOp;rw[ho];rfl,zae ht hg h⟩
 ·rename_i y ho
  exact ⟨a.eval y,fun w=>by unfold execOp;rw[ho];rfl,zae ht hg h⟩
 ·rename_i c p q ho
  unfold xpick at h
  split at h
  ·rename_i b hb
   have e1:=VR.plain_inv rfl (zae ht hg hb)
   cases b with
   |true=>exact ⟨a.eval p,fun w=>by unfold execOp;rw[ho];simp only[qT,e1,asBool,qU,qS,if_true],zae ht hg h⟩
   |false=>exact ⟨a.eval q,fun w=>by unfold execOp;rw[ho];simp only[qT,e1,asBool,qU,qS,Bool.false_eq_true,if_false],zae ht hg h⟩
  ·cases h
 ·rename_i y ho
  unfold xnil at h
  split at h
  ·rename_i p hp
   cases h
   have r:=zae ht hg hp
   obtain ⟨e,_,_,e1⟩:=r.ptr_inv
   exact ⟨a.eval y,fun w=>by unfold execOp;rw[ho];simp only[e1,qU],r⟩
  ·rename_i g fi ca hp
   cases h
   have r:=zae ht hg hp
   obtain ⟨fi⟩:=fi;obtain ⟨ca⟩:=ca
   obtain ⟨fi',ca',e1,_⟩:=r.func_inv
   exact ⟨a.eval y,fun w=>by unfold execOp;rw[ho];simp only[e1,qU],r⟩
  ·cases h
 ·rename_i ho;exact zp3 hx ho ht hg h
 ·rename_i ho;exact zbp (by rw[ho];intro cs b h;cases h) ht hg h
 ·rename_i ho;exact zm0 hx ho ht hg h
 ·rename_i ho;exact zk8 hx ho ht hg h
 ·rename_i fn fi ca ho
  unfold xmkfn at h
  split at h
  ·rename_i g l m hl hm
   cases h
   refine ⟨.func (.func g) ⟨fi.toList.map a.eval⟩ ⟨ca.toList.map a.eval⟩,fun w=>?_,VR.func' (zd2 ht hg hl) (zd2 ht hg hm)⟩
   unfold execOp
   rw[ho]
   simp only[Instr.makeFunc,qT,qU,qS]
   congr 3 <;> exact Array.toList_inj.1 (by simp)
  ·cases h
 ·rename_i ho;exact zk7 hx ho ht hg h
 ·rename_i ho;exact zgy hx ho ht hg h
 ·rename_i ho;exact zgz hx ho ht hg h
 ·rename_i ho;exact zk6 hx ho ht hg h
 ·rename_i y k ho
  unfold xextr at h
  split at h
  ·rename_i l hl
   obtain ⟨l',e1,hl'⟩:=(zae ht hg hl).tuple_inv
   rw[nth_eq] at h
   obtain ⟨u,hu,hr⟩:=F2.get hl' h
   refine ⟨u,fun w=>?_,hr⟩
   unfold execOp
   rw[ho]
   have e:(⟨l'⟩:Array Value)[k]? = some u:=by rw[xA];exact hu
   simp only[Instr.extract,e1,e,qT,qU,qS]
  ·cases h
 ·rename_i ho;exact zmz hx ho ht hg h
 ·rename_i ho;exact zju hx ho ht hg h
 ·rename_i c ho
  split at h
  ·rename_i hc;exact zp5 hx hc ho ht hg h
  ·exact zbp (by rw[ho];intro cs b h;cases h) ht hg h
  ·exact zbp (by rw[ho];intro cs b h;cases h) ht hg h
  ·cases h
 ·cases h
end
def Bk.readN (B:Bk)(n:Nat):Nat→Option (List Value) :=
 Nat.rec (motive:=fun _=>Nat→Option (List Value)) (fun _=>some []) (fun _ ih j=>match B.at j with
  |some v=>match ih (j+1) with
   |some l=>some (v :: l)
   |none=>none
  |none=>none) n
theorem Bk.readN_sound {B:Bk}:∀ {n j:Nat} {l:List Value},B.readN n j=some l→l.length=n∧∀ (i:Nat) v,l[i]? = some v→B.at (j+i)=some v
 | 0,j,l,h=>by cases h;exact ⟨rfl,fun i v hv=>by simp at hv⟩
 |n+1,j,l,h=>by
  change (match B.at j with
   |some v=>match B.readN n (j+1) with
    |some l=>some (v :: l)
    |none=>none
   |none=>none)=some l at h
  split at h
  ·rename_i v hv
   split at h
   ·rename_i r hr
    cases h
    obtain ⟨h1,h2⟩:=Bk.readN_sound hr
    refine ⟨by simp[h1],fun i u hu=>?_⟩
    cases i with
    |zero=>simp at hu;subst hu;exact hv
    |succ i =>
     have:=h2 i u (by simpa using hu)
     rw[show j+(i+1)=j+1+i by omega];exact this
   ·cases h
  ·cases h
def At (w:World)(b o:Nat)(l:List Value):Prop:=∀ (i:Nat) u,l[i]? = some u→w.cell? ⟨b,o+i,none⟩=some u
theorem zk9 {w:World}{b o:Nat}{l:List Value}(h:At w b o l)(j:Nat)(v:Value)(hv:l[j]? = some v):w.cell? ((⟨b,o,none⟩:Addr).add j)=some v:=by
 rw[zb5];exact h j v hv
theorem zfd {E:En}{d:Nat}{cs:Array Value}:∀ {l:List Value} {o:Nat},(∀ (i:Nat) v,l[i]? = some v→∃ u,cs[d+(o+i)]? = some u∧VR E v u)→∃ l',LR E l l'∧∀ (i:Nat) u,l'[i]? = some u→cs[o+d+i]? = some u
 | [],o,_=>⟨[],.nil,fun i u h=>by simp at h⟩
 |v :: l,o,h=>by
  obtain ⟨u,hu,hr⟩:=h 0 v rfl
  obtain ⟨l',h1,h2⟩:=zfd (l:=l) (o:=o+1) fun i v hv=>by
   have:=h (i+1) v (by simpa using hv)
   rwa[show o+(i+1)=o+1+i by omega] at this
  refine ⟨u :: l',.cons hr h1,fun i u' hu'=>?_⟩
  cases i with
  |zero=>simp at hu';subst hu';rw[show o+d+0=d+(o+0) by omega];exact hu
  |succ i =>
   have:=h2 i u' (by simpa using hu')
   rwa[show o+d+(i+1)=o+1+d+i by omega]
theorem HR.read {E:En}{h:Hp}{w:World}(H:HR E h w){b o n:Nat}{B:Bk}{l:List Value}(hb:h.blk b=some B)(hl:B.readN n o=some l) :
  ∃ e l',E b=some e∧LR E l l'∧l'.length=n∧At w e.blk (o+e.d) l':=by
 obtain ⟨e,he,cs,fr,h1,h2,h3,h4,_⟩:=H.obj b _ (Hp.blk_some.1 hb)
 obtain ⟨hlen,hat⟩:=Bk.readN_sound hl
 obtain ⟨l',r1,r2⟩:=zfd (d:=e.d) (cs:=cs) (l:=l) (o:=o) fun i v hv=>h4 _ _ (hat i v hv)
 exact ⟨e,l',he,r1,by rw[← r1.length,hlen],fun i u hu=>by rw[cell_of_row w e.blk _ cs _ _ h1];exact r2 i u hu⟩
def xload (ti:Tr TI)(h:Hp)(ty:TypeId)(v:Option Value):Option Value :=
 match v with
 |some (.pointer (some ⟨b,o,none⟩))=>match ti.get ty,h.blk b with
  |some i,some B=>cond i.agg (aggOpt (B.readN i.size o)) (B.at o)
  |_,_=>none
 |_=>none
theorem zez {x:X}(hx:x.Ok){E:En}{h:Hp}{w:World}(H:HR E h w){ty:TypeId}{p v:Value}(hl:xload x.ti h ty (some p)=some v){p':Value}(hp:VR E p p') :
  ∃ b o l' u,p' = .pointer (some ⟨b,o,none⟩)∧At w b o l'∧VR E v u∧∀ w',At w' b o l'→(loadVar ty ⟨b,o,none⟩).run x.P w' = .ok u w':=by
 unfold xload at hl
 split at hl
 ·rename_i b o heq
  cases heq
  obtain ⟨e0,_,he0,e1⟩:=hp.ptr_inv
  split at hl
  ·rename_i i B hi hB
   have hti:=hx.tiOk hi
   cases hag:i.agg with
   |true =>
    rw[hag] at hl
    change aggOpt (B.readN i.size o)=some v at hl
    unfold aggOpt at hl
    split at hl
    ·rename_i l hr
     cases hl
     obtain ⟨e,l',he,hlr,hlen,hat⟩:=H.read hB hr
     rw[he0] at he;cases he
     refine ⟨e0.blk,o+e0.d,l',.agg ⟨l'⟩,e1,hat,VR.agg' hlr,fun w' hw'=>?_⟩
     unfold loadVar
     have:=run_loadCells_list (P:=x.P) w' ⟨e0.blk,o+e0.d,none⟩ l' (fun j u hu=>zk9 hw' j u hu)
     simp only[qT,hti.run_isAgg w',hag,qS,if_true,hti.run_size w', ← hlen,this,qU]
    ·cases hl
   |false =>
    rw[hag] at hl
    change B.at o=some v at hl
    have hr:B.readN 1 o=some [v]:=by
     show (match B.at o with
      |some v=>match B.readN 0 (o+1) with
       |some l=>some (v :: l)
       |none=>none
      |none=>none)=some [v]
     rw[hl];rfl
    obtain ⟨e,l',he,hlr,hlen,hat⟩:=H.read hB hr
    rw[he0] at he;cases he
    cases hlr with
    |cons hv ht =>
     cases ht with
     |nil =>
      rename_i u
      refine ⟨e0.blk,o+e0.d,[u],u,e1,hat,hv,fun w' hw'=>?_⟩
      have hc:=hw' 0 u rfl
      unfold loadVar
      simp only[qT,hti.run_isAgg w',hag,qS,Bool.false_eq_true,if_false]
      rw[run_load]
      rw[Nat.add_zero] at hc
      rw[hc]
  ·cases hl
 ·cases hl
theorem VR.one {E:En}{v v':Value}(h:VR E v v'):v'.oneCell'=v.oneCell':=by cases h <;> first|rfl|exact E.one _
def Wrote (w w':World)(b off:Nat)(vs:List Value)(cs:Array Value)(t:TypeId)(fr:Nat×Nat):Prop :=
 w'.os=w.os∧w'.tape=w.tape∧w'.output=w.output∧w'.heap.size=w.heap.size∧(∀ k,k≠b→w'.heap[k]? = w.heap[k]?) ∧
 ∃ cs',w'.heap[b]? = some (.cells cs' t fr)∧cs'.size=cs.size∧∀ j,cs'[j]? = if off≤j∧j<off+vs.length then vs[j - off]? else cs[j]?
theorem zc9 {P:Program}(b off:Nat)(t:TypeId)(fr:Nat×Nat):∀ (vs:List Value) (i:Nat) (cs:Array Value) (w:World),w.heap[b]? = some (.cells cs t fr)→off+i+vs.length≤cs.size →
  (∀ j,j<cs.size→¬ (fr.1≤j∧j<fr.2))→(∀ v∈vs,v.oneCell'=true)→∃ w',(storeCells ⟨b,off,none⟩ vs i).run P w = .ok () w'∧Wrote w w' b (off+i) vs cs t fr
 | [],i,cs,w,hb,_,_,_=>⟨w,rfl,rfl,rfl,rfl,rfl,fun _ _=>rfl,cs,hb,rfl,fun j=>by rw[qW (by simp only[List.length_nil];omega)]⟩
 |v :: vs,i,cs,w,hb,hlen,hfr,hone=>by
  simp only[List.length_cons] at hlen
  have hc:w.cell? ⟨b,off+i,none⟩=cs[off+i]?:=cell_of_row w b _ cs t fr hb
  have hcs:cs[off+i]? = some cs[off+i]:=Array.getElem?_eq_getElem (by omega)
  have hf:w.frozen? ⟨b,off+i,none⟩=false:=by
   unfold World.frozen?
   rw[hb]
   have:=hfr (off+i) (by omega)
   simp only[Bool.and_eq_false_iff,decide_eq_false_iff_not]
   omega
  have hs:(store ((⟨b,off,none⟩:Addr).add i) v).run P w = .ok () (w.setCell ⟨b,off+i,none⟩ v):=by
   rw[zb5,run_store P w _ v _ (hone v (by simp)),hc,hcs]
   simp[hf]
  have hb1:(w.setCell ⟨b,off+i,none⟩ v).heap[b]? = some (.cells (cs.setIfInBounds (off+i) v) t fr):=by
   simp only[World.setCell,Array.getElem?_modify,if_true,hb]
   simp
  obtain ⟨w',h1,h2,h3,h4,h5,h6,cs',h7,h8,h9⟩:=zc9 (P:=P) b off t fr vs (i+1) (cs.setIfInBounds (off+i) v) (w.setCell ⟨b,off+i,none⟩ v) hb1 (by simp;omega) (by simpa using hfr) (fun u hu=>hone u (by simp[hu]))
  refine ⟨w',?_,h2,h3,h4,by rw[h5];simp,fun k hk=>by rw[h6 k hk,Below.heap_setCell _ _ _ _ hk],cs',h7,by rw[h8];simp,fun j=>?_⟩
  ·unfold storeCells
   simp only[qT,hs,qS]
   exact h1
  ·rw[h9]
   simp only[List.length_cons]
   by_cases hj:off+i=j
   ·subst hj
    rw[qW (by omega),qX (by omega),Nat.sub_self]
    rw[Array.getElem?_setIfInBounds_self_of_lt (by omega)];rfl
   ·by_cases hj2:off+(i+1)≤j∧j<off+(i+1)+vs.length
    ·rw[qX hj2,qX (by omega),show j - (off+i)=(j - (off+(i+1)))+1 by omega,List.getElem?_cons_succ]
    ·rw[qW hj2,qW (by omega),Array.getElem?_setIfInBounds_ne hj]
def wrC (l:List Value):Nat→Tr Value→Tr Value :=
 List.rec (motive:=fun _=>Nat→Tr Value→Tr Value) (fun _ t=>t) (fun v _ ih j t=>ih (j+1) (t.set v j)) l
theorem zjv:∀ (l:List Value) (j:Nat) (t:Tr Value) (k:Nat),(wrC l j t).get k=if j≤k∧k<j+l.length then l[k - j]? else t.get k
 | [],j,t,k=>by rw[qW (by simp only[List.length_nil];omega)];rfl
 |v :: l,j,t,k=>by
  show (wrC l (j+1) (t.set v j)).get k=_
  rw[zjv l]
  simp only[List.length_cons]
  by_cases h1:j+1≤k∧k<j+1+l.length
  ·rw[qX h1,qX (by omega),show k - j=(k - (j+1))+1 by omega,List.getElem?_cons_succ]
  ·rw[qW h1,Tr.get_set]
   by_cases h2:k=j
   ·rw[qX h2,qX (by omega),h2,Nat.sub_self];rfl
   ·rw[qW h2,qW (by omega)]
def Bk.write (B:Bk)(j:Nat)(l:List Value):Bk:={ elem:=B.elem,size:=B.size,ro:=B.ro,dflt:=B.dflt,cells:=wrC l j B.cells }
theorem Bk.at_eq (B:Bk)(j:Nat):B.at j=if j<B.size then (match B.cells.get j with|some v=>some v|none=>B.dflt[j % B.dflt.length]?) else none:=by
 unfold Bk.at
 by_cases h:j<B.size
 ·rw[qX h,show Nat.blt j B.size=true by rw[Nat.blt_eq];exact h,nth_eq]
  cases B.cells.get j <;> rfl
 ·rw[qW h]
  cases hb:Nat.blt j B.size with
  |true=>exact absurd (zcc hb) h
  |false=>rfl
theorem Bk.at_write (B:Bk)(j:Nat)(l:List Value)(h:j+l.length≤B.size)(k:Nat):(B.write j l).at k=if j≤k∧k<j+l.length then l[k - j]? else B.at k:=by
 rw[Bk.at_eq,Bk.at_eq]
 show (if k<B.size then (match (wrC l j B.cells).get k with|some v=>some v|none=>B.dflt[k % B.dflt.length]?) else none)=_
 rw[zjv]
 by_cases hk:j≤k∧k<j+l.length
 ·rw[qX hk,qX hk,qX (by omega),List.getElem?_eq_getElem (by omega)]
 ·rw[qW hk,qW hk]
theorem Stp.write {E:En}{h:Hp}{w w':World}(H:HR E h w){b:Nat}{B:Bk}{e:Em}{j:Nat}{l l':List Value}{cs:Array Value}{fr:Nat×Nat}(hb:h.blk b=some B)(hro:B.ro=false)(he:E b=some e)
  (h2:cs.size=e.d+e.m) (h3:B.size≤e.m) (h4:CellsR E B e.d cs) (h5:∀ j,j<cs.size→¬ (fr.1≤j∧j<fr.2))
  (hsz:j+l.length≤B.size) (hl:LR E l l') (W:Wrote w w' e.blk (j+e.d) l' cs B.elem fr):Stp E E h (h.put b (.row (B.write j l))) w w':=by
 obtain ⟨w1,w2,w3,w4,w5,cs',w6,w7,w8⟩:=W
 refine Stp.put H (Hp.blk_some.1 hb) (by simp[Ob.wr,hro]) he w1 w2 w3 w4 w5 ⟨cs',fr,w6,by omega,h3,fun k v hv=>?_,fun _=>by rw[w7];exact h5,fun h=>by cases h⟩
 rw[Bk.at_write B j l hsz] at hv
 rw[w8, ← hl.length]
 by_cases hk:j≤k∧k<j+l.length
 ·rw[qX hk] at hv
  rw[qX (by omega),show e.d+k - (j+e.d)=k - j by omega]
  exact F2.get hl hv
 ·rw[qW hk] at hv
  rw[qW (by omega)]
  exact h4 k v hv
theorem HR.row {E:En}{h:Hp}{w:World}(H:HR E h w){b:Nat}{B:Bk}(hb:h.blk b=some B):∃ e cs fr,E b=some e∧w.heap[e.blk]? = some (.cells cs B.elem fr)∧cs.size=e.d+e.m∧B.size≤e.m∧CellsR E B e.d cs ∧
  (B.ro=false→∀ j,j<cs.size→¬ (fr.1≤j∧j<fr.2)):=by
 obtain ⟨e,he,cs,fr,h1,h2,h3,h4,h5⟩:=H.obj b _ (Hp.blk_some.1 hb)
 exact ⟨e,cs,fr,he,h1,h2,h3,h4,h5.1⟩
theorem HR.store {P:Program}{E:En}{h:Hp}{w:World}(H:HR E h w){b j:Nat}{B:Bk}{e:Em}{l l':List Value}(hb:h.blk b=some B)(hro:B.ro=false)(he:E b=some e)(hsz:j+l.length≤B.size)(hl:LR E l l')
  (hone:∀ v∈l,v.oneCell'=true):∃ w',(storeCells ⟨e.blk,j+e.d,none⟩ l').run P w = .ok () w'∧Stp E E h (h.put b (.row (B.write j l))) w w':=by
 obtain ⟨e',cs,fr,he',h1,h2,h3,h4,h5⟩:=H.row hb
 rw[he] at he';cases he'
 have hone':∀ v∈l',v.oneCell'=true:=fun v hv=>by
  obtain ⟨i,hi⟩:=List.getElem?_of_mem hv
  have hi':i<l.length:=by rw[hl.length];exact (xC.1 hi).1
  obtain ⟨u,hu,hr⟩:=F2.get hl (List.getElem?_eq_getElem hi')
  rw[hi] at hu;cases hu
  rw[hr.one];exact hone _ (List.getElem_mem hi')
 obtain ⟨w',hr,hW⟩:=zc9 (P:=P) e.blk (j+e.d) B.elem fr l' 0 cs w h1 (by rw[← hl.length];omega) (h5 hro) hone'
 exact ⟨w',hr,Stp.write H hb hro he h2 h3 h4 (h5 hro) hsz hl hW⟩
end Go.Proofs.YtemgclnkgieldaaGreatDoor.CX
