/- The sorted keys of a map in memory: the library's contracts (laid by the kit), over lists. -/
import Derived.Shelf.SlIterI.Nil
import Derived.Shelf.SortM.Plain
import Derived.Shelf.SortM.SortNone
import Derived.Test.YtemgclnkgieldaaGreatDoorVe
set_option maxHeartbeats 8000000
set_option maxRecDepth 100000
namespace Go.Proofs
open Go.RowKit Go.Maps Go.Sort Go.Shelf
shelf_lay_g SlLaysZ.n7 Ggz 7 at Tryz 202 as Tryz.keysSt
shelf_lay_g SlLaysZ.n6 Ggz 6 at Tryz 201 as Tryz.sortedSt
shelf_lay_g SlLaysM.n6 Slgm 6 at Tryz 379 as Tryz.sortSt
shelf_lay_g SlLaysZI.n7 Ggz 7 at Tryz 204 as Tryz.keysIn
shelf_lay_g SlLaysZI.n6 Ggz 6 at Tryz 203 as Tryz.sortedIn
shelf_lay_g SlLaysM.n5 Slgm 5 at Tryz 382 as Tryz.sortIn
end Go.Proofs
namespace Go.Proofs.YtemgclnkgieldaaGreatDoor.Oc
open Go Go.RowKit Dk
def R0:Value→Option (DataW Unit×List MemPlace):=fun _=>some (.nil,[])
theorem zje:∀ l:List (Lit×DataW Unit),(l.foldr DataW.insert []).Perm l
 | [] => .refl _
 |x :: l=>(WideShapes.insert_perm x _).trans ((zje l).cons x)
theorem ztk {K:Type}{kv:KeyV K}{k:TypeId}{w:World}{b:Nat}{m:List (K×Value)}(h:MapIs w kv b m)(lit:K→Lit)(hk:∀ p∈m,keyOf Tryz.prog k (kv.kv p.1)=some (lit p.1))(hn:m.length≤100000) :
  ∃ es:List (Lit×DataW Unit),w.ownsMap Tryz.prog k R0 b m.length (.map es)∧es.Perm (m.map fun p=>(lit p.1,.nil)):=by
 obtain ⟨es,clock,hb,he,hs⟩:=h
 have hkeys:∀ x∈es.toList,∃ p∈m,x.key=kv.kv p.1∧x.val=p.2:=fun x hx=>zkd he hx
 have hrd:∀ x∈es.toList,∃ p∈m,x.key=kv.kv p.1∧WideElems.rd Tryz.prog k R0 x=some (lit p.1,.nil):=fun x hx=>by
  obtain ⟨p,hp,e1,_⟩:=hkeys x hx
  refine ⟨p,hp,e1,?_⟩
  unfold WideElems.rd
  rw[e1,hk p hp]
  rfl
 have hmap:es.toList.map (WideElems.rg Tryz.prog k R0)=m.map fun p=>(lit p.1,.nil):=by
  have:∀ (l:List MapEntry) (m:List (K×Value)),(∀ p∈m,keyOf Tryz.prog k (kv.kv p.1)=some (lit p.1))→l.map (fun e=>(e.key,e.val))=m.map (fun p=>(kv.kv p.1,p.2))→l.map (WideElems.rg Tryz.prog k R0)=m.map fun p=>(lit p.1,.nil):=by
   intro l
   induction l with
   |nil=>intro m _ h;cases m with
    |nil=>rfl
    |cons p m=>cases h
   |cons x l ih=>intro m hm h;cases m with
    |nil=>cases h
    |cons p m =>
     rw[kM,kM] at h
     injection h with h1 h2
     injection h1 with h1 h3
     rw[kM,kM,ih m (fun q hq=>hm q (qP _ hq)) h2]
     congr 1
     refine WideElems.rg_of ?_
     unfold WideElems.rd
     rw[h1,hm p qO]
     rfl
  exact this _ m (hk) he
 have hsz:es.size=m.length:=zs8 he
 refine ⟨_,⟨es,clock,hb,⟨by rw[hsz];unfold maxLen;omega,hs,fun x hx=>?_⟩,by rw[hsz];exact kJ _,rfl⟩,?_⟩
 ·obtain ⟨p,_,_,hr⟩:=hrd x hx
  exact ⟨_,hr⟩
 ·rw[← hmap]
  exact zje _
theorem ztl (mb:Option Nat)(W:World):Calls Tryz.prog 202 #[.map mb] W fun e w'=>e = .returned (.func (.func 380) #[] #[.pointer (some ⟨W.heap.size,0,none⟩)])∧w'=W.alloc (.cells #[.map mb] 155) :=
 (callsIn_wide (n:=5)).1 (Go.Proofs.AnyZ.keys_in Tryz.keysSt Fence.wide 5 trivial rfl mb W)
theorem ztm (mb:Option Nat)(W:World):Calls Tryz.prog 204 #[.map mb] W fun e w'=>e = .returned (.func (.func 383) #[] #[.pointer (some ⟨W.heap.size,0,none⟩)])∧w'=W.alloc (.cells #[.map mb] 238) :=
 (callsIn_wide (n:=5)).1 (Go.Proofs.AnyZI.keys_in Tryz.keysIn Fence.wide 5 trivial rfl mb W)
theorem sortsS (m:Nat):Go.Proofs.AnyZ.SortsIn Tryz.prog Tryz.sortedSt_ren Fence.wide m :=
 ⟨fun blk off cap ss W hH hblk hsz=>callsIn_wide.2 (Go.Proofs.AnyM.slices_Sort_string Tryz.sortSt blk off cap ss W hH hblk hsz),
  fun p cap W=>callsIn_wide.2 (Go.Proofs.AnyM.slices_Sort_string_none Tryz.sortSt p cap W)⟩
theorem sortsI (m:Nat):Go.Proofs.AnyZI.SortsIn Tryz.prog Tryz.sortedIn_ren Fence.wide m :=
 ⟨fun blk off cap ss W hH hblk hsz=>callsIn_wide.2 (Go.Proofs.AnyM.slices_Sort_int Tryz.sortIn blk off cap ss W hH hblk hsz),
  fun p cap W=>callsIn_wide.2 (Go.Proofs.AnyM.slices_Sort_int_none Tryz.sortIn p cap W)⟩
def StrRow (w:World)(B:Nat)(v:Value)(zs:List (List UInt8)):Prop:=w.ownsRow B 9 1 v zs.length (zs.map fun s => .string ⟨⟨s⟩⟩)
def IntRow (w:World)(B:Nat)(v:Value)(zs:List Int):Prop:=w.ownsRow B 3 1 v zs.length (zs.map (Value.int .i64))
theorem zma (l:List (List UInt8)):(l.mergeSort (fun x y=>decide (x≤y))).Pairwise (· ≤ ·):=by
 have:=List.pairwise_mergeSort (le:=fun x y:List UInt8=>decide (x≤y)) (fun a b c h1 h2=>by simp only[decide_eq_true_eq] at *;exact List.le_trans h1 h2) (fun a b=>by simp only[Bool.or_eq_true,decide_eq_true_eq];exact List.le_total a b) l
 exact this.imp (by simp)
theorem zjf (l:List Int):(l.mergeSort (fun x y=>decide (x≤y))).Pairwise (· ≤ ·):=by
 have:=List.pairwise_mergeSort (le:=fun x y:Int=>decide (x≤y)) (fun a b c h1 h2=>by simp only[decide_eq_true_eq] at *;omega) (fun a b=>by simp only[Bool.or_eq_true,decide_eq_true_eq];omega) l
 exact this.imp (by simp)
theorem zny {w:World}{b:Nat}{m:List (ByteArray×Value)}(h:MapIs w KS b m)(hs:∀ p∈m,p.1.size≤1000)(hn:m.length≤100000) :
  Calls Tryz.prog 201 #[.func (.func 380) #[] #[.pointer (some ⟨w.heap.size,0,none⟩)]] (w.alloc (.cells #[.map (some b)] 155)) fun e w'=>∃ v zs,e = .returned v∧zs.Perm (m.map fun p=>p.1.data.toList)∧zs.Pairwise (· ≤ ·)∧StrRow w' w.heap.size v zs∧Below w.heap.size w w':=by
 obtain ⟨es,hown,hperm⟩:=ztk (k:=9) h (fun s => .string s.data.toList) (fun p hp=>Go.WideMaps.keyOf_string_mk Tryz.underlying9 (by have:=hs p hp;unfold maxLen;omega)) hn
 have hsz:es.length=m.length:=by rw[hperm.length_eq,kN]
 have hmax:Maps.size (DataW.map es)≤maxLen:=by show es.length≤_;rw[hsz];unfold maxLen;omega
 have hbytes:Maps.size (DataW.map es)*16≤140737488355328:=by show es.length*16≤_;rw[hsz];omega
 have hbl:=hown.lt
 have hseq:Go.SeqGives Fence.wide 2 Tryz.prog 380 #[.pointer (some ⟨w.heap.size,0,none⟩)] encStr (fun ss=>ss.Perm (Go.strKeys (DataW.map es))) (Maps.size (DataW.map es)) (w.alloc (.cells #[.map (some b)] 155)) :=
  Go.Proofs.AnyZ.keys_gives (ρ:=Tryz.keysSt_ren) { Tryz.keysSt with } Fence.wide _ trivial rfl (by omega) w.heap.size b m.length (DataW.map es) _ (by simp) (by simp) (by
   obtain ⟨es',clock,hb,Ft,hs,hD⟩:=hown
   exact ⟨es',clock,(Below.heap_alloc _ _ b hbl).trans hb,Ft,hs,hD⟩)
 have:=(callsIn_wide (n:=5)).1 (Go.Proofs.AnyZ.sorted_in Tryz.sortedSt Fence.wide 5 trivial trivial trivial trivial rfl (by omega) (sortsS _) (enters_of Tryz.func379 (by kernel_rfl) rfl) 380 #[.pointer (some ⟨w.heap.size,0,none⟩)] trivial (enters_of Tryz.func380 (by kernel_rfl) rfl) _ _ hmax hbytes _ hseq)
 refine this.mono ?_
 rintro e w' ⟨v,ss,rfl,hS,hrow,_,hb⟩
 refine ⟨v,_,rfl,?_,zma ss,?_,?_⟩
 ·refine (List.mergeSort_perm _ _).trans (hS.trans ?_)
  show (es.map fun p=>Go.strOf p.1).Perm _
  refine (hperm.map _).trans ?_
  rw[qK]
  exact .refl _
 ·unfold StrRow
  rw[List.length_mergeSort]
  exact ownsRow_base_a hrow (by simp)
 ·exact ((Below.refl _ w).alloc (kJ _) _).trans (hb.mono (by simp))
theorem znz {w:World}{b:Nat}{m:List (Nat×Value)}(h:MapIs w KI b m)(hs:∀ p∈m,p.1≤1000000)(hn:m.length≤100000) :
  Calls Tryz.prog 203 #[.func (.func 383) #[] #[.pointer (some ⟨w.heap.size,0,none⟩)]] (w.alloc (.cells #[.map (some b)] 238)) fun e w'=>∃ v zs,e = .returned v∧zs.Perm (m.map fun p=>(p.1:Int))∧zs.Pairwise (· ≤ ·)∧IntRow w' w.heap.size v zs∧Below w.heap.size w w':=by
 obtain ⟨es,hown,hperm⟩:=ztk (k:=3) h (fun n => .int .i64 (n:Int)) (fun p hp=>Go.Maps.keyOf_int_mk Tryz.underlying3 (by have:=hs p hp;simp[Lit.wf,IntKind.min,IntKind.max,IntKind.signed,IntKind.bits];omega)) hn
 have hsz:es.length=m.length:=by rw[hperm.length_eq,kN]
 have hmax:Maps.size (DataW.map es)≤maxLen:=by show es.length≤_;rw[hsz];unfold maxLen;omega
 have hbytes:Maps.size (DataW.map es)*8≤140737488355328:=by show es.length*8≤_;rw[hsz];omega
 have hbl:=hown.lt
 have hseq:Go.SeqGives Fence.wide 2 Tryz.prog 383 #[.pointer (some ⟨w.heap.size,0,none⟩)] encZ (fun ss=>ss.Perm (Go.intKeys (DataW.map es))) (Maps.size (DataW.map es)) (w.alloc (.cells #[.map (some b)] 238)) :=
  Go.Proofs.AnyZI.keys_gives (ρ:=Tryz.keysIn_ren) { Tryz.keysIn with } Fence.wide _ trivial rfl (by omega) w.heap.size b m.length (DataW.map es) _ (by simp) (by simp) (by
   obtain ⟨es',clock,hb,Ft,hs,hD⟩:=hown
   exact ⟨es',clock,(Below.heap_alloc _ _ b hbl).trans hb,Ft,hs,hD⟩)
 have:=(callsIn_wide (n:=5)).1 (Go.Proofs.AnyZI.sorted_in Tryz.sortedIn Fence.wide 5 trivial trivial trivial trivial rfl (by omega) (sortsI _) (enters_of Tryz.func382 (by kernel_rfl) rfl) 383 #[.pointer (some ⟨w.heap.size,0,none⟩)] trivial (enters_of Tryz.func383 (by kernel_rfl) rfl) _ _ hmax hbytes _ hseq)
 refine this.mono ?_
 rintro e w' ⟨v,ss,rfl,hS,hrow,_,hb⟩
 refine ⟨v,_,rfl,?_,zjf ss,?_,?_⟩
 ·refine (List.mergeSort_perm _ _).trans (hS.trans ?_)
  show (es.map fun p=>Go.intOf p.1).Perm _
  refine (hperm.map _).trans ?_
  rw[qK]
  exact .refl _
 ·unfold IntRow
  rw[List.length_mergeSort]
  exact ownsRow_base_a hrow (by simp)
 ·exact ((Below.refl _ w).alloc (kJ _) _).trans (hb.mono (by simp))
theorem zko (w:World)(t:TypeId)(us:List Value):∀ j u,us[j]? = some u→(w.alloc (.cells ⟨us⟩ t)).cell? ((⟨w.heap.size,0,none⟩:Addr).add j)=some u:=by
 intro j u hu
 have h:(w.alloc (.cells ⟨us⟩ t)).cell? ⟨w.heap.size,j,none⟩=some u:=by
  rw[(Blk.new w t ⟨us⟩).cell,List.getElem?_toArray];exact hu
 rw[show (⟨w.heap.size,0,none⟩:Addr).add j=⟨w.heap.size,j,none⟩ by unfold Addr.add;by_cases hj:j=0 <;> simp[hj]]
 exact h
theorem zy8 {us:List Value}(h:us.all (·.oneCell')=true):∀ u∈us,u.oneCell'=true:=fun u hu=>List.all_eq_true.1 h u hu
theorem ztn:(Tryz.prog.info? 3).map (fun i=>(i.zero,i.size,i.bytes))=some (some (.int .i64 0),1,8):=by kernel_rfl
theorem StrRow.below {w w':World}{B:Nat}{v:Value}{zs:List (List UInt8)}(h:StrRow w B v zs)(hb:Below w.heap.size w w'):StrRow w' B v zs:=by
 refine ⟨h.1,?_⟩
 rcases h.2 with h0|⟨g,cap,cur,rfl,h1,h2,h3⟩
 ·exact .inl h0
 ·exact .inr ⟨g,cap,cur,rfl,h1,(hb.block g (lt_of_block h2)).trans h2,h3⟩
theorem StrRow.cell {w:World}{B:Nat}{v:Value}{zs:List (List UInt8)}(h:StrRow w B v zs)(hpos:0<zs.length):∃ g c,v = .slice (some ⟨g,0,none⟩) zs.length c∧zs.length≤c∧g<w.heap.size∧∀ j (hj:j<zs.length),w.cell? ⟨g,j,none⟩=some (.string ⟨⟨zs[j]⟩⟩):=by
 rcases h.2 with ⟨_,h0⟩|⟨g,cap,cur,rfl,h1,h2,h3,h4,h5,h6⟩
 ·omega
 ·refine ⟨g,cap,rfl,h3,lt_of_block h2,fun j hj=>?_⟩
  refine (cell_of_row _ _ j cur 9 _ h2).trans ?_
  have:(cur.toList.take (zs.length*1))[j]? = (zs.map fun s=>Value.string ⟨⟨s⟩⟩)[j]?:=by rw[h6]
  rw[List.getElem?_take_of_lt (by omega),List.getElem?_map,kV hj] at this
  simpa using this
theorem zmb {w:World}{B:Nat}{t:TypeId}{v:Value}{n:Nat}{xs:List Value}(h:w.ownsRow B t 1 v n xs):∃ A c,v = .slice A n c∧n≤c∧(A=none→n=0∧c=0)∧c≤9223372036854775807:=by
 rcases h.2 with ⟨rfl,h0⟩|⟨g,cap,cur,rfl,_,_,h3,h4,_⟩
 ·exact ⟨none,0,by rw[h0],by omega,fun _=>⟨h0,rfl⟩,by omega⟩
 ·exact ⟨_,cap,rfl,h3,(fun e=>by cases e),by unfold maxLen at h4;omega⟩
structure Pn where
 kind:Int
 name:ByteArray
 vy:Nat
 live:Nat
 ms:List Int
 x:Value
def tailP (p:Pn):List Int:=if p.kind=4 then textL (mkL p.live) else textL p.ms
def recP (p:Pn):List Int:=sealL p.kind (bodyL (nums p.name) p.vy (tailP p))
def cellsP (p:Pn):List Value:=[.int .i64 p.kind,.string p.name,.int .i64 (p.vy:Int),.int .i64 (p.live:Int),p.x]
structure PnOk (w:World)(far:Nat→Prop)(p:Pn):Prop where
 n1:p.name.size≤1000
 ver:p.vy<2147483648
 kd:(p.kind=4∧p.live<2147483648∧p.x = .slice none 0 0)∨(p.kind=5∧p.live=0∧RowIs w far p.x p.ms∧IsB p.ms∧p.ms.length≤12000)
theorem PnOk.alt {w w':World}{far far' q:Nat→Prop}{p:Pn}(h:PnOk w far p)(ha:Alt w w' q)(hp:∀ k,k<w.heap.size→q k→far k)(hf:∀ k,k<w.heap.size→far' k→far k):PnOk w' far' p :=
 ⟨h.n1,h.ver,h.kd.imp id fun ⟨h1,h2,h3,h4⟩=>⟨h1,h2,h3.alt ha hp hf,h4⟩⟩
theorem PnOk.below {w w':World}{far:Nat→Prop}{p:Pn}(h:PnOk w far p)(hb:Below w.heap.size w w'):PnOk w' far p:=h.alt (alt_of_below (p:=fun _=>False) hb) (fun _ _ h=>h.elim) (fun _ _ h=>h)
theorem zto {w:World}{far:Nat→Prop}{p:Pn}(h:PnOk w far p) :
  Calls Tryz.prog 198 #[.agg (noteV p.kind p.name p.vy (p.live:Int) p.x)] w fun e w'=>∃ A' L' c',e = .returned (.tuple #[.slice A' L' c',.bool true])∧Own w' w.heap.size (.slice A' L' c') (recP p)∧Below w.heap.size w w':=by
 unfold recP tailP
 rcases h.kd with ⟨hk,hl,hx⟩|⟨hk,hl,⟨ad,c,e,h0,hr,_⟩,hb,hml⟩
 ·rw[kZ hk,hx]
  exact znl p.name p.vy p.live hl _ h.n1 h.ver hk
 ·rw[kT (by omega),e,hl]
  exact znk p.name p.vy 0 hr rfl (fun h=>by cases h) hb hml h.n1 h.ver hk
theorem zvy {w:World}{far:Nat→Prop}{p:Pn}(h:PnOk w far p):(recP p).length≤20000:=by
 have h1:=h.n1
 have h2:=zaj p.name
 have h3:=zah (nums p.name)
 have h4:=zah (mkL p.vy)
 have h5:(mkL p.vy).length=4:=by simp[mkL]
 have h6:=zah (mkL p.live)
 have h7:(mkL p.live).length=4:=by simp[mkL]
 have h8:=zah p.ms
 have h9:(tailP p).length≤12010:=by
  unfold tailP
  rcases h.kd with ⟨hk,_⟩|⟨hk,_,_,_,hml⟩
  ·rw[kZ hk];omega
  ·rw[kT (by omega)];omega
 have h10:=zfq p.kind (bodyL (nums p.name) p.vy (tailP p))
 have h11:=zch (bodyL (nums p.name) p.vy (tailP p)).length
 have h12:(bodyL (nums p.name) p.vy (tailP p)).length=(textL (nums p.name)).length+((textL (mkL p.vy)).length+(tailP p).length):=by simp[bodyL]
 unfold recP
 omega
def PnRow (w:World)(B:Nat)(v:Value)(ps:List Pn):Prop:=w.ownsRow B 222 5 v ps.length (ps.map cellsP).flatten
def vsort (l:Ly):List Int:=(l.V.map fun r=>(r.v:Int)).mergeSort (fun x y=>decide (x≤y))
def nsort (L:List Ly):List (List UInt8):=(L.map fun l=>l.name.data.toList).mergeSort (fun x y=>decide (x≤y))
def headP (l:Ly):Pn:=⟨4,l.name,l.next,l.live,[],.slice none 0 0⟩
def keptP (l:Ly)(v:Int):Pn:=match fndV l v.toNat with
 |some r=>⟨5,l.name,r.v,0,r.ms,r.x⟩
 |none=>⟨5,l.name,0,0,[],.slice none 0 0⟩
def notesOf (l:Ly):List Pn:=headP l :: (vsort l).map (keptP l)
def imgOf (l:Ly):List Int:=((notesOf l).map recP).flatten
def imgS (L:List Ly)(s:List UInt8):List Int:=match fnd L (⟨⟨s⟩⟩:ByteArray) with
 |some l=>imgOf l
 |none=>[]
def imageL (L:List Ly):List Int:=((nsort L).map (imgS L)).flatten
theorem zpd {L:List Ly}{zs:List (List UInt8)}(h:zs.Perm (L.map fun l=>l.name.data.toList))(hs:zs.Pairwise (· ≤ ·)):zs=nsort L :=
 List.Perm.eq_of_pairwise (fun _a _b _ _ h1 h2=>List.le_antisymm h1 h2) hs (zma _) (h.trans (List.mergeSort_perm _ _).symm)
theorem zpe {l:Ly}{zs:List Int}(h:zs.Perm (l.V.map fun r=>(r.v:Int)))(hs:zs.Pairwise (· ≤ ·)):zs=vsort l :=
 List.Perm.eq_of_pairwise (fun a b _ _ h1 h2=>by omega) hs (zjf _) (h.trans (List.mergeSort_perm _ _).symm)
theorem infoNt:(Tryz.prog.info? 222).map (fun i=>(i.zero,i.size,i.bytes))=some (some (.agg #[.int .i64 0,.string ⟨#[]⟩,.int .i64 0,.int .i64 0,.slice none 0 0]),5,64):=by kernel_rfl
theorem IntRow.cell {w:World}{B:Nat}{v:Value}{zs:List Int}(h:IntRow w B v zs)(hpos:0<zs.length):∃ g c,v = .slice (some ⟨g,0,none⟩) zs.length c∧B≤g∧g<w.heap.size∧∀ (w':World) (q:Nat→Prop),Alt w w' q→¬ q g→∀ j (hj:j<zs.length),w'.cell? ⟨g,j,none⟩=some (.int .i64 zs[j]):=by
 rcases h.2 with ⟨_,h0⟩|⟨g,cap,cur,rfl,h1,h2,h3,h4,h5,h6⟩
 ·omega
 ·refine ⟨g,cap,rfl,h1,lt_of_block h2,fun w' q ha hq j hj=>?_⟩
  refine (cell_of_row _ _ j cur 3 _ ((ha.block g (lt_of_block h2) hq).trans h2)).trans ?_
  have:(cur.toList.take (zs.length*1))[j]? = (zs.map (Value.int .i64))[j]?:=by rw[h6]
  rw[List.getElem?_take_of_lt (by omega),List.getElem?_map,kV hj] at this
  simpa using this
theorem RowIs.new {w w':World}{far:Nat→Prop}{v:Value}{ms:List Int}(h:RowIs w far v ms)(hb:Below w.heap.size w w'):RowIs w' (fun _=>False) v ms:=by
 obtain ⟨ad,c,e,h0,hr,hn,hrr⟩:=h
 obtain ⟨ad',e',hlt,_⟩:=hr h0
 injection e' with e'
 subst e'
 exact ⟨ad,c,e,h0,hr.below hb,fun h=>h,hrr.keep (hb.block _ hlt)⟩
theorem flat5:∀ (ps:List Pn) (i t:Nat) (u:Value),(∃ hi:i<ps.length,(cellsP ps[i])[t]? = some u)→t<5→((ps.map cellsP).flatten)[i*5+t]? = some u
 | [],i,t,u,⟨hi,_⟩,_=>by cases hi
 |p :: ps,0,t,u,⟨_,h⟩,ht=>by
  rw[kM,qD,Nat.zero_mul,Nat.zero_add,qB (by show t<5;exact ht)]
  exact h
 |p :: ps,i+1,t,u,⟨hi,h⟩,ht=>by
  rw[kM,qD,kY (by show 5≤_;omega),show (i+1)*5+t - (cellsP p).length=i*5+t by show _ - 5=_;omega]
  exact flat5 ps i t u ⟨by simpa using hi,by simpa using h⟩ ht
theorem PnRow.cell {w:World}{B g n c:Nat}{ps:List Pn}(h:PnRow w B (.slice (some ⟨g,0,none⟩) n c) ps){w':World}{q:Nat→Prop}(ha:Alt w w' q)(hq:¬ q g){i:Nat}(hi:i<ps.length):(∀ t u,t<5→(cellsP ps[i])[t]? = some u→w'.cell? ⟨g,i*5+t,none⟩=some u)∧n=ps.length∧n≤c:=by
 rcases h.2 with ⟨e,_⟩|⟨g',cap,cur,e,h1,h2,h3,h4,h5,h6⟩
 ·cases e
 ·injection e with e1 e2 e3
  injection e1 with e1
  injection e1 with e1
  subst e1
  refine ⟨fun t u ht hu=>?_,e2,by omega⟩
  refine (cell_of_row _ _ (i*5+t) cur 222 _ ((ha.block g (lt_of_block h2) hq).trans h2)).trans ?_
  have h7:=flat5 ps i t u ⟨hi,hu⟩ ht
  rw[← h6,List.getElem?_take_of_lt (by omega)] at h7
  simpa using h7
structure ImgOk (L:List Ly):Prop where
 len:L.length≤100
 nm:∀ l∈L,l.name.size≤20
 nx:∀ l∈L,l.next≤100000∧l.live≤100000
 vs:∀ l∈L,l.V.length≤40
 vr:∀ l∈L,∀ r∈l.V,r.v≤100000∧IsB r.ms∧r.ms.length≤12000
 nd:∀ l∈L,(l.V.map (·.v)).Nodup
theorem ztp {w:World}{g gd bm size:Nat}{D:Option Nat}{L:List Ly}(h:Bk w g gd bm D size L)(ho:ImgOk L) :
  Calls Tryz.prog 89 #[.pointer (some ⟨g,0,none⟩)] w fun e w'=>∃ A' c',e = .returned (.slice A' (imageL L).length c')∧Own w' w.heap.size (.slice A' (imageL L).length c') (imageL L)∧Below w.heap.size w w':=by
 obtain ⟨i0,hi0,hz0,hz1,hz2⟩:=info_parts infoNt
 have HI:=kA hi0
 have HZ0:=kA hz0
 have HZ1:=kA hz1
 have HZ2:=kA hz2
 clear hi0 hz0 hz1 hz2
 obtain ⟨⟨c0,c1,c2⟩,cz⟩:=zat h.blk
 have HBK:=kA h
 have HO:=kA ho
 have hL100:=ho.len
 have HSORT:=kA (zny h.map (fun p hp=>by obtain ⟨l,hl,rfl⟩:=kO.1 hp;have h1:=ho.nm l hl;show l.name.size≤1000;omega) (by show (L.map _).length≤_;rw[kN];omega))
 clear h ho
 go_enter Tryz.func89,Tryz.ntmps89
 go_wp2_with (first
  |(go_at_call 202;refine (ztl _ _).mono ?_;rintro e w3 ⟨rfl,rfl⟩)
  |(go_at_call 201;refine HSORT.out.mono ?_;rintro e w4 ⟨v,zs,rfl,hp,hs,hr,hb⟩;obtain ⟨A,c,rfl,hc1,hc2,hc3⟩:=zmb hr;have HP:Hid (zs.Perm (L.map fun l=>l.name.data.toList)):=kA (by rw[show (L.map fun l=>l.name.data.toList)=(shm L).map fun p=>p.1.data.toList by unfold shm;rw[qK];rfl];exact hp);have HS:Hid (zs=nsort L):=kA (zpd HP.out hs);have HR:=kA hr;have HB4:=kA hb;clear hp hs hr hb hc2))
 have HBK4:=kA (zal HBK.out HB4.out)
 have HFN:Hid (∀ k (hk:k<zs.length),∃ l,fnd L (⟨⟨zs[k]⟩⟩:ByteArray)=some l):=kA fun k hk=>by
  have h1:zs[k]∈L.map fun l=>l.name.data.toList:=HP.out.mem_iff.1 (List.getElem_mem hk)
  obtain ⟨l,hl,e⟩:=kO.1 h1
  cases hf:fnd L (⟨⟨zs[k]⟩⟩:ByteArray) with
  |some l=>exact ⟨l,rfl⟩
  |none =>
   have:=List.find?_eq_none.1 hf l hl
   exact absurd (by simp;exact ByteArray.ext (Array.toList_inj.1 (by simpa using e))) this
 have hzl:zs.length≤100:=by rw[HP.out.length_eq,kN];exact hL100
 have HSZ4:Hid (w.heap.size≤w4.heap.size):=kA HB4.out.size
 clear c0 c1 c2 cz
 go_loopw [3,5,6,7,9,12,13,21] (fun v3 _ _ _ _ _ _ v21 wr=>∃ (k:Nat) (A3:Option Addr) (c3:Nat),k≤zs.length∧v21 = .int .i64 (k:Int)∧v3 = .slice A3 (((zs.take k).map (imgS L)).flatten).length c3∧(((zs.take k).map (imgS L)).flatten).length≤k*820000∧Hid (Own wr w4.heap.size (.slice A3 (((zs.take k).map (imgS L)).flatten).length c3) (((zs.take k).map (imgS L)).flatten))∧Hid (Below w4.heap.size w4 wr)) (fun _ _ _ _ _ _ _ v21 _=>zs.length - (intOf v21).toNat)
 case atStart=>exact ⟨0,none,0,kX _,rfl,rfl,kX _,kA (World.ownsRow_nil _ _ _ _),kA (Below.refl _ _)⟩
 case round =>
  obtain ⟨k,A3,c3,hk,rfl,rfl,hlen3,hown,hbel⟩:=hrel
  by_cases hlt:k<zs.length
  ·obtain ⟨g9,c9,e9,_,_,hcell⟩:=(HR.out.below hbel.out).cell (by omega)
   injection e9 with e9 e9b e9c
   subst e9
   clear e9b e9c
   have hck:=hcell k hlt
   obtain ⟨l,hf⟩:=HFN.out k hlt
   have HF:=kA hf
   obtain ⟨nm,hnm⟩:∃ nm:ByteArray,nm=⟨⟨zs[k]⟩⟩:=⟨_,rfl⟩
   have HNM:=kA hnm
   rw[← hnm] at hck hf
   clear hcell hnm
   have HBR:=kA (zal HBK4.out hbel.out)
   obtain ⟨⟨c0,c1,c2⟩,cz⟩:=zat HBR.out.blk
   have hlk:(Instr.lookup 155 (.map (some bm)) (.string nm) false).run Tryz.prog wr = .ok (.pointer (some ⟨l.g,0,none⟩)) wr:=by
    have:=ze4 (P:=Tryz.prog) Tryz.underlying155 Tryz.underlying9 (zvr wr) HBR.out.map nm false
    rw[zh3,hf] at this
    exact this
   obtain ⟨⟨s0,s1,s2⟩,sz⟩:=zat (HBR.out.sh l (zax hf).1).1
   have HML:=kA (zax hf).1
   clear hf
   obtain ⟨n3,hn3⟩:∃ n3,n3=(((zs.take k).map (imgS L)).flatten).length:=⟨_,rfl⟩
   have HN3:=kA hn3
   rw[← hn3] at hlen3 ⊢
   clear hn3
   go_upto_region 6 with fail
   go_region
   have HNR:Hid (PnRow (wr.alloc (.cells #[.int .i64 4,.string nm,.int .i64 (l.next:Int),.int .i64 (l.live:Int),.slice none 0 0] 222)).drew wr.heap.size (.slice (some ⟨wr.heap.size,0,none⟩) 1 1) [headP l]):=kA (by
    have hln:l.name=nm:=by rw[HNM.out];exact (zax HF.out).2
    refine ⟨by simp[cellsP],.inr ⟨wr.heap.size,1,_,rfl,kJ _,heap_alloc_new wr _,by simp,by unfold maxLen;omega,by simp,?_⟩⟩
    simp[cellsP,headP,hln])
   have HB5:Hid (Below wr.heap.size wr (wr.alloc (.cells #[.int .i64 4,.string nm,.int .i64 (l.next:Int),.int .i64 (l.live:Int),.slice none 0 0] 222)).drew):=kA (Below.new1 wr _).drew
   have HSZ5:Hid (wr.heap.size<(wr.alloc (.cells #[.int .i64 4,.string nm,.int .i64 (l.next:Int),.int .i64 (l.live:Int),.slice none 0 0] 222)).drew.heap.size):=kA (by show wr.heap.size<(wr.alloc _).heap.size;simp)
   generalize (wr.alloc (.cells #[.int .i64 4,.string nm,.int .i64 (l.next:Int),.int .i64 (l.live:Int),.slice none 0 0] 222)).drew=W1 at HNR HB5 HSZ5 ⊢
   have HBK5:=kA (zal HBR.out HB5.out)
   have HO5:=kA (zam hown.out HB5.out)
   have HLT5:Hid (∀ j,(Value.slice A3 n3 c3).ownBlock=some j→w4.heap.size≤j∧j<wr.heap.size):=kA (fun j hj=>by rw[HN3.out] at hj;exact hown.out.base hj)
   have HB45:Hid (Below w4.heap.size w4 W1):=kA (hbel.out.trans (HB5.out.mono hbel.out.size))
   have HS4:Hid (w4.heap.size≤wr.heap.size):=kA hbel.out.size
   have HBW:Hid (∀ W,Below wr.heap.size wr W→Bk W g gd bm D size L):=kA (fun W hb=>zal HBR.out hb)
   have HLO:Hid (∀ W,Below wr.heap.size wr W→Own W w4.heap.size (.slice A3 (((zs.take k).map (imgS L)).flatten).length c3) (((zs.take k).map (imgS L)).flatten)):=kA (fun W hb=>zam hown.out hb)
   have HBW1:=kA HB5.out
   clear hown hbel HBR c0 c1 c2 cz s0 s1 s2 sz hck hlk HB5
   obtain ⟨gn,hgn⟩:∃ gn,gn=wr.heap.size:=⟨_,rfl⟩
   rw[← hgn] at HNR HSZ5 HLT5 HS4 HBW HLO HBW1 ⊢
   clear hgn
   obtain ⟨⟨s0,s1,s2⟩,sz⟩:=zat (HBK5.out.sh l HML.out).1
   have HKI:=kA (znz (HBK5.out.sh l HML.out).2.1 (fun p hp=>by obtain ⟨r,hr,rfl⟩:=kO.1 hp;have h1:=(HO.out.vr l HML.out r hr).1;show r.v≤1000000;omega) (by show (l.V.map _).length≤_;rw[kN];have:=HO.out.vs l HML.out;omega))
   go_upto_region 8 with (first
    |(go_at_call 204;refine (ztm _ _).mono ?_;rintro e w3 ⟨rfl,rfl⟩)
    |(go_at_call 203;refine HKI.out.mono ?_;rintro e w6 ⟨v,zs2,rfl,hp,hs,hr,hb⟩;obtain ⟨A2,c2',rfl,hc21,hc22,hc23⟩:=zmb hr;have HS2:Hid (zs2=vsort l):=kA (zpe (by rw[show (l.V.map fun r=>(r.v:Int))=l.vm.map fun p=>(p.1:Int) by unfold Ly.vm;rw[qK];rfl];exact hp) hs);have HR2:=kA hr;have HB6:=kA hb;clear hp hs hr hb hc22))
   have HB16:Hid (Below gn wr w6):=kA (HBW1.out.trans (HB6.out.mono (Nat.le_of_lt HSZ5.out)))
   have HNR6:Hid (PnRow w6 gn (.slice (some ⟨gn,0,none⟩) 1 1) [headP l]):=kA (by
    refine ⟨HNR.out.1,?_⟩
    rcases HNR.out.2 with ⟨e,_⟩|⟨g',cap,cur,e,h1,h2,h3⟩
    ·cases e
    ·exact .inr ⟨g',cap,cur,e,h1,(HB6.out.block g' (lt_of_block h2)).trans h2,h3⟩)
   have HSZ6:Hid (W1.heap.size≤w6.heap.size):=kA HB6.out.size
   have hz40:zs2.length≤40:=by
    rw[HS2.out,vsort,List.length_mergeSort,kN]
    exact HO.out.vs l HML.out
   have HGET:Hid (∀ j (hj:j<zs2.length),∃ r,r∈l.V∧(r.v:Int)=zs2[j]∧fndV l r.v=some r∧keptP l zs2[j]=⟨5,l.name,r.v,0,r.ms,r.x⟩):=kA fun j hj=>by
    have h1:zs2[j]∈l.V.map fun r=>(r.v:Int):=by
     have:zs2[j]∈vsort l:=HS2.out ▸ List.getElem_mem hj
     exact (List.mergeSort_perm _ _).mem_iff.1 this
    obtain ⟨r,hr,e⟩:=kO.1 h1
    have h2:∃ r',fndV l r.v=some r':=by
     cases hf:fndV l r.v with
     |some r'=>exact ⟨r',rfl⟩
     |none=>exact absurd (by simp) (List.find?_eq_none.1 hf r hr)
    obtain ⟨r',hr'⟩:=h2
    obtain ⟨hm',hv'⟩:=zhb hr'
    refine ⟨r',hm',by rw[hv'];exact e,by rw[hv'];exact hr',?_⟩
    unfold keptP
    have e2:zs2[j].toNat=r.v:=by rw[← e];simp
    rw[e2,hr']
   have HBG:Hid (∀ W,Alt w6 W (fun q=>q=gn)→Below gn wr W):=kA (fun W ha=>HB16.out.trans (Alt.toBelow ha (fun q _ e=>by rw[e];exact kJ _) (kH (Nat.le_of_lt HSZ5.out) HSZ6.out)))
   have HBKA:Hid (∀ W,Alt w6 W (fun q=>q=gn)→Bk W g gd bm D size L):=kA (fun W ha=>HBW.out W (HBG.out W ha))
   have HLNM:Hid (l.name=nm):=kA (by rw[HNM.out];exact (zax HF.out).2)
   go_loopw [7,9,49] (fun v7 _ v49 wx=>∃ (j gq cq:Nat),j≤zs2.length∧v49 = .int .i64 (j:Int)∧v7 = .slice (some ⟨gq,0,none⟩) (j+1) cq∧Hid (PnRow wx gn (.slice (some ⟨gq,0,none⟩) (j+1) cq) (headP l :: (zs2.take j).map (keptP l)))∧Hid (Alt w6 wx (fun q=>q=gn))∧Hid (gq=gn∨w6.heap.size≤gq)) (fun _ _ v49 _=>zs2.length - (intOf v49).toNat)
   case atStart=>exact ⟨0,gn,1,kX _,rfl,rfl,HNR6,kA (Alt.refl _ _),kA (.inl rfl)⟩
   case round =>
    obtain ⟨j,gq,cq,hj,rfl,rfl,hpr,halt,hgq⟩:=hrel
    by_cases hlt2:j<zs2.length
    ·obtain ⟨r,hrm,hrv,hrf,hkp⟩:=HGET.out j hlt2
     obtain ⟨gz,cz2,ez,hgz1,hgz2,hcellz⟩:=HR2.out.cell (by omega)
     injection ez with ez ezb ezc
     subst ez
     clear ezb ezc
     have hcz:=hcellz wr _ halt.out (by have:=HSZ5.out;omega) j hlt2
     rw[← hrv] at hcz
     have HBKR:=kA (HBKA.out _ halt.out)
     obtain ⟨⟨s0,s1,s2⟩,sz⟩:=zat (HBKR.out.sh l HML.out).1
     have hver:(Instr.lookup 238 (.map (some l.bv)) (.int .i64 (r.v:Int)) false).run Tryz.prog wr = .ok r.x wr:=by
      have:=ze4 (P:=Tryz.prog) Tryz.underlying238 Tryz.underlying3 (zeroS wr) (HBKR.out.sh l HML.out).2.1 r.v false
      rw[ztc,hrf] at this
      exact this
     obtain ⟨adx,cx,ex,_,_⟩:=(HBKR.out.sh l HML.out).2.2 r hrm
     obtain ⟨mx,hmx⟩:∃ mx,mx=r.ms.length:=⟨_,rfl⟩
     rw[ex, ← hmx] at hver
     rw[← hmx] at ex
     have HEX:=kA ex
     clear ex hmx
     obtain ⟨XS,hXS⟩:∃ XS,XS=((headP l :: (zs2.take j).map (keptP l)).map cellsP).flatten:=⟨_,rfl⟩
     have HXS:=kA hXS
     have HPR:Hid (wr.ownsRow gn 222 5 (.slice (some ⟨gq,0,none⟩) (j+1) cq) (j+1) XS):=kA (by
      have h1:=hpr.out
      unfold PnRow at h1
      rw[← hXS] at h1
      have h2:(headP l :: (zs2.take j).map (keptP l)).length=j+1:=by simp;omega
      rw[h2] at h1
      exact h1)
     clear hXS
     have HKP:=kA hkp
     have HRM:=kA hrm
     have hgnw:gn<wr.heap.size:=by have h1:=HSZ5.out;have h2:=HSZ6.out;have h3:=halt.out.size;omega
     clear hkp hrm hrf hrv hcellz
     go_upto_region 10 with fail
     go_wp2_with (at_builtin;refine wpList_append_lies _ rfl _ _ 385 rfl gn 222 i0 _ 5 64 Tryz.underlying385 HI.out HZ0.out HZ1.out HZ2.out rfl (by decide) _ (j+1) _ rfl (by exact HPR.out.alloc _) ⟨wr.heap.size,0,none⟩ 1 1 [.int .i64 5,.string nm,.int .i64 (r.v:Int),.int .i64 0,.slice (some adx) mx cx] rfl rfl (fun q u hu=>zko wr _ _ q u hu) (zy8 rfl) (by decide) (by unfold maxLen;omega) (by omega) (by simp;omega) (wr.heap.size+1) (by simp) ?_;intro g' cap w7 hown7 hgrow hlie hlt7;have H7:=kA hown7;have HG7:=kA hgrow;have HL7:=kA hlie;clear hown7 hgrow hlie hlt7)
     go_roundw
     case rel =>
      refine ⟨j+1,g',cap,by omega,by go_num,rfl,kA ?_,kA ?_,kA ?_⟩
      ·unfold PnRow
       have h2:(headP l :: (zs2.take (j+1)).map (keptP l)).length=j+1+1:=by simp;omega
       have h3:((headP l :: (zs2.take (j+1)).map (keptP l)).map cellsP).flatten=XS++[.int .i64 5,.string nm,.int .i64 (r.v:Int),.int .i64 0,.slice (some adx) mx cx]:=by
        rw[HXS.out,List.take_add_one,kV hlt2]
        have h4:cellsP (keptP l zs2[j])=[.int .i64 5,.string nm,.int .i64 (r.v:Int),.int .i64 0,.slice (some adx) mx cx]:=by
         rw[HKP.out]
         show [_,_,_,_,_]=_
         rw[HLNM.out,HEX.out]
         rfl
        rw[← h4]
        simp only[kM,kL,qD,qQ,List.map_nil,Option.toList,List.flatten_nil,qI,kR]
       rw[h2,h3]
       exact H7.out
      ·exact (halt.out.alloc _).grown HG7.out (fun q hq hlt3=>by
        have e:gq=q:=by injection hq
        rcases hgq.out with h|h
        ·rw[← e];exact h
        ·omega)
      ·rcases HL7.out with h|h
       ·have e:gq=g':=by injection h
        rw[← e];exact hgq.out
       ·right
        have:=halt.out.size
        omega
     case measure=>simp[intOf];omega
    ·have hjz:j=zs2.length:=by omega
     have HJZ:=kA hjz
     have HTK2:Hid (zs2.take j=zs2):=kA (by rw[hjz,List.take_length])
     clear hjz
     have HPS:Hid (PnRow wr gn (.slice (some ⟨gq,0,none⟩) (j+1) cq) (notesOf l)):=kA (by
      have h1:=hpr.out
      rw[HTK2.out,HS2.out] at h1
      exact h1)
     have HNL:Hid ((notesOf l).length=j+1):=kA (by
      show ((vsort l).map (keptP l)).length+1=_
      rw[kN, ← HS2.out, ← HJZ.out])
     have HBK7:=kA (HBKA.out _ halt.out)
     have HLO7:=kA (HLO.out _ (HBG.out _ halt.out))
     have HPOK:Hid (∀ W,Below w4.heap.size w4 W→∀ p∈notesOf l,PnOk W (fun _=>False) p):=kA (fun W hW p hp=>by
      have hnx:=HO.out.nx l HML.out
      have hnm:=HO.out.nm l HML.out
      rcases List.mem_cons.1 hp with rfl|hp
      ·exact ⟨by show l.name.size≤1000;omega,by show l.next < _;omega,.inl ⟨rfl,by show l.live < _;omega,rfl⟩⟩
      ·obtain ⟨v,hv,rfl⟩:=kO.1 hp
       rw[← HS2.out] at hv
       obtain ⟨q,hq,e⟩:=List.getElem_of_mem hv
       obtain ⟨r,hrm,_,_,hkp⟩:=HGET.out q hq
       rw[← e,hkp]
       have hvr:=HO.out.vr l HML.out r hrm
       exact ⟨by show l.name.size≤1000;omega,by show r.v < _;omega,.inr ⟨rfl,rfl,((HBK4.out.sh l HML.out).2.2 r hrm).new hW,hvr.2.1,hvr.2.2⟩⟩)
     have hgqw:gn≤gq:=by rcases hgq.out with h|h <;> (have h1:=HSZ5.out;have h2:=HSZ6.out;omega)
     have HWR:Hid (gn<wr.heap.size):=kA (by have h1:=HSZ5.out;have h2:=HSZ6.out;have h3:=halt.out.size;omega)
     have HB4R:Hid (Below w4.heap.size w4 wr):=kA (HB45.out.trans ((HB6.out.mono (by have h1:=HSZ5.out;have h2:=HS4.out;omega)).trans (Alt.toBelow halt.out (fun q _ e=>by rw[e];exact HS4.out) (by have h1:=HSZ5.out;have h2:=HSZ6.out;have h3:=HS4.out;omega))))
     go_upto_region 13 with fail
     obtain ⟨BS,hBS⟩:∃ BS,BS=((zs.take k).map (imgS L)).flatten:=⟨_,rfl⟩
     have HBS:=kA hBS
     have HLB:Hid (n3=BS.length):=kA (by rw[HN3.out,hBS])
     rw[← hBS] at HLO7
     clear hBS
     obtain ⟨ps,hps⟩:∃ ps,ps=notesOf l:=⟨_,rfl⟩
     have HPSN:=kA hps
     rw[← hps] at HPS HNL HPOK
     clear hps
     have hj41:j+1≤41:=by omega
     obtain ⟨w7,hw7⟩:∃ w7,w7=wr:=⟨_,rfl⟩
     subst hw7
     go_loopw [3,11,12,13,68] (fun v3 _ _ _ v68 wx=>∃ (i:Nat) (A8:Option Addr) (n8 c8:Nat),i≤j+1∧v68 = .int .i64 (i:Int)∧v3 = .slice A8 n8 c8∧Hid (n8=(BS++((ps.take i).map recP).flatten).length)∧n8≤n3+i*20000∧Hid (Own wx w4.heap.size (.slice A8 n8 c8) (BS++((ps.take i).map recP).flatten))∧Hid (Alt w7 wx (fun q=>(Value.slice A3 n3 c3).ownBlock=some q))∧Hid ((Value.slice A8 n8 c8).ownBlock=(Value.slice A3 n3 c3).ownBlock∨∀ q,(Value.slice A8 n8 c8).ownBlock=some q→w7.heap.size≤q)) (fun _ _ _ _ v68 _=>j+1 - (intOf v68).toNat)
     case atStart=>exact ⟨0,A3,n3,c3,kX _,rfl,rfl,kA (by rw[HLB.out];simp),by omega,kA (by have:=HLO7.out;rw[← HLB.out] at this;simpa using this),kA (Alt.refl _ _),kA (.inl rfl)⟩
     case round =>
      obtain ⟨i,A8,n8,c8,hi,rfl,rfl,hn8,hb8,ho8,ha8,hd8⟩:=hrel
      by_cases hlt3:i<j+1
      ·have hil:i<ps.length:=by rw[HNL.out];exact hlt3
       have HNG:Hid (¬ (Value.slice A3 n3 c3).ownBlock=some gq):=kA (fun e=>by have:=(HLT5.out gq e).2;omega)
       obtain ⟨hcl,hnn,hcq⟩:=HPS.out.cell ha8.out HNG.out hil
       clear hnn
       have HB4W:Hid (Below w4.heap.size w4 wr):=kA (HB4R.out.trans (Alt.toBelow ha8.out (fun q _ e=>(HLT5.out q e).1) HB4R.out.size))
       have HPI:=kA (HPOK.out _ HB4W.out ps[i] (List.getElem_mem hil))
       have HTK3:Hid (((ps.take (i+1)).map recP).flatten=((ps.take i).map recP).flatten++recP ps[i]):=kA (by
        rw[List.take_add_one,kV hil]
        simp only[kM,kL,qD,qQ,List.map_nil,Option.toList,List.flatten_nil,qI])
       obtain ⟨p,hp⟩:∃ p,p=ps[i]:=⟨_,rfl⟩
       rw[← hp] at hcl HPI HTK3
       clear hp
       obtain ⟨X,lx,cx,hx⟩:∃ X lx cx,p.x = .slice X lx cx:=by
        rcases HPI.out.kd with ⟨_,_,e⟩|⟨_,_,⟨ad,c',e,_⟩,_⟩
        ·exact ⟨_,_,_,e⟩
        ·exact ⟨_,_,_,e⟩
       have k0:=hcl 0 _ (by omega) rfl
       rw[Nat.add_zero] at k0
       have k1:=hcl 1 _ (by omega) rfl
       have k2:=hcl 2 _ (by omega) rfl
       have k3:=hcl 3 _ (by omega) rfl
       have k4:=hcl 4 _ (by omega) rfl
       rw[hx] at k4
       have HX:=kA hx
       have HRL:=kA (zvy HPI.out)
       clear hcl hx
       obtain ⟨XS8,hXS8⟩:∃ XS8,XS8=BS++((ps.take i).map recP).flatten:=⟨_,rfl⟩
       have HXS8:=kA hXS8
       rw[← hXS8] at hn8 ho8
       clear hXS8
       obtain ⟨RP,hRP⟩:∃ RP,RP=recP p:=⟨_,rfl⟩
       have HRP:=kA hRP
       have HRL2:Hid (RP.length≤20000):=kA (by rw[hRP];exact HRL.out)
       clear hRP
       go_upto_region 15 with fail
       have HN8:Hid (Blk (wr.alloc (.cells #[.int .i64 p.kind,.string p.name,.int .i64 (p.vy:Int),.int .i64 (p.live:Int),.slice X lx cx] 222)) wr.heap.size 222 #[.int .i64 p.kind,.string p.name,.int .i64 (p.vy:Int),.int .i64 (p.live:Int),.slice X lx cx]):=kA (Blk.new wr _ _)
       have HBN:Hid (Below wr.heap.size wr (wr.alloc (.cells #[.int .i64 p.kind,.string p.name,.int .i64 (p.vy:Int),.int .i64 (p.live:Int),.slice X lx cx] 222))):=kA (Below.new1 wr _)
       generalize wr.alloc (.cells #[.int .i64 p.kind,.string p.name,.int .i64 (p.vy:Int),.int .i64 (p.live:Int),.slice X lx cx] 222)=W8 at HN8 HBN ⊢
       have HREC:Hid (Calls Tryz.prog 198 #[.agg #[.int .i64 p.kind,.string p.name,.int .i64 (p.vy:Int),.int .i64 (p.live:Int),.slice X lx cx]] W8 fun e w'=>∃ A' L' c',e = .returned (.tuple #[.slice A' L' c',.bool true])∧Own w' W8.heap.size (.slice A' L' c') RP∧Below W8.heap.size W8 w'):=kA (by
        have:=zto (HPI.out.below HBN.out)
        unfold noteV at this
        rw[HX.out, ← HRP.out] at this
        exact this)
       obtain ⟨⟨m0,m1,m2,m3,m4⟩,mz⟩:=zan HN8.out
       go_wp2_with (first
        |(go_at_call 198;refine HREC.out.mono ?_;rintro e w9 ⟨A9,L9,c9',rfl,ho9,hb9⟩;obtain ⟨hl9,hc9⟩:=zh2 ho9;subst hl9;have HO9:=kA ho9;have HB9:=kA (HBN.out.trans (hb9.mono HBN.out.size));clear ho9 hb9)
        |(at_builtin;refine zdh _ rfl _ _ rfl rfl (zam ho8.out HB9.out) (ys:=RP) rfl (Rb.of_own HO9.out) (by have h1:=hn8.out;have h2:=HRL2.out;omega) (by have h1:=HB9.out.size;have h2:=ha8.out.size;have h3:=HB4R.out.size;omega) ?_;intro A' c' w10 ho10 hg10 hblk10;have HO10:=kA ho10;have HG10:=kA hg10;have HBL10:=kA hblk10;clear ho10 hg10 hblk10))
       go_roundw
       case rel =>
        have hl8:(BS++((ps.take (i+1)).map recP).flatten)=XS8++RP:=by rw[HTK3.out,HXS8.out,HRP.out,kR]
        have hsz8:=ha8.out.size
        have hsz9:=HB9.out.size
        refine ⟨i+1,A',XS8.length+RP.length,c',by omega,by go_num,rfl,kA (by rw[hl8,kI]),?_,kA ?_,kA ?_,kA ?_⟩
        ·have h1:=hn8.out
         have h2:=HRL2.out
         omega
        ·rw[hl8];exact HO10.out
        ·exact (ha8.out.trans (alt_of_below (p:=fun q=>(Value.slice A3 n3 c3).ownBlock=some q) HB9.out) (fun _ _ h=>h)).grown HG10.out (fun q hq hlt4=>by
          rcases hd8.out with h|h
          ·rw[← h];exact hq
          ·have:=h q hq;omega)
        ·rcases HBL10.out with h|h
         ·rw[h]
          exact hd8.out
         ·right
          intro q hq
          rw[h] at hq
          injection hq with hq
          omega
       case measure=>simp[intOf];omega
      ·have hij:i=j+1:=by omega
       have HTP:Hid (ps.take i=ps):=kA (by rw[hij, ← HNL.out,List.take_length])
       have hi41:i≤41:=by omega
       clear hij
       have hov8:n8≤(k+1)*820000:=by omega
       have HOV:=kA hov8
       go_wp2_with fail
       go_roundw
       case rel =>
        have hfin:((zs.take (k+1)).map (imgS L)).flatten=BS++((ps.take i).map recP).flatten:=by
         rw[List.take_add_one,kV hlt]
         simp only[kL,qQ,Option.toList,kM,List.map_nil,qD,List.flatten_nil,qI]
         rw[← HBS.out,HTP.out,HPSN.out]
         congr 1
         unfold imgS
         rw[HF.out]
         rfl
        have hn:=hn8.out
        rw[← hfin] at hn
        refine ⟨k+1,A8,c8,by omega,by go_num,by rw[← hn],by rw[← hn];exact HOV.out,kA ?_,kA ?_⟩
        ·rw[← hn,hfin]
         exact ho8.out
        ·exact HB4R.out.trans (Alt.toBelow ha8.out (fun q _ e=>(HLT5.out q e).1) HB4R.out.size)
       case measure=>simp[intOf];omega
  ·have hkz:k=zs.length:=by omega
   have HKZ:=kA hkz
   clear hkz
   go_wp2_with fail
   go_ret
   have hfin:((zs.take k).map (imgS L)).flatten=imageL L:=by
    rw[HKZ.out,List.take_length]
    unfold imageL
    rw[← HS.out]
   rw[hfin]
   have h1:=hown.out
   rw[hfin] at h1
   exact ⟨A3,c3,rfl,zkb h1 HSZ4.out,HB4.out.trans (hbel.out.mono HB4.out.size)⟩
theorem ztq {w:World}{b1 L c:Nat}{A:Option Addr}{kind:Int}(name:ByteArray)(vy live:Nat)(hlv:live<2147483648)(h:Own w b1 (.slice A L c) (bodyL (nums name) vy (textL (mkL live))))(hn:name.size≤20)(hn0:0<name.size)(hv:vy<2147483648)(hk:kind=4)(hst:strOf (nums name)=name)
  (hIs:∀ W:World,Calls Tryz.prog 82 #[.string name] W fun e w'=>e = .returned (.bool true)∧Below W.heap.size W w') :
  Calls Tryz.prog 72 #[.int .i64 kind,.slice A L c] w fun e w'=>e = .returned (.tuple #[.agg #[.int .i64 kind,.string name,.int .i64 (vy:Int),.int .i64 (live:Int),.slice none 0 0],.bool true])∧Below w.heap.size w w':=by
 have hk1:(kind == 4)=true:=by simp;omega
 have hk2:(kind == 1)=false:=by simp;omega
 have hk3:(kind == 5)=false:=by simp;omega
 clear hk
 have H:=kA h
 have HST:=kA hst
 have HIS:=kA hIs
 clear h hst hIs
 go_enter Tryz.func72,Tryz.ntmps72
 go_upto_region 2 with fail
 have HN:Hid (Blk ((w.alloc (.cells #[.int .i64 0,.string ⟨#[]⟩,.int .i64 0,.int .i64 0,.slice none 0 0] 222)).alloc (.cells #[.int .i64 kind,.string ⟨#[]⟩,.int .i64 0,.int .i64 0,.slice none 0 0] 222)) (w.heap.size+1) 222 #[.int .i64 kind,.string ⟨#[]⟩,.int .i64 0,.int .i64 0,.slice none 0 0]):=kA (by
  have:=Blk.new (w.alloc (.cells #[.int .i64 0,.string ⟨#[]⟩,.int .i64 0,.int .i64 0,.slice none 0 0] 222)) 222 #[.int .i64 kind,.string ⟨#[]⟩,.int .i64 0,.int .i64 0,.slice none 0 0]
  rwa[World.size_alloc] at this)
 have HZ:Hid (Blk ((w.alloc (.cells #[.int .i64 0,.string ⟨#[]⟩,.int .i64 0,.int .i64 0,.slice none 0 0] 222)).alloc (.cells #[.int .i64 kind,.string ⟨#[]⟩,.int .i64 0,.int .i64 0,.slice none 0 0] 222)) w.heap.size 222 #[.int .i64 0,.string ⟨#[]⟩,.int .i64 0,.int .i64 0,.slice none 0 0]):=kA ((Blk.new w _ _).alloc _)
 have HB:Hid (Below w.heap.size w ((w.alloc (.cells #[.int .i64 0,.string ⟨#[]⟩,.int .i64 0,.int .i64 0,.slice none 0 0] 222)).alloc (.cells #[.int .i64 kind,.string ⟨#[]⟩,.int .i64 0,.int .i64 0,.slice none 0 0] 222))):=kA ((Below.new1 w _).alloc (by simp) _)
 have HS:Hid (((w.alloc (.cells #[.int .i64 0,.string ⟨#[]⟩,.int .i64 0,.int .i64 0,.slice none 0 0] 222)).alloc (.cells #[.int .i64 kind,.string ⟨#[]⟩,.int .i64 0,.int .i64 0,.slice none 0 0] 222)).heap.size=w.heap.size+2):=kA (by simp)
 generalize (w.alloc (.cells #[.int .i64 0,.string ⟨#[]⟩,.int .i64 0,.int .i64 0,.slice none 0 0] 222)).alloc (.cells #[.int .i64 kind,.string ⟨#[]⟩,.int .i64 0,.int .i64 0,.slice none 0 0] 222)=W2 at HN HZ HB HS ⊢
 have HLB:Hid ((bodyL (nums name) vy (textL (mkL live))).length≤2000):=kA (by
  have:=zaj name;have:=zah (nums name);have:=zah (mkL vy);have:=zah (mkL live);unfold bodyL;simp[mkL] at *;omega)
 go_upto_region 4 with (first
  |(go_at_call 78;refine (zfr (zam H.out HB.out) (by have:=HLB.out;omega)).mono ?_;rintro e w3 ⟨g,A1,L1,c1,rfl,hr,hg,hb⟩;rw[HS.out] at hr hg;have HR:=kA hr;have HG:=kA hg;have HN:=kA (zab HN.out hb);have HZ:=kA (zab HZ.out hb);have HB:=kA (HB.out.trans (hb.mono HB.out.size));clear hr hg hb)
  |(go_at_call 175;(refine (zbg (xs:=nums name) (ys:=textL (mkL vy)++textL (mkL live)) 20 HR.out (by rw[zaj];omega) (by rw[zaj];omega) (by rw[zaj];omega) (by rw[HR.out.len];have:=HLB.out;omega)).mono ?_);rintro e w4 ⟨rfl,A2,L2,c2,hr,ha⟩;rw[HST.out];dsimp only;have hg:=HG.out;have HR:=kA hr;have HN:=kA (HN.out.kept ha (by omega));have HZ:=kA (HZ.out.kept ha (by omega));have HB:=kA (HB.out.trans (ha.below (fun k hk=>by omega) HB.out.size));obtain ⟨⟨k0,k1,k2,k3,k4⟩,fz⟩:=za2 HN.out;clear hr ha hg))
 have hg:=HG.out
 have HR5:=kA (HR.out.far (p:=⟨w.heap.size+1,1,none⟩) (by show w.heap.size+1<w.heap.size+2;omega) (by show w.heap.size+1≠g;omega) (.string name))
 have HN5:=kA (show Blk _ _ _ #[.int .i64 kind,.string name,.int .i64 0,.int .i64 0,.slice none 0 0] from HN.out.set_ 1 (.string name))
 have HZ5:=kA (HZ.out.far (p:=⟨w.heap.size+1,1,none⟩) (by show w.heap.size≠w.heap.size+1;omega) (.string name))
 have HB5:=kA (HB.out.setCell (p:=⟨w.heap.size+1,1,none⟩) (by show w.heap.size≤w.heap.size+1;omega) (.string name))
 clear HR HN HZ HB hg k0 k1 k2 k3 k4 fz
 generalize World.setCell _ _ _=W5 at HR5 HN5 HZ5 HB5 ⊢
 go_upto_region 6 with (first
  |(go_at_call 175;refine (zbg (xs:=mkL vy) (ys:=textL (mkL live)) 4 HR5.out (by simp[mkL]) (by simp[mkL]) (by simp[mkL]) (by rw[HR5.out.len];have:=zah (mkL vy);have:=zah (mkL live);simp[mkL] at *;omega)).mono ?_;rintro e w6 ⟨rfl,A3,L3,c3,hr,ha⟩;dsimp only;have hg:=HG.out;have HR6:=kA hr;have HN6:=kA (HN5.out.kept ha (by omega));have HZ6:=kA (HZ5.out.kept ha (by omega));have HB6:=kA (HB5.out.trans (ha.below (fun k hk=>by omega) HB5.out.size));clear hr ha hg)
  |(go_at_call 176;refine (zdj vy hv).mono ?_;rintro e w7 ⟨rfl,hb⟩;dsimp only;have HR7:=kA (HR6.out.below hb);have HN7:=kA (zab HN6.out hb);have HZ7:=kA (zab HZ6.out hb);have HB7:=kA (HB6.out.trans (hb.mono HB6.out.size));obtain ⟨⟨k0,k1,k2,k3,k4⟩,fz⟩:=za2 HN7.out;clear hb))
 have hg:=HG.out
 have HR8:=kA (HR7.out.far (p:=⟨w.heap.size+1,2,none⟩) (by show w.heap.size+1<w.heap.size+2;omega) (by show w.heap.size+1≠g;omega) (.int .i64 (vy:Int)))
 have HN8:=kA (show Blk _ _ _ #[.int .i64 kind,.string name,.int .i64 (vy:Int),.int .i64 0,.slice none 0 0] from HN7.out.set_ 2 (.int .i64 (vy:Int)))
 have HZ8:=kA (HZ7.out.far (p:=⟨w.heap.size+1,2,none⟩) (by show w.heap.size≠w.heap.size+1;omega) (.int .i64 (vy:Int)))
 have HB8:=kA (HB7.out.setCell (p:=⟨w.heap.size+1,2,none⟩) (by show w.heap.size≤w.heap.size+1;omega) (.int .i64 (vy:Int)))
 clear HR5 HN5 HZ5 HB5 HR6 HN6 HZ6 HB6 HR7 HN7 HZ7 HB7 hg k0 k1 k2 k3 k4 fz
 generalize World.setCell _ _ _=W8 at HR8 HN8 HZ8 HB8 ⊢
 obtain ⟨⟨k0,k1,k2,k3,k4⟩,fz⟩:=za2 HN8.out
 have HR8':=kA (show Rdr W8 _ _ A3 L3 c3 (textL (mkL live)++[]) by rw[qI];exact HR8.out)
 go_upto_region 18 with (first
  |(go_at_call 175;refine (zbg (xs:=mkL live) (ys:=[]) 4 HR8'.out (by simp[mkL]) (by simp[mkL]) (by simp[mkL]) (by rw[HR8'.out.len];have:=zah (mkL live);simp[mkL] at *;omega)).mono ?_;rintro e w9 ⟨rfl,A4,L4,c4,hr,ha⟩;dsimp only;have hg:=HG.out;have HR9:=kA hr;have HN9:=kA (HN8.out.kept ha (by omega));have HZ9:=kA (HZ8.out.kept ha (by omega));have HB9:=kA (HB8.out.trans (ha.below (fun k hk=>by omega) HB8.out.size));clear hr ha hg)
  |(go_at_call 176;refine (zdj live hlv).mono ?_;rintro e w10 ⟨rfl,hb⟩;dsimp only;have HR10:=kA (HR9.out.below hb);have HN10:=kA (zab HN9.out hb);have HZ10:=kA (zab HZ9.out hb);have HB10:=kA (HB9.out.trans (hb.mono HB9.out.size));obtain ⟨⟨k0,k1,k2,k3,k4⟩,fz⟩:=za2 HN10.out;clear hb))
 go_upto_region 19 with fail
 have hg:=HG.out
 have HR11:=kA (HR10.out.far (p:=⟨w.heap.size+1,3,none⟩) (by show w.heap.size+1<w.heap.size+2;omega) (by show w.heap.size+1≠g;omega) (.int .i64 (live:Int)))
 have HN11:=kA (show Blk _ _ _ #[.int .i64 kind,.string name,.int .i64 (vy:Int),.int .i64 (live:Int),.slice none 0 0] from HN10.out.set_ 3 (.int .i64 (live:Int)))
 have HZ11:=kA (HZ10.out.far (p:=⟨w.heap.size+1,3,none⟩) (by show w.heap.size≠w.heap.size+1;omega) (.int .i64 (live:Int)))
 have HB11:=kA (HB10.out.setCell (p:=⟨w.heap.size+1,3,none⟩) (by show w.heap.size≤w.heap.size+1;omega) (.int .i64 (live:Int)))
 clear HR8 HN8 HZ8 HB8 HR9 HN9 HZ9 HB9 HR10 HN10 HZ10 HB10 hg k0 k1 k2 k3 k4 fz
 generalize World.setCell _ _ _=W11 at HR11 HN11 HZ11 HB11 ⊢
 obtain ⟨⟨k0,k1,k2,k3,k4⟩,fz⟩:=za2 HN11.out
 have hL0:L4=0:=HR11.out.len
 have HL0:=kA hL0
 clear hL0
 go_wp2_with (first
  |(go_at_call 177;refine (zfs HR11.out).mono ?_;rintro e w12 ⟨rfl,rfl⟩)
  |(go_at_call 178;refine (zem HR11.out).mono ?_;rintro e w12 ⟨rfl,rfl⟩;rw[HL0.out];dsimp only)
  |(go_at_call 82;refine (HIS.out _).mono ?_;rintro e w12 ⟨rfl,hb⟩;have HN12:=kA (zab HN11.out hb);have HZ12:=kA (zab HZ11.out hb);have HB12:=kA (HB11.out.trans (hb.mono HB11.out.size));obtain ⟨⟨m0,m1,m2,m3,m4⟩,mz⟩:=za2 HN12.out;obtain ⟨⟨n0,n1,n2,n3,n4⟩,nz⟩:=za2 HZ12.out;clear hb))
 all_goals
  refine bodyPost_ret (zbs rfl _ _ w.heap.size #[.int .i64 kind,.string name,.int .i64 (vy:Int),.int .i64 (live:Int),.slice none 0 0] _ _ rfl (show Blk _ _ _ _ from (((((HZ12.out.set_ 0 (.int .i64 kind)).set_ 1 (.string name)).set_ 2 (.int .i64 (vy:Int))).set_ 3 (.int .i64 (live:Int))).set_ 4 (.slice none 0 0))) Tryz.underlying222 rfl zg9) rfl ⟨rfl,?_⟩
  exact ((((HB12.out.setCell (p:=⟨w.heap.size,0,none⟩) (kJ _) _).setCell (p:=⟨w.heap.size,1,none⟩) (kJ _) _).setCell (p:=⟨w.heap.size,2,none⟩) (kJ _) _).setCell (p:=⟨w.heap.size,3,none⟩) (kJ _) _).setCell (p:=⟨w.heap.size,4,none⟩) (kJ _) _
def keptLy (name:ByteArray)(next live:Nat)(g bv:Nat):Ly:=⟨name,next,live,g,bv,[]⟩
theorem ztr {w:World}{g gd bm size:Nat}{D:Option Nat}{L:List Ly}(h:Bk w g gd bm D size L){name last:ByteArray}(hf:fnd L name=none)(hlt:Op.bytesLess name.toList last.toList=false)(hle:(name.toList == last.toList)=false)(next live:Nat)(hn2:2≤next)(hn:next≤1000000)(hlv:live<next)(x:Value)(hD:∀ k,D=some k→k<w.heap.size)(hgd:gd<w.heap.size) :
  Calls Tryz.prog 73 #[.pointer (some ⟨g,0,none⟩),.agg (noteV 4 name next (live:Int) x),.string last] w fun e w'=>e = .returned (.bool true)∧∃ g' bv',Bk w' g gd bm D size (L++[keptLy name next live g' bv'])∧Alt w w' (fun k=>k=bm)∧w.heap.size≤g'∧w.heap.size≤bv':=by
 have HBK:=kA h
 have HF:=kA hf
 have HD:=kA hD
 have HGD:=kA hgd
 clear h hf hD hgd
 go_enter Tryz.func73,Tryz.ntmps73
 unfold noteV
 have hl1:¬ ((next:Int)<2):=by omega
 have hl2:¬ ((next:Int)≤(live:Int)):=by omega
 go_upto_region 1 with fail
 have HN:Hid (Blk (w.alloc (.cells #[.int .i64 4,.string name,.int .i64 (next:Int),.int .i64 (live:Int),x] 222)) w.heap.size 222 (noteV 4 name next (live:Int) x)):=kA (Blk.new w 222 (noteV 4 name next (live:Int) x))
 have HB:Hid (Below w.heap.size w (w.alloc (.cells #[.int .i64 4,.string name,.int .i64 (next:Int),.int .i64 (live:Int),x] 222))):=kA (Below.new1 w _)
 have HBK2:Hid (Bk (w.alloc (.cells #[.int .i64 4,.string name,.int .i64 (next:Int),.int .i64 (live:Int),x] 222)) g gd bm D size L):=kA (zal HBK.out HB.out)
 generalize w.alloc (.cells #[.int .i64 4,.string name,.int .i64 (next:Int),.int .i64 (live:Int),x] 222)=W2 at HN HB HBK2 ⊢
 have HN2:=HN
 have HB2:=HB
 obtain ⟨⟨n0,n1,n2,n3,n4⟩,nz⟩:=zan HN2.out
 obtain ⟨⟨c0,c1,c2⟩,cz⟩:=zat HBK2.out.blk
 have hmk:∀ t W,(Instr.makeMap t none).run Tryz.prog W = .ok (.map (some W.heap.size)) (W.alloc (.map #[] 0)):=fun _ _=>rfl
 go_upto_region 4 with fail
 have HM3:Hid (MapIs ((W2.drew.alloc (.map #[] 0)).alloc (.cells #[.int .i64 (next:Int),.int .i64 (live:Int),.map (some W2.heap.size)] 240)) KI W2.heap.size []):=kA ((MapIs.new W2.drew KI).keep (Below.heap_alloc _ _ _ (by simp)))
 have HS3:Hid (Blk ((W2.drew.alloc (.map #[] 0)).alloc (.cells #[.int .i64 (next:Int),.int .i64 (live:Int),.map (some W2.heap.size)] 240)) (W2.heap.size+1) 240 #[.int .i64 (next:Int),.int .i64 (live:Int),.map (some W2.heap.size)]):=kA (by
  have:=Blk.new (W2.drew.alloc (.map #[] 0)) 240 #[.int .i64 (next:Int),.int .i64 (live:Int),.map (some W2.heap.size)]
  rwa[World.size_alloc] at this)
 have HB3:Hid (Below W2.heap.size W2 ((W2.drew.alloc (.map #[] 0)).alloc (.cells #[.int .i64 (next:Int),.int .i64 (live:Int),.map (some W2.heap.size)] 240))):=kA (((Below.refl _ W2).drew.alloc (kJ _) _).alloc (by simp) _)
 have HBK3:=kA (zal HBK2.out HB3.out)
 obtain ⟨W4,hup0,hm4,ha4,hs4⟩:=zb9 (P:=Tryz.prog) Tryz.underlying155 Tryz.underlying9 HBK3.out.map name (.pointer (some ⟨W2.heap.size+1,0,none⟩))
 have hup:(Instr.mapUpdate 155 (.map (some bm)) (.string name) (.pointer (some ⟨W2.heap.size+1,0,none⟩))).run Tryz.prog (((W2.alloc (.map #[] 0)).alloc (.cells #[.int .i64 (next:Int),.int .i64 (live:Int),.map (some W2.heap.size)] 240)).drew) = .ok () W4:=hup0
 rw[zo8 HF.out] at hm4
 have HM4:=kA hm4
 have HA4:=kA ha4
 clear hm4 ha4 hs4 hup0
 obtain ⟨⟨a0,a1,a2,a3,a4⟩,az⟩:=zan (HN2.out.alloc (.map #[] 0))
 obtain ⟨⟨d0,d1,d2⟩,dz⟩:=zat (HBK2.out.blk.alloc (.map #[] 0))
 obtain ⟨⟨b0,b1,b2,b3,b4⟩,bz⟩:=zan ((HN2.out.alloc (.map #[] 0)).alloc (.cells #[.int .i64 (next:Int),.int .i64 (live:Int),.map (some W2.heap.size)] 240))
 obtain ⟨⟨e0,e1,e2⟩,ez⟩:=zat ((HBK2.out.blk.alloc (.map #[] 0)).alloc (.cells #[.int .i64 (next:Int),.int .i64 (live:Int),.map (some W2.heap.size)] 240))
 go_region
 clear b0 b1 b2 b3 b4 bz e0 e1 e2 ez a0 a1 a2 a3 a4 az d0 d1 d2 dz hup hmk n0 n1 n2 n3 n4 nz c0 c1 c2 cz
 generalize (W2.drew.alloc (.map #[] 0)).alloc (.cells #[.int .i64 (next:Int),.int .i64 (live:Int),.map (some W2.heap.size)] 240)=W3 at HM3 HS3 HB3 HBK3 HM4 HA4
 have HN3:=kA (zab HN2.out HB3.out)
 obtain ⟨B,hB⟩:∃ B,B=W2.heap.size:=⟨_,rfl⟩
 have HBZ:Hid (w.heap.size≤B∧w.heap.size<B):=kA ⟨by rw[hB];exact HB2.out.size,by rw[hB];exact HN2.out.lt⟩
 have HBB:Hid (g<B∧bm<B):=kA ⟨by rw[hB];exact HBK2.out.blk.lt,by rw[hB];exact HBK2.out.map.lt⟩
 rw[← hB] at HM3 HS3 HB3 HM4
 clear hB
 go_wp2
 go_ret
 have HS4:=kA (HS3.out.kept HA4.out (fun e=>by have:=HBB.out;omega))
 have HV4:=kA (HM3.out.alt HA4.out (fun e=>by have:=HBB.out;omega))
 have HAW:Hid (Alt w W4 (fun k=>k=bm)):=kA ⟨HA4.out.os.trans (HB3.out.os.trans HB2.out.os),HA4.out.tape.trans (HB3.out.tape.trans HB2.out.tape),HA4.out.output.trans (HB3.out.output.trans HB2.out.output),by have:=HA4.out.size;have:=HB3.out.size;have:=HB2.out.size;omega,fun k hk hp=>by
  have h1:=HB2.out.size
  have h2:=HB3.out.size
  have h3:=HBZ.out
  rw[HA4.out.block k (by omega) hp,HB3.out.block k (by omega),HB2.out.block k hk]⟩
 refine ⟨rfl,B+1,B,zxd HBK.out HF.out _ rfl (by show _≤B+1;have:=HBZ.out;omega) (by show _≤B;have:=HBZ.out;omega) HD.out HGD.out ?_ ?_ ?_ (fun r hr=>by cases hr) ⟨hn,by show live≤1000000;omega,by simp[keptLy]⟩ HAW.out,HAW.out,by have:=HBZ.out;omega,by have:=HBZ.out;omega⟩
 ·exact HS4.out
 ·exact HV4.out
 ·exact HM4.out
def keepLy (l:Ly)(vy:Nat)(ms:List Int)(x:Value):Ly:={ l with V:=l.V++[⟨vy,ms,x⟩] }
theorem zts {w:World}{g gd bm size:Nat}{D:Option Nat}{L:List Ly}(h:Bk w g gd bm D size L){name:ByteArray}{l:Ly}(hf:fnd L name=some l)(vy:Nat)(hv1:1≤vy)(hvn:vy<l.next)(hvs:∀ r∈l.V,r.v<vy)(lv:Int)(x:Value){ms:List Int}(hx:RowIs w (Mt g gd bm D L) x ms)(hlen:l.V.length≤100000) :
  Calls Tryz.prog 73 #[.pointer (some ⟨g,0,none⟩),.agg (noteV 5 name vy lv x),.string name] w fun e w'=>e = .returned (.bool true)∧Bk w' g gd bm D size (updL L name (keepLy l vy ms x))∧Alt w w' (fun k=>k=l.g∨k=l.bv):=by
 have HBK:=kA h
 have HF:=kA hf
 have HX:=kA hx
 have HVS:=kA hvs
 clear h hf hx hvs
 go_enter Tryz.func73,Tryz.ntmps73
 unfold noteV
 have hl1:¬ ((vy:Int)<1):=by omega
 have hl2:¬ ((l.next:Int)≤(vy:Int)):=by omega
 go_upto_region 1 with fail
 have HN:Hid (Blk (w.alloc (.cells #[.int .i64 5,.string name,.int .i64 (vy:Int),.int .i64 lv,x] 222)) w.heap.size 222 (noteV 5 name vy lv x)):=kA (Blk.new w 222 (noteV 5 name vy lv x))
 have HB:Hid (Below w.heap.size w (w.alloc (.cells #[.int .i64 5,.string name,.int .i64 (vy:Int),.int .i64 lv,x] 222))):=kA (Below.new1 w _)
 have HBK1:Hid (Bk (w.alloc (.cells #[.int .i64 5,.string name,.int .i64 (vy:Int),.int .i64 lv,x] 222)) g gd bm D size L):=kA (zal HBK.out HB.out)
 generalize w.alloc (.cells #[.int .i64 5,.string name,.int .i64 (vy:Int),.int .i64 lv,x] 222)=W1 at HN HB HBK1 ⊢
 obtain ⟨⟨n0,n1,n2,n3,n4⟩,nz⟩:=zan HN.out
 obtain ⟨⟨c0,c1,c2⟩,cz⟩:=zat HBK1.out.blk
 have hlk:=zhc (zca HBK1.out) HF.out
 go_upto_region 6 with fail
 go_region
 have HN2:=kA (show Blk W1.drew _ _ _ from HN.out)
 have HB2:=kA (HB.out.drew)
 have HBK2:=kA (zca HBK1.out)
 clear hlk HN HB HBK1 n0 n1 n2 n3 n4 nz c0 c1 c2 cz
 generalize W1.drew=W2 at HN2 HB2 HBK2 ⊢
 obtain ⟨⟨n0,n1,n2,n3,n4⟩,nz⟩:=zan HN2.out
 have hl:=(zax HF.out).1
 have HSH:=kA (HBK2.out.sh l hl)
 obtain ⟨⟨s0,s1,s2⟩,sz⟩:=zat HSH.out.1
 have hne1:(name.toList == name.toList)=true:=by simp
 go_upto_region 7 with fail
 go_region
 clear n0 n1 n2 n3 n4 nz s0 s1 s2 sz hne1
 have HN3:=kA (show Blk W2.drew _ _ _ from HN2.out)
 have HB3:=kA (HB2.out.drew)
 have HBK3:=kA (zca HBK2.out)
 clear HN2 HB2 HBK2 HSH
 generalize W2.drew=W3 at HN3 HB3 HBK3 ⊢
 have HSH:=kA (HBK3.out.sh l hl)
 obtain ⟨⟨n0,n1,n2,n3,n4⟩,nz⟩:=zan HN3.out
 obtain ⟨⟨s0,s1,s2⟩,sz⟩:=zat HSH.out.1
 obtain ⟨wi,hrg,hri,hbi,hsi⟩:=zgc (P:=Tryz.prog) Tryz.underlying238 HSH.out.2.1
 have hnone:fndV l vy=none:=by
  unfold fndV
  rw[List.find?_eq_none]
  intro r hr
  have:=HVS.out r hr
  simp only[decide_eq_true_eq]
  omega
 have HNV:=kA hnone
 have HPV:Hid (∀ p∈l.vm,p.1<vy):=kA (fun p hp=>by
  unfold Ly.vm at hp
  obtain ⟨r,hr,rfl⟩:=kO.1 hp
  exact HVS.out r hr)
 have HRI:=kA hri
 have HBI:=kA hbi
 clear hri hbi hsi hnone
 go_wp2
 go_loopw [9] (fun v wr=>∃ (left:List (Nat×Value)) (last:Option (Nat×Value)),RIs wr KI l.bv W3.heap.size l.vm left last∧Below W3.heap.size W3 wr) (fun _ wr=>leftN l.bv W3.heap.size wr)
 case atStart=>exact ⟨_,_,HRI.out,HBI.out⟩
 case round =>
  obtain ⟨left,last,hri,hbel⟩:=hrel
  clear n0 n1 n2 n3 n4 nz s0 s1 s2 sz hrg
  rcases zl4 (P:=Tryz.prog) 0 hri with ⟨rfl,hx⟩|⟨l1,p,l2,w3,rfl,hpm,hx,hr3,ha3,hs3⟩
  ·have HN5:=kA (zab HN3.out hbel)
   have HB5:=kA (HB3.out.trans (hbel.mono HB3.out.size))
   have HBK5:=kA (zal HBK3.out hbel)
   have HSH5:=kA (HBK5.out.sh l hl)
   obtain ⟨⟨n0,n1,n2,n3,n4⟩,nz⟩:=zan HN5.out
   obtain ⟨⟨s0,s1,s2⟩,sz⟩:=zat HSH5.out.1
   have HM5:Hid (MapIs wr.drew KI l.bv l.vm):=kA (show MapIs wr.drew KI l.bv l.vm from HSH5.out.2.1)
   obtain ⟨W4,hup0,hm4,ha4,hs4⟩:=zb9 (P:=Tryz.prog) Tryz.underlying238 Tryz.underlying3 HM5.out vy x
   have hup:(Instr.mapUpdate 238 (.map (some l.bv)) (.int .i64 (vy:Int)) x).run Tryz.prog wr.drew = .ok () W4:=hup0
   have hpv:putv l.vm vy x=(keepLy l vy ms x).vm:=zkh l vy ms x HNV.out
   rw[hpv] at hm4
   have HM4:=kA hm4
   have HA4:Hid (Alt wr W4 (fun k=>k=l.bv)):=kA (((Alt.refl wr _).drewN 1).trans ha4 (fun _ _ h=>h))
   clear hri hbel hm4 ha4 hs4 hup0 hpv
   go_wp2
   go_region
   clear hup n0 n1 n2 n3 n4 nz s0 s1 s2 sz
   go_wp2
   go_ret
   have hA5:Alt w wr (fun k=>k=l.g∨k=l.bv):=alt_of_below HB5.out
   have hA4:Alt wr W4 (fun k=>k=l.g∨k=l.bv):=HA4.out.mono (fun _ e => .inr e)
   have hXW:RowIs wr (Mt g gd bm D L) x ms:=HX.out.alt (alt_of_below (p:=fun _=>False) HB5.out) (fun _ _ h=>h.elim) (fun _ _ h=>h)
   have far:∀ k,k<wr.heap.size→(k=l.g∨k=l.bv)→Mt g gd bm D L k:=by
    rintro k _ (e|e)
    ·exact .inr (.inr (.inr (.inr (.inl (by rw[e];exact kO.2 ⟨l,hl,rfl⟩)))))
    ·exact .inr (.inr (.inr (.inr (.inr (by rw[e];exact kO.2 ⟨l,hl,rfl⟩)))))
   refine ⟨rfl,zo7 HBK5.out HF.out _ rfl rfl rfl (HSH5.out.1.kept HA4.out (fun e=>(HSH5.out.2.1.ne_blk HSH5.out.1) e.symm)) HM4.out (fun r hr=>?_) ?_ hA4,hA5.trans hA4 (fun _ _ h=>h)⟩
   ·rcases kU.1 hr with hr|hr
    ·exact (HSH5.out.2.2 r hr).alt hA4 far (fun _ _ h=>h)
    ·rw[kP] at hr
     subst hr
     exact hXW.alt hA4 far (fun _ _ h=>h)
   ·have:=HBK5.out.sm.2 l hl
    refine ⟨this.1,this.2.1,?_⟩
    show (l.V++[_]).length≤_
    rw[kI,qJ]
    omega
  ·have hb3:Below W3.heap.size W3 w3:=zh4 hbel (kJ _) ha3
   have HN5:=kA (zab HN3.out hb3)
   obtain ⟨⟨n0,n1,n2,n3,n4⟩,nz⟩:=zan HN5.out
   have hent:(Instr.entry (.pointer (some ⟨W3.heap.size,0,none⟩))).run Tryz.prog w3 = .ok (.tuple #[.int .i64 (p.1:Int),p.2]) w3:=zja hr3
   have hlt:¬ ((vy:Int)≤(p.1:Int)):=by have:=HPV.out p hpm;omega
   have HM:Hid (leftN l.bv W3.heap.size w3<leftN l.bv W3.heap.size wr):=kA (by rw[hr3.leftN_eq,hri.leftN_eq];simp)
   have HR3:=kA hr3
   have HB3':=kA hb3
   clear hri hbel hb3 hr3 ha3 hs3
   go_wp2
   go_roundw
   case rel=>exact ⟨l1++l2,_,HR3.out,HB3'.out⟩
   case measure=>exact HM.out
structure Kt where
 kind:Int
 name:ByteArray
 vy:Nat
 live:Nat
 ms:List Int
def tailK (k:Kt):List Int:=if k.kind=4 then textL (mkL k.live) else textL k.ms
def bodyK (k:Kt):List Int:=bodyL (nums k.name) k.vy (tailK k)
def recK (k:Kt):List Int:=sealL k.kind (bodyK k)
def kl (ks:List Kt):List Int:=(ks.map recK).flatten
structure KtOk (k:Kt):Prop where
 n1:k.name.size≤20
 n0:0<k.name.size
 st:strOf (nums k.name)=k.name
 ver:k.vy≤100000
 lv:k.live≤100000
 kd:k.kind=4∨k.kind=5
 is:∀ W:World,Calls Tryz.prog 82 #[.string k.name] W fun e w'=>e = .returned (.bool true)∧Below W.heap.size W w'
 md:k.kind=5→IsB k.ms∧0<k.ms.length∧k.ms.length≤12000∧ReadOk k.ms
 l0:k.kind=5→k.live=0
def kpC (C:Con)(k:Kt):Con :=
 if k.kind=4 then C++[⟨k.name,k.vy,k.live,[]⟩] else match fndC C k.name with
  |none=>C
  |some s=>updC C k.name { s with vs:=s.vs++[(k.vy,k.ms)] }
def mayK (C:Con)(last:ByteArray)(k:Kt):Prop :=
 (k.kind=4∧fndC C k.name=none∧Op.bytesLess k.name.toList last.toList=false∧(k.name.toList == last.toList)=false∧2≤k.vy∧k.live<k.vy) ∨
 (k.kind=5∧k.name=last∧∃ s,fndC C k.name=some s∧1≤k.vy∧k.vy<s.next∧s.vs.length≤1000∧∀ p∈s.vs,p.1<k.vy)
def ChK:Con→ByteArray→List Kt→Prop
 |_,_,[]=>True
 |C,last,k :: ks=>mayK C last k∧KtOk k∧ChK (kpC C k) k.name ks
theorem zy9 (k:Kt)(ks:List Kt):kl (k :: ks)=recK k++kl ks:=rfl
theorem zic (a b:List Kt):kl (a++b)=kl a++kl b:=by unfold kl;simp
theorem open_k {w:World}{b1 L c:Nat}{A:Option Addr}{k:Kt}(hk:KtOk k)(h:Own w b1 (.slice A L c) (bodyK k)) :
  Calls Tryz.prog 72 #[.int .i64 k.kind,.slice A L c] w fun e w'=>∃ X lx cx,e = .returned (.tuple #[.agg (noteV k.kind k.name k.vy (k.live:Int) (.slice X lx cx)),.bool true])∧(k.kind=5→∃ gm,X=some ⟨gm,0,none⟩∧lx=k.ms.length∧Rb w' (some ⟨gm,0,none⟩) k.ms∧RbB w' gm cx k.ms∧w.heap.size≤gm)∧Below w.heap.size w w':=by
 have hv:k.vy<2147483648:=by have:=hk.ver;omega
 have hlv:k.live<2147483648:=by have:=hk.lv;omega
 have h':=h
 unfold bodyK tailK at h'
 rcases hk.kd with e|e
 ·rw[kZ e] at h'
  refine (ztq k.name k.vy k.live hlv h' hk.n1 hk.n0 hv e hk.st hk.is).mono ?_
  rintro e w' ⟨rfl,hb⟩
  exact ⟨_,_,_,rfl,fun h1=>by omega,hb⟩
 ·rw[kT (by omega)] at h'
  obtain ⟨m1,m2,m3,m4⟩:=hk.md e
  refine (zs7 k.name k.vy h' m1 m2 m3 m4 hk.n1 hk.n0 hv e hk.st hk.is).mono ?_
  rintro e' w' ⟨gm,c',rfl,hr,hrb,hg,hb⟩
  exact ⟨_,_,_,by rw[hk.l0 e];rfl,fun _=>⟨gm,rfl,rfl,hr,hrb,hg⟩,hb⟩
theorem ztt {k:Kt}(hk:KtOk k):0<(bodyK k).length∧(bodyK k).length<16384:=by
 have h1:=zaj k.name
 have h2:=zah (nums k.name)
 have h2b:(nums k.name).length≤(textL (nums k.name)).length:=by unfold textL;simp
 have h3:=zah (mkL k.vy)
 have h4:(mkL k.vy).length=4:=by simp[mkL]
 have h5:=hk.n1
 have h6:=hk.n0
 have h7:(tailK k).length≤12010:=by
  unfold tailK
  split
  ·have h8:=zah (mkL k.live)
   have h9:(mkL k.live).length=4:=by simp[mkL]
   omega
  ·next h =>
   have:=zah k.ms
   have:=(hk.md (hk.kd.resolve_left h)).2.2.1
   omega
 unfold bodyK bodyL
 simp
 omega
theorem zvz (l:Ly)(v:Nat)(ms:List Int)(x:Value):(keepLy l v ms x).s={ l.s with vs:=l.s.vs++[(v,ms)] }:=by
 unfold keepLy Ly.s
 simp
theorem zv0 {w:World}{g gd bm size:Nat}{D:Option Nat}{L:List Ly}(h:Bk w g gd bm D size L){k:Kt}(hk:KtOk k){last:ByteArray}(hm:mayK (L.map Ly.s) last k)(x:Value)(hx:k.kind=5→RowIs w (Mt g gd bm D L) x k.ms)
  (hD:∀ k,D=some k→k<w.heap.size) (hgd:gd<w.heap.size) :
  Calls Tryz.prog 73 #[.pointer (some ⟨g,0,none⟩),.agg (noteV k.kind k.name k.vy (k.live:Int) x),.string last] w fun e w'=>e = .returned (.bool true)∧∃ L',L'.map Ly.s=kpC (L.map Ly.s) k∧Bk w' g gd bm D size L'∧Alt w w' (Mb bm L)∧Nw w.heap.size L L':=by
 have hv:=hk.ver
 rcases hm with ⟨e,hf,h1,h2,h3,h4⟩|⟨e,rfl,s,hf,h1,h2,h5,h3⟩
 ·have hf':fnd L k.name=none:=by
   rw[zcp] at hf
   simpa using hf
  rw[e]
  refine (ztr h hf' h1 h2 k.vy k.live h3 (by omega) h4 x hD hgd).mono ?_
  rintro e' w' ⟨rfl,g',bv',hb,ha,hg1,hg2⟩
  refine ⟨rfl,_,?_,hb,ha.mono (fun _ e => .inl e),fun x hx=>?_⟩
  ·unfold kpC
   rw[kZ e,kL]
   rfl
  ·rcases kU.1 hx with hx|hx
   ·exact .inl ⟨x,hx,rfl,rfl⟩
   ·rw[kP] at hx
    subst hx
    exact .inr ⟨hg1,hg2⟩
 ·rw[zcp] at hf
  cases hf':fnd L k.name with
  |none=>rw[hf'] at hf;cases hf
  |some l =>
   rw[hf'] at hf
   injection hf with hf
   subst hf
   rw[zgw] at h5
   rw[e]
   refine (zts h hf' k.vy h1 h2 (fun r hr=>h3 (r.v,r.ms) (kO.2 ⟨r,hr,rfl⟩)) (k.live:Int) x (hx e) (by omega)).mono ?_
   rintro e' w' ⟨rfl,hb,ha⟩
   refine ⟨rfl,_,?_,hb,ha.mono (zo9 (zax hf').1),fun x hx=>?_⟩
   ·unfold kpC
    rw[kT (by omega),zcp,hf',zkm,zvz]
    rfl
   ·rcases zkg hx with e1|⟨hx1,_⟩
    ·exact .inl ⟨l,(zax hf').1,by rw[e1];rfl,by rw[e1];rfl⟩
    ·exact .inl ⟨x,hx1,rfl,rfl⟩
def swS (S:St)(ys:List Int):St:={ S with xs:=ys,safe:=ys.length }
def packL (S:St)(L:List Ly):List Int:=if S.xs.length<(imageL L).length then S.xs else imageL L
theorem zv1 {w2 w3:World}{g gd bm b0 c c':Nat}{A A':Option Addr}{S:St}{f f':Int}{L:List Ly}{ys:List Int}(h2:Bw w2 g gd bm b0 A c S f L)(ha3:Alt w2 w3 (fun k=>k=gd∨(Value.slice A S.xs.length c).ownBlock=some k))
  (ho3:Own w3 b0 (.slice A' ys.length c') ys) (hb3:Blk w3 gd 154 (pc (.slice A' ys.length c') (swS S ys) f')) (hfit:ys.length≤S.room)
  (hd:(Value.slice A' ys.length c').ownBlock=(Value.slice A S.xs.length c).ownBlock∨∀ k,(Value.slice A' ys.length c').ownBlock=some k→w2.heap.size≤k) :
  Bk w3 g gd bm (Value.slice A' ys.length c').ownBlock S.xs.length L∧Bw (w3.setCell ⟨g,1,none⟩ (.int .i64 (ys.length:Int))) g gd bm b0 A' c' (swS S ys) f' L ∧
   Alt w2 (w3.setCell ⟨g,1,none⟩ (.int .i64 (ys.length:Int))) (fun k=>k=g∨k=gd∨(Value.slice A S.xs.length c).ownBlock=some k):=by
 have hbk:=zth h2.bk h2.dk h2.own rfl ha3 hd
 obtain ⟨k1,k2,k3,k4⟩:=h2.ok
 have hne2:∀ k,(Value.slice A' ys.length c').ownBlock=some k→¬ k=g:=by
  rintro k hk rfl
  exact Own.ne ho3 hbk.blk (by decide) hk
 have hgg:g≠gd:=h2.bk.blk.ne_ h2.dk (by decide)
 have ha1:∀ v,Alt w3 (w3.setCell ⟨g,1,none⟩ v) (fun k=>k=g):=fun v=>(Alt.refl w3 (fun k=>k=g)).set_ (a:=⟨g,1,none⟩) rfl v
 refine ⟨hbk,⟨znt hbk _ (by omega),hb3.far (p:=⟨g,1,none⟩) (fun e=>hgg e.symm) _,ho3.keep (ha1 _) hne2,⟨hfit,k2,kJ _,fun k hk=>?_⟩,h2.fu,h2.up,rfl,?_⟩,(ha3.mono fun k e => .inr e).trans (ha1 _) (fun _ _ e => .inl e)⟩
 ·have:=h2.fu
  rw[show (swS S ys).fuse=S.fuse from rfl,this] at hk
  cases hk
 ·have:=h2.b0l
  have h5:=ha3.size
  have h6:=(ha1 (.int .i64 (ys.length:Int))).size
  omega
theorem zkp {w:World}{B g gd bm c:Nat}{A:Option Addr}{S:St}{f:Int}{L:List Ly}(h:Bz w B g gd bm A c S f L)(ho:ImgOk L)(hs:S.xs.length≤1000000) :
  Calls Tryz.prog 39 #[.pointer (some ⟨g,0,none⟩)] w fun e w'=>e = .returned (.int .i64 0)∧∃ A' c' f',Bz w' B g gd bm A' c' (swS S (packL S L)) f' L∧BK B w w':=by
 obtain ⟨⟨c0,c1,c2⟩,cz⟩:=zat h.bw.bk.blk
 have HBZ:=kA h
 have HO:=kA ho
 clear h ho
 go_enter Tryz.func39,Tryz.ntmps39
 go_upto_region 4 with (go_at_call 89;refine (ztp HBZ.out.bw.bk HO.out).mono ?_;rintro e w2 ⟨A2,c2',rfl,ho2,hb2⟩;have HO2:=kA ho2;have HB2:=kA hb2;clear ho2 hb2)
 have HBZ2:=kA (HBZ.out.below HB2.out)
 obtain ⟨il,hil⟩:∃ il,il=(imageL L).length:=⟨_,rfl⟩
 have HIL:=kA hil
 rw[← hil] at ⊢
 obtain ⟨hl1,hl2⟩:=zh2 HBZ.out.bw.own
 have hroom:S.room≤4194304:=HBZ.out.bw.ok.2.1
 have hxr:S.xs.length≤S.room:=HBZ.out.bw.ok.1
 have hcm:=znw HBZ.out.bw.own
 obtain ⟨hi1,hi2⟩:=zh2 HO2.out
 have hcm2:=znw HO2.out
 rw[← hil] at hi2
 clear hil hl1 hi1 c0 c1 c2 cz
 obtain ⟨⟨c0,c1,c2⟩,cz⟩:=zat HBZ2.out.bw.bk.blk
 obtain ⟨⟨d0,d1,d2,d3,d4,d5⟩,dz⟩:=zdy HBZ2.out.bw.dk
 have HNIL:Hid (A=none→S.xs.length=0):=kA (fun e=>by have:=HBZ.out.bw.own;rw[e] at this;exact this.none_.1)
 have HSWAP:Hid (∀ (m:Nat) (X:Option Addr) (cx:Nat) (ys:List Int),Rb w2 X ys→(X=none→ys.length=0∧cx=0)→ys.length≤1000000→ys.length≤S.room→(∀ ad,X=some ad→¬ ad.block=gd)→Calls Tryz.prog 30 #[.pointer (some ⟨gd,0,none⟩),.slice X ys.length cx] (w2.drewN m) fun e w'=>e = .returned (.int .i64 0)∧∃ A' c' f',Bk w' g gd bm (Value.slice A' ys.length c').ownBlock S.xs.length L∧Bz (w'.setCell ⟨g,1,none⟩ (.int .i64 (ys.length:Int))) B g gd bm A' c' (swS S ys) f' L∧BK B w (w'.setCell ⟨g,1,none⟩ (.int .i64 (ys.length:Int)))):=kA (fun m X cx ys hy hX h1 h2 h3=>by
  have hbz:=HBZ2.out.below (below_drewN (Below.refl _ w2) m)
  have hbw:=hbz.bw
  have hsw:sw S ys=(0,swS S ys):=by
   rw[sw,kT (by rw[hbw.up];decide),kT (by omega)]
   have e:swS S ys=⟨ys,S.room,ys.length,none,S.dead⟩:=by unfold swS;rw[hbw.fu]
   rw[e,hbw.fu]
  have:=zsx gd A X c cx B S f ys (w2.drewN m) hbw.dk (fun k hk=>by rw[hbw.fu] at hk;cases hk) hbw.own hbw.ok (show Rb (w2.drewN m) X ys from hy) hX h1 h3 hbw.b0l
  rw[hsw] at this
  refine this.mono ?_
  rintro e w3 ⟨he,A',c',f',h4,_,h5,h6,h7⟩
  have hend:=zv1 hbw h6 h5 h4 h2 h7
  refine ⟨he,A',c',f',hend.1,⟨hend.2.1,HBZ2.out.hg,HBZ2.out.hl⟩,(BK.of (below_drewN HB2.out m) HBZ.out.bw.b0l).trans (hbz.bk_ (hend.2.2.mono ?_))⟩
  rintro k (e|e|e)
  ·exact .inl e
  ·exact .inr (.inl e)
  ·exact .inr (.inr (.inl e.symm)))
 cases A with
 |none =>
  obtain ⟨hx0,hc0⟩:=HBZ.out.bw.own.none_
  have HXN:Hid (S.xs=[]):=kA (qG hx0)
  have HX0:=kA hx0
  subst hc0
  rw[hx0] at c1 d0
  clear hx0
  by_cases hlt:0<il
  ·have HSW:=kA (show ∀ m,Calls Tryz.prog 30 #[.pointer (some ⟨gd,0,none⟩),.slice none 0 0] (w2.drewN m) fun e w'=>e = .returned (.int .i64 0)∧∃ A' c' f',Bk w' g gd bm (Value.slice A' 0 c').ownBlock S.xs.length L∧Bz (w'.setCell ⟨g,1,none⟩ (.int .i64 0)) B g gd bm A' c' (swS S []) f' L∧BK B w (w'.setCell ⟨g,1,none⟩ (.int .i64 0)) from fun m=>HSWAP.out m none 0 [] (Rb.nil _ _) (fun _=>⟨rfl,rfl⟩) (by simp) (kX _) (fun a e=>by cases e))
   have HPK:Hid (packL S L=[]):=kA (by unfold packL;rw[kZ (by rw[← HIL.out,HX0.out];exact hlt)];exact HXN.out)
   go_wp2
   go_quiet (fail)
   go_wp2_with (first
    |(go_at_call 30;refine (HSW.out _).mono ?_;rintro e w3 ⟨rfl,A',c',f',hk3,hz3,hb3⟩;have HZ3:=kA hz3;have HB3:=kA hb3;obtain ⟨⟨x0,x1,x2⟩,xz⟩:=zat hk3.blk;clear hk3 hz3 hb3))
   go_ret
   rw[HPK.out]
   exact ⟨rfl,A',c',f',HZ3.out,HB3.out⟩
  ·have HSW:=kA (show ∀ m,Calls Tryz.prog 30 #[.pointer (some ⟨gd,0,none⟩),.slice A2 il c2'] (w2.drewN m) fun e w'=>e = .returned (.int .i64 0)∧∃ A' c' f',Bk w' g gd bm (Value.slice A' (imageL L).length c').ownBlock S.xs.length L∧Bz (w'.setCell ⟨g,1,none⟩ (.int .i64 (il:Int))) B g gd bm A' c' (swS S (imageL L)) f' L∧BK B w (w'.setCell ⟨g,1,none⟩ (.int .i64 (il:Int))) from fun m=>by
         have h0:=HIL.out
         have h1:(imageL L).length≤S.xs.length:=by have:=HX0.out;omega
         have hgd:=HBZ.out.bw.dk.lt
         have:=HSWAP.out m A2 c2' (imageL L) (Rb.of_own HO2.out) (fun e=>by have:=HO2.out;rw[e] at this;exact this.none_) (by omega) (by omega) (fun a e h=>by have h3:=HO2.out;rw[e] at h3;have:=(h3.base (k:=a.block) rfl).1;omega)
         rw[← h0] at this
         rw[← h0]
         exact this)
   have HPK:Hid (packL S L=imageL L):=kA (kT (by rw[← HIL.out,HX0.out];exact hlt))
   go_wp2
   go_quiet (fail)
   go_wp2_with (first
    |(go_at_call 30;refine (HSW.out _).mono ?_;rintro e w3 ⟨rfl,A',c',f',hk3,hz3,hb3⟩;have HZ3:=kA hz3;have HB3:=kA hb3;obtain ⟨⟨x0,x1,x2⟩,xz⟩:=zat hk3.blk;clear hk3 hz3 hb3))
   go_ret
   rw[HPK.out]
   exact ⟨rfl,A',c',f',HZ3.out,HB3.out⟩
 |some ad =>
  by_cases hlt:S.xs.length<il
  ·have HSW:=kA (fun m=>HSWAP.out m (some ad) c S.xs (Rb.of_own HBZ2.out.bw.own) (fun e=>by cases e) hs hxr (fun a e h=>by subst h;exact HBZ2.out.bw.own.ne HBZ2.out.bw.dk (by decide) (by rw[e];rfl)))
   have HPK:Hid (packL S L=S.xs):=kA (kZ (by rw[← HIL.out];exact hlt))
   go_wp2
   go_quiet (fail)
   go_wp2_with (first
    |(go_at_call 30;refine (HSW.out _).mono ?_;rintro e w3 ⟨rfl,A',c',f',hk3,hz3,hb3⟩;have HZ3:=kA hz3;have HB3:=kA hb3;obtain ⟨⟨x0,x1,x2⟩,xz⟩:=zat hk3.blk;clear hk3 hz3 hb3))
   go_ret
   rw[HPK.out]
   exact ⟨rfl,A',c',f',HZ3.out,HB3.out⟩
  ·have HSW:=kA (show ∀ m,Calls Tryz.prog 30 #[.pointer (some ⟨gd,0,none⟩),.slice A2 il c2'] (w2.drewN m) fun e w'=>e = .returned (.int .i64 0)∧∃ A' c' f',Bk w' g gd bm (Value.slice A' (imageL L).length c').ownBlock S.xs.length L∧Bz (w'.setCell ⟨g,1,none⟩ (.int .i64 (il:Int))) B g gd bm A' c' (swS S (imageL L)) f' L∧BK B w (w'.setCell ⟨g,1,none⟩ (.int .i64 (il:Int))) from fun m=>by
      have h0:=HIL.out
      have h1:(imageL L).length≤S.xs.length:=by omega
      have hgd:=HBZ.out.bw.dk.lt
      have:=HSWAP.out m A2 c2' (imageL L) (Rb.of_own HO2.out) (fun e=>by have:=HO2.out;rw[e] at this;exact this.none_) (by omega) (by omega) (fun a e h=>by have h3:=HO2.out;rw[e] at h3;have:=(h3.base (k:=a.block) rfl).1;omega)
      rw[← h0] at this
      rw[← h0]
      exact this)
   have HPK:Hid (packL S L=imageL L):=kA (kT (by rw[← HIL.out];exact hlt))
   go_wp2
   go_quiet (fail)
   go_wp2_with (first
    |(go_at_call 30;refine (HSW.out _).mono ?_;rintro e w3 ⟨rfl,A',c',f',hk3,hz3,hb3⟩;have HZ3:=kA hz3;have HB3:=kA hb3;obtain ⟨⟨x0,x1,x2⟩,xz⟩:=zat hk3.blk;clear hk3 hz3 hb3))
   go_ret
   rw[HPK.out]
   exact ⟨rfl,A',c',f',HZ3.out,HB3.out⟩
end Go.Proofs.YtemgclnkgieldaaGreatDoor.Oc
