/-
  A run over a table of the library; the table out of the row's condition.
-/
import Derived.Test.YtdcjedkgpabjhaaGreatDoorE7
import Derived.Lib.LaidTab
import GoSem.ClaimJoined
namespace Go.Proofs.YtdcjedkgpabjhaaGreatDoor.CX
open Go Go.RowKit
/- A run over a table of the library. -/
def pow10 : List Value := [.int .u64 1, .int .u64 10, .int .u64 100, .int .u64 1000, .int .u64 10000, .int .u64 100000, .int .u64 1000000, .int .u64 10000000, .int .u64 100000000, .int .u64 1000000000, .int .u64 10000000000, .int .u64 100000000000, .int .u64 1000000000000, .int .u64 10000000000000, .int .u64 100000000000000, .int .u64 1000000000000000, .int .u64 10000000000000000, .int .u64 100000000000000000, .int .u64 1000000000000000000, .int .u64 10000000000000000000]
noncomputable def tabB (ty : TypeId) (cs : List Value) : Bk := { newBk ty cs with ro := true }
noncomputable def Hp.tab (ng g : Nat) (ty : TypeId) (cs : List Value) : Hp := lay ng [(g, .row (tabB ty cs))] .empty
def En.tab (ng g m : Nat) (s : Nat → Value) (one : ∀ n, (s n).oneCell' = true) : En := { f := fun i => if i < ng then some ⟨i, 0, if i = g then m else 0⟩ else none, s := s, one := one }
theorem Hp.tab_ob {ng g i : Nat} {ty : TypeId} {cs : List Value} {o : Ob} (h : (Hp.tab ng g ty cs).ob i = some o) : i = g ∧ o = .row (tabB ty cs) := by
  rcases lay_ob h with hm | ⟨hm, _⟩
  · have := List.mem_singleton.1 hm
    injection this with h1 h2
    exact ⟨h1, h2⟩
  · cases hm
theorem HR.tab {ng g : Nat} {ty : TypeId} {cs : List Value} (hg : g < ng) (hcs : allB plainCell cs = true) (s : Nat → Value) (one : ∀ n, (s n).oneCell' = true) {w : World} (hw : w.heap[g]? = some (.cells ⟨cs⟩ ty)) :
    HR (En.tab ng g cs.length s one) (Hp.tab ng g ty cs) w := by
  refine ⟨fun i hi => if_neg (by have : ng ≤ i := hi; omega), fun i o hi => ?_, fun i j o o' e e' hi hj _ _ _ => by rw [(Hp.tab_ob hi).1, (Hp.tab_ob hj).1]⟩
  obtain ⟨rfl, rfl⟩ := Hp.tab_ob hi
  refine ⟨⟨i, 0, cs.length⟩, ?_, ⟨cs⟩, (0, 0), hw, ?_, ?_, fun j v hv => ?_, fun h => (by cases h), fun h => (by cases h)⟩
  · show (if i < ng then some (⟨i, 0, if i = i then cs.length else 0⟩ : Em) else none) = _
    rw [if_pos hg, if_pos rfl]
  · show cs.length = 0 + cs.length
    omega
  · show len cs ≤ cs.length
    rw [len_eq]; exact Nat.le_refl _
  · have hv : (newBk ty cs).at j = some v := hv
    rw [newBk_at] at hv
    refine ⟨v, ?_, .plain ((allB_all _ _).1 hcs v (List.mem_of_getElem? hv))⟩
    show (⟨cs⟩ : Array Value)[0 + j]? = some v
    rw [Nat.zero_add, List.getElem?_toArray]; exact hv
noncomputable def gives1T (x : X) (fuel k g : Nat) (ty : TypeId) (cs : List Value) (v : Value) : Bool :=
  Option.rec (motive := fun _ => Bool) false (fun p => eqV p.1 v) (fcall x fuel k [] (Hp.tab x.ng.n g ty cs))
theorem gives1T_run {x : X} (hx : x.Ok) (one : ∀ n, (x.ng.s n).oneCell' = true) {fuel k g : Nat} {ty : TypeId} {cs : List Value} {v : Value} (hh : gives1T x fuel k g ty cs v = true) (hg : g < x.ng.n) (hcs : allB plainCell cs = true) (hv : plain2 v = true) (w : World)
    (hw : w.heap[g]? = some (.cells ⟨cs⟩ ty)) : Calls x.P k #[] w fun e w' => e = .returned v ∧ Below w.heap.size w w' := by
  unfold gives1T at hh
  cases hf : fcall x fuel k [] (Hp.tab x.ng.n g ty cs) with
  | none => rw [hf] at hh; cases hh
  | some p =>
    obtain ⟨u, h'⟩ := p
    rw [hf] at hh
    have := eqV_eq (a := u) (b := v) hh; subst this
    rw [fcall_eq] at hf
    refine (xcall_sound hx hf (HR.tab hg hcs x.ng.s one hw) ⟨fun i hi => ⟨if i = g then cs.length else 0, if_pos hi⟩, rfl⟩ .nil).mono ?_
    rintro e w' ⟨E', u', rfl, st, hu⟩
    rw [VR.plain2_eq hv hu]
    refine ⟨rfl, st.below (Nat.le_refl _) fun k _ => ?_⟩
    rintro ⟨i, o, e, h, hwr, _⟩
    obtain ⟨rfl, rfl⟩ := Hp.tab_ob h
    cases hwr
/- From the row's condition to the table's cells. -/
theorem tabIs_of_mem {P : Program} {W : World} {name : String} {k : IntKind} {zs : List Int} {g : Nat} {t e : TypeId} {n : Nat}
    (hg : P.globalNamed name = some g) (hty : (P.globals[g]?).map (·.type) = some t) (ht : P.underlying t = some (.array n e)) (he : P.underlying e = some (.int k)) (hce : P.cellsOf e = 1) (hct : P.cellsOf t = n) :
    ∀ (laid : List (String × DataW Unit)) (ps : List MemPlace), DataW.LaidVars P W laid ps → (name, Lib.tabData k zs) ∈ laid → Lib.TabIs P W name k zs
  | [], _, _, hm => by cases hm
  | (m, d) :: r, ps, h, hm => by
    obtain ⟨g', t', cs, fuel, p, q, hg', ht', hvar, hd, hr, _⟩ := h
    rcases List.mem_cons.1 hm with heq | hm
    · injection heq with h1 h2
      subst h1; subst h2
      obtain rfl := Option.some.inj (hg.symm.trans hg')
      obtain rfl := Option.some.inj (hty.symm.trans ht')
      unfold Lib.TabIs
      rw [hvar, ← Lib.cells_of_tab ht he hce hct hd]
    · exact tabIs_of_mem hg hty ht he hce hct r q hr hm
theorem tab_heap {P : Program} {W : World} {name : String} {k : IntKind} {zs : List Int} {g : Nat} {t : TypeId} {zero : Array Value} (hs : W.ShapedOpen P) (hgl : g < P.globals.size)
    (hz : ((begin P (fun _ _ => 0) default).world.heap[g]?).bind Obj.row? = some (zero, t)) (hg : P.globalNamed name = some g) (h : Lib.TabIs P W name k zs) : W.heap[g]? = some (.cells ⟨zs.map fun z => .int k z⟩ t) := by
  obtain ⟨cs, h1, _⟩ := hs.1 g zero t hgl hz
  unfold Lib.TabIs World.var? at h
  rw [hg] at h
  change (match W.heap[g]? with | some (.cells cs _ _) => some cs | _ => none) = _ at h
  rw [h1] at h
  injection h with h
  rw [h1, h]
end Go.Proofs.YtdcjedkgpabjhaaGreatDoor.CX
