/-
  Calls of known outcome (runs of the executor) as contracts over whatever world: what they return stands there, and goes on standing.
  And: A model of the shelf, out of four runs.
-/
import Derived.Test.YtnbopkflhjakdaaGreatDoorE7
import Derived.Test.YtnbopkflhjakdaaGreatDoorNg
namespace Go.Proofs.YtnbopkflhjakdaaGreatDoor.Md
open Go Go.RowKit Dk CX

noncomputable def roO : Ob → Ob
  | .row b => .row { b with ro := true }
  | o => o
noncomputable def roL (l : List (Nat × Ob)) : List (Nat × Ob) := l.map fun p => (p.1, roO p.2)
theorem ObR.ro {E : En} {w : World} {e : Em} {o : Ob} (h : ObR E w e o) : ObR E w e (roO o) := by
  cases o with
  | row b =>
    obtain ⟨cs, fr, h1, h2, h3, h4, _, h6⟩ := h
    exact ⟨cs, fr, h1, h2, h3, h4, (fun h => by cases h), h6⟩
  | map _ _ _ => exact h
  | iter _ _ _ _ => exact h
  | dfr => exact h
  | loop _ _ _ _ _ _ _ => exact h
/- What stands: these blocks, for reading alone. -/
structure St1 (E : En) (n : Nat) (l : List (Nat × Ob)) (w : World) (far : Nat → Prop) : Prop where
  hr : HR E (lay n l .empty) w
  ro : ∀ p ∈ l, p.2.wr = false
  no : ∀ i o e, (lay n l .empty).ob i = some o → E i = some e → ¬ far e.blk
theorem lay_mem {n i : Nat} {o : Ob} {l : List (Nat × Ob)} (h : (lay n l .empty).ob i = some o) : (i, o) ∈ l := by
  rcases lay_ob h with h | ⟨h, _⟩
  · exact h
  · cases h
theorem ObR.kept {E : En} {w w' : World} {e : Em} {o : Ob} (h : ObR E w e o) (hk : w'.heap[e.blk]? = w.heap[e.blk]?) : ObR E w' e o := h.mono (En.le_refl E) hk
theorem St1.alt {E : En} {n : Nat} {l : List (Nat × Ob)} {w w' : World} {far far' p : Nat → Prop} (h : St1 E n l w far) (ha : Alt w w' p) (hp : ∀ k, k < w.heap.size → p k → far k) (hf : ∀ k, k < w.heap.size → far' k → far k) : St1 E n l w' far' := by
  refine ⟨⟨h.hr.fresh, fun i o hi => ?_, h.hr.inj⟩, h.ro, fun i o e hi he hfar => ?_⟩
  · obtain ⟨e, he, ho⟩ := h.hr.obj i o hi
    exact ⟨e, he, ObR.kept ho (ha.block _ ho.lt (fun hpk => h.no i o e hi he (hp _ ho.lt hpk)))⟩
  · obtain ⟨e', he', ho⟩ := h.hr.obj i o hi
    rw [he] at he'
    injection he' with he'
    subst he'
    exact h.no i o e hi he (hf _ ho.lt hfar)
theorem St1.noImg {E : En} {n : Nat} {l : List (Nat × Ob)} {w : World} {far : Nat → Prop} (h : St1 E n l w far) (k : Nat) : ¬ Img E (lay n l .empty) k := by
  rintro ⟨i, o, e, hi, hw, _⟩
  have := h.ro _ (lay_mem hi)
  rw [this] at hw
  cases hw
/- A run from what stands. -/
theorem run_out {x : X} (hx : x.Ok) {fuel : Nat} {c : Kn} (hr : runH x fuel c = true) {E : En} {w : World} {far : Nat → Prop} {av' : List Value} (H : St1 E c.n0 c.pre w far) (hg : GOk x.ng E) (ha : LR E c.av av') :
    Calls x.P c.k ⟨av'⟩ w fun e w' => ∃ E' u h1, e = .returned u ∧ Below w.heap.size w w' ∧ Stp E E' (lay c.n0 c.pre .empty) h1 w w' ∧ VR E' c.v u ∧ h1.next = c.n1 ∧ (∀ p ∈ c.post, ∃ o', h1.ob p.1 = some o' ∧ subOb p.2 o' = true) ∧ (∀ p ∈ c.pre, ∃ q ∈ c.post, q.1 = p.1) := by
  unfold runH at hr
  cases hf : fcall x fuel c.k c.av (lay c.n0 c.pre .empty) with
  | none => rw [hf] at hr; cases hr
  | some p =>
    rw [hf] at hr
    obtain ⟨v1, h1⟩ := p
    change cond (tupV v1 c.v) (cond (Nat.beq h1.next c.n1) (cond (allB (inOb h1) c.post) (allB (fun q => hasN c.post q.1) c.pre) false) false) false = true at hr
    obtain ⟨g1, hr⟩ := cond_false_right hr
    obtain ⟨g2, hr⟩ := cond_false_right hr
    obtain ⟨g3, g4⟩ := cond_false_right hr
    have g1 := tupV_eq g1; subst g1
    have g2 := beq_eq g2
    have g3 := (allB_all _ _).1 g3
    have g4 := (allB_all _ _).1 g4
    rw [fcall_eq] at hf
    refine (xcall_sound hx hf H.hr hg ha).mono ?_
    rintro e w' ⟨E', u, rfl, st, hu⟩
    exact ⟨E', u, h1, rfl, st.below (Nat.le_refl _) (fun k _ => H.noImg k), st, hu, g2, fun p hp => inOb_sound (g3 p hp), fun p hp => hasN_sound (g4 p hp)⟩
/- What a run leaves stands, for reading. -/
theorem st_of {E' : En} {h1 : Hp} {w' : World} (H : HR E' h1 w') {n : Nat} (hn : h1.next ≤ n) {post : List (Nat × Ob)} (hp : ∀ p ∈ post, ∃ o', h1.ob p.1 = some o' ∧ subOb p.2 o' = true) {far : Nat → Prop} (hfar : ∀ i o e, h1.ob i = some o → E' i = some e → ¬ far e.blk) (hro : ∀ p ∈ roL post, p.2.wr = false) : St1 E' n (roL post) w' far := by
  have key : ∀ i o, (lay n (roL post) .empty).ob i = some o → ∃ q ∈ post, q.1 = i ∧ o = roO q.2 ∧ ∃ o', h1.ob i = some o' ∧ subOb q.2 o' = true := fun i o hi => by
    obtain ⟨q, hq, e⟩ := List.mem_map.1 (lay_mem hi)
    injection e with e1 e2
    obtain ⟨o', ho', hs⟩ := hp q hq
    exact ⟨q, hq, e1, e2.symm, o', by rw [← e1]; exact ho', hs⟩
  refine ⟨⟨fun i hi => H.fresh i (Nat.le_trans hn hi), fun i o hi => ?_, fun i j o o2 e e' hi hj he he' hb => ?_⟩, hro, fun i o e hi he => ?_⟩
  · obtain ⟨q, hq, _, rfl, o', ho', hs⟩ := key i o hi
    obtain ⟨e, he, hob⟩ := H.obj i o' ho'
    exact ⟨e, he, ObR.ro (subOb_rel hs hob)⟩
  · obtain ⟨_, _, _, _, o1', h1', _⟩ := key i o hi
    obtain ⟨_, _, _, _, o2', h2', _⟩ := key j o2 hj
    exact H.inj i j o1' o2' e e' h1' h2' he he' hb
  · obtain ⟨_, _, _, _, o', ho', _⟩ := key i o hi
    exact hfar i o' e ho' he
theorem st_zero {ng : Nat} {s : Nat → Value} (one : ∀ n, (s n).oneCell' = true) {n : Nat} (hn : ng ≤ n) (w : World) (far : Nat → Prop) : St1 (En.zero ng s one) n [] w far :=
  ⟨⟨fun i hi => if_neg (by have : n ≤ i := hi; omega), (fun i o h => by cases lay_mem h), (fun i j o o' e e' h => by cases lay_mem h)⟩, (fun _ h => by cases h), (fun i o e h => by cases lay_mem h)⟩
/- New blocks lie above. -/
theorem stp_new {E E' : En} {n : Nat} {l : List (Nat × Ob)} {h1 : Hp} {w w' : World} (st : Stp E E' (lay n l .empty) h1 w w') (hpre : ∀ p ∈ l, ∃ o, h1.ob p.1 = some o) {i : Nat} {o : Ob} {e : Em} (hi : h1.ob i = some o) (he : E' i = some e) (hno : ∀ p ∈ l, p.1 ≠ i) : w.heap.size ≤ e.blk := by
  refine Nat.le_of_not_lt fun hlt => st.keep0 e.blk hlt ?_ ⟨i, o, e, hi, he, rfl⟩
  rintro ⟨j, o', e', hj, hej, hb⟩
  have hm := lay_mem hj
  obtain ⟨o2, ho2⟩ := hpre _ hm
  exact hno _ hm (st.hr.inj j i o2 o e' e ho2 hi (st.le _ _ hej) he hb)
theorem St1.more {E : En} {n n' : Nat} {l : List (Nat × Ob)} {w : World} {far : Nat → Prop} (h : St1 E n l w far) (hn : n ≤ n') : St1 E n' l w far :=
  ⟨⟨fun i hi => h.hr.fresh i (Nat.le_trans hn hi), fun i o hi => h.hr.obj i o hi, fun i j o o' e e' h1 h2 => h.hr.inj i j o o' e e' h1 h2⟩, h.ro, fun i o e hi => h.no i o e hi⟩
/- A model as it stands. -/
def IsM (c : Kn) (w : World) (far : Nat → Prop) (cs : Array Value) (ng : Gb) : Prop := ∃ E, St1 E c.n1 (roL c.post) w far ∧ GOk ng E ∧ VR E c.v (.agg cs)
theorem IsM.alt {c : Kn} {w w' : World} {far far' p : Nat → Prop} {cs : Array Value} {ng : Gb} (h : IsM c w far cs ng) (ha : Alt w w' p) (hp : ∀ k, k < w.heap.size → p k → far k) (hf : ∀ k, k < w.heap.size → far' k → far k) : IsM c w' far' cs ng := by
  obtain ⟨E, h1, h2, h3⟩ := h
  exact ⟨E, h1.alt ha hp hf, h2, h3⟩
theorem IsM.below {c : Kn} {w w' : World} {far : Nat → Prop} {cs : Array Value} {ng : Gb} (h : IsM c w far cs ng) (hb : Below w.heap.size w w') : IsM c w' far cs ng := h.alt (Oc.alt_of_below (p := fun _ => False) hb) (fun _ _ h => h.elim) (fun _ _ h => h)
/- A model made. -/
theorem make_run {x : X} (hx : x.Ok) (one : ∀ n, (x.ng.s n).oneCell' = true) {fuel : Nat} {c : Kn} (hr : runH x fuel c = true) (hn : x.ng.n ≤ c.n0) (hpre : c.pre = []) (hav : allB plain c.av = true) (hv : ∃ l, c.v = .agg ⟨l⟩) (hro : ∀ p ∈ roL c.post, p.2.wr = false) (w : World) :
    Calls x.P c.k ⟨c.av⟩ w fun e w' => ∃ cs, e = .returned (.agg cs) ∧ IsM c w' (fun k => k < w.heap.size) cs x.ng ∧ Below w.heap.size w w' := by
  have H := st_zero one hn w (fun _ => False)
  rw [← hpre] at H
  refine (run_out hx hr H (GOk.zero _ _ one) (F2.refl _ fun a ha => VR.of_plain ((allB_all _ _).1 hav a ha))).mono ?_
  rintro e w' ⟨E', u, h1, rfl, hb, st, hu, hn1, hp, _⟩
  obtain ⟨l, hl⟩ := hv
  obtain ⟨cs, rfl⟩ : ∃ cs, u = .agg cs := by
    rw [hl] at hu
    cases hu with
    | plain h => cases h
    | agg h1 h2 => exact ⟨_, rfl⟩
  rw [hpre] at st
  refine ⟨cs, rfl, ⟨E', st_of st.hr (by rw [hn1]; exact Nat.le_refl _) hp (fun i o e hi he hlt => ?_) hro, (GOk.zero _ _ one).mono st.le, hu⟩, hb⟩
  have := stp_new st (fun p hp => by cases hp) hi he (fun p hp => by cases hp)
  omega
/- Check of a model that stands. -/
theorem check_run {x : X} (hx : x.Ok) {fuel : Nat} {c d : Kn} (hr : runH x fuel d = true) (hn : c.n1 ≤ d.n0) (hpre : d.pre = roL c.post) (hav : d.av = [c.v]) {r : Int} (hv : d.v = .int .i64 r) {w : World} {far : Nat → Prop} {cs : Array Value} (h : IsM c w far cs x.ng) :
    Calls x.P d.k #[.agg cs] w fun e w' => e = .returned (.int .i64 r) ∧ Below w.heap.size w w' := by
  obtain ⟨E, h1, h2, h3⟩ := h
  have h1' := h1.more hn
  rw [← hpre] at h1'
  refine (run_out hx hr h1' h2 (av' := [.agg cs]) (by rw [hav]; exact .cons h3 .nil)).mono ?_
  rintro e w' ⟨E', u, _, rfl, hb, _, hu, _⟩
  rw [hv] at hu
  cases hu with
  | plain _ => exact ⟨rfl, hb⟩
/- Lay of a model that stands. -/
theorem lay_run {x : X} (hx : x.Ok) {fuel : Nat} {c d : Kn} (hr : runH x fuel d = true) (hn : c.n1 ≤ d.n0) (hpre : d.pre = roL c.post) (hav : d.av = [c.v]) {ms : List Int} {b cc : Nat} (hv : d.v = .tuple ⟨[.slice (some ⟨b, 0, none⟩) ms.length cc, .int .i64 0]⟩)
    {t : TypeId} (hpost : (b, Ob.row (newBk t (ms.map (Value.int .u8)))) ∈ d.post) (hb : ∀ p ∈ d.pre, p.1 ≠ b) {w : World} {far : Nat → Prop} {cs : Array Value} (h : IsM c w far cs x.ng) :
    Calls x.P d.k #[.agg cs] w fun e w' => ∃ ad c', e = .returned (.tuple #[.slice (some ad) ms.length c', .int .i64 0]) ∧ Rb w' (some ad) ms ∧ w.heap.size ≤ ad.block ∧ Below w.heap.size w w' := by
  obtain ⟨E, h1, h2, h3⟩ := h
  have h1' := h1.more hn
  rw [← hpre] at h1'
  refine (run_out hx hr h1' h2 (av' := [.agg cs]) (by rw [hav]; exact .cons h3 .nil)).mono ?_
  rintro e w' ⟨E', u, hp1, rfl, hbl, st, hu, _, hp, hpn⟩
  rw [hv] at hu
  obtain ⟨l', rfl, hl⟩ := hu.tuple_inv
  obtain ⟨u0, hu0, hr0⟩ := F2.get hl (i := 0) rfl
  obtain ⟨u1, hu1, hr1⟩ := F2.get hl (i := 1) rfl
  have hlen := F2.length hl
  obtain ⟨e0, c', _, he0, rfl, _⟩ := hr0.slice_inv
  obtain rfl : u1 = .int .i64 0 := by cases hr1 with | plain _ => rfl
  obtain rfl : l' = [.slice (some ⟨e0.blk, 0 + e0.d, none⟩) ms.length c', .int .i64 0] := by
    match l', hlen, hu0, hu1 with
    | [a, b], _, h0, h1 => injection h0 with h0; injection h1 with h1; rw [h0, h1]
  obtain ⟨o', ho', hs⟩ := hp _ hpost
  have hob := subOb_rel hs (by obtain ⟨e2, he2, hob⟩ := st.hr.obj _ _ ho'; rw [he0] at he2; injection he2 with he2; rw [he2]; exact hob : ObR E' w' e0 o')
  obtain ⟨cs', fr, hh, hsz, hm, hcells, _⟩ := hob
  refine ⟨⟨e0.blk, 0 + e0.d, none⟩, c', rfl, fun hpos => ⟨_, rfl, (Array.getElem?_eq_some_iff.1 hh).1, fun j u hj => ?_⟩, ?_, hbl⟩
  · obtain ⟨v, hv1, hv2⟩ := hcells j u (by rw [newBk_at]; exact hj)
    have huv : v = u := by
      rw [List.getElem?_map] at hj
      obtain ⟨y, _, rfl⟩ := Option.map_eq_some_iff.1 hj
      cases hv2 with | plain _ => rfl
    subst huv
    have ea : (⟨e0.blk, 0 + e0.d, none⟩ : Addr).add j = ⟨e0.blk, j + e0.d, none⟩ := by
      unfold Addr.add
      split
      · next h0 => subst h0; rfl
      · simp; omega
    rw [ea]
    unfold World.cell?
    rw [hh]
    show cs'[j + e0.d]? = some v
    rw [Nat.add_comm]
    exact hv1
  · refine stp_new st (fun p hp' => ?_) ho' he0 (fun p hp' => hb p hp')
    obtain ⟨q, hq, e1⟩ := hpn p hp'
    obtain ⟨o2, ho2, _⟩ := hp q hq
    exact ⟨o2, by rw [← e1]; exact ho2⟩
/- Read of bytes that stand. -/
theorem read_run {x : X} (hx : x.Ok) (one : ∀ n, (x.ng.s n).oneCell' = true) {fuel : Nat} {d : Kn} (hr : runH x fuel d = true) {ms : List Int} {b : Nat} (hb : x.ng.n ≤ b) (hn : b < d.n0) (hav : d.av = [.slice (some ⟨b, 0, none⟩) ms.length (ms.length * 131072 + 3)]) (hpre : d.pre = [(b, roO (.row (newBk 5 (ms.map (Value.int .u8)))))])
    {l : List Value} (hv : d.v = .tuple ⟨[.agg ⟨l⟩, .int .i64 0]⟩) (hl : l.length = 59) (h1 : allB oneB l = true) (hP : x.P = Tryz.prog) (hk : d.k = 70) : Oc.ReadOk ms := by
  intro W g c hrow hpos
  obtain ⟨cur, fr, hh, hsz, hlc, htk⟩ := hrow
  have hself := En.add_self (En.zero x.ng.n x.ng.s one) b ⟨g, 0, c⟩
  have hle : (En.zero x.ng.n x.ng.s one).le ((En.zero x.ng.n x.ng.s one).add b ⟨g, 0, c⟩) := En.le_add (if_neg (by omega))
  have hob1 : ∀ i o, (lay d.n0 d.pre .empty).ob i = some o → i = b ∧ o = roO (.row (newBk 5 (ms.map (Value.int .u8)))) := fun i o hi => by
    have := lay_mem hi
    rw [hpre, List.mem_singleton] at this
    injection this with h1 h2
    exact ⟨h1, h2⟩
  have H : St1 ((En.zero x.ng.n x.ng.s one).add b ⟨g, 0, c⟩) d.n0 d.pre W (fun _ => False) := by
    refine ⟨⟨fun i hi => ?_, fun i o hi => ?_, fun i j o o' e e' hi hj _ _ _ => ?_⟩, fun p hp => ?_, fun _ _ _ _ _ h => h⟩
    · have hi' : d.n0 ≤ i := hi
      rw [En.add_ne _ _ (by omega)]
      exact if_neg (by omega)
    · obtain ⟨rfl, rfl⟩ := hob1 i o hi
      refine ⟨_, hself, cur, fr, hh, by show cur.size = 0 + c; omega, ?_, fun j v hj => ?_, (fun h => by cases h), (fun h => by cases h)⟩
      · show len (ms.map (Value.int .u8)) ≤ c
        rw [len_eq, List.length_map]; exact hlc
      · have hj' : (ms.map (Value.int .u8))[j]? = some v := by
          have := newBk_at 5 (ms.map (Value.int .u8)) j
          rw [← this]; exact hj
        have h3 := hj'
        rw [← htk, List.getElem?_take] at h3
        split at h3
        · refine ⟨v, by simpa using h3, ?_⟩
          rw [List.getElem?_map] at hj'
          obtain ⟨y, _, rfl⟩ := Option.map_eq_some_iff.1 hj'
          exact .plain rfl
        · cases h3
    · rw [(hob1 i o hi).1, (hob1 j o' hj).1]
    · rw [hpre, List.mem_singleton] at hp
      subst hp; rfl
  have hG : GOk x.ng ((En.zero x.ng.n x.ng.s one).add b ⟨g, 0, c⟩) := (GOk.zero _ _ one).mono hle
  have := run_out hx hr H hG (av' := [.slice (some ⟨g, 0, none⟩) ms.length c]) (by
    rw [hav]
    refine .cons ?_ .nil
    have := VR.slice (E := (En.zero x.ng.n x.ng.s one).add b ⟨g, 0, c⟩) (b := b) (o := 0) (n := ms.length) (c := ms.length * 131072 + 3) (c' := c) hself (Or.inr ⟨by omega, by omega, by have h1 : (ms.length * 131072 + 3) / 2 % 65536 = 1 := (by omega); rw [h1]; show 0 + c * 1 = c; omega, by omega⟩)
    simpa using this)
  rw [hP, hk] at this
  refine this.mono ?_
  rintro e w' ⟨E', u, hp1, rfl, hbl, st, hu, _, hp, hpn⟩
  rw [hv] at hu
  obtain ⟨l', rfl, hl'⟩ := hu.tuple_inv
  obtain ⟨u0, hu0, hr0⟩ := F2.get hl' (i := 0) rfl
  obtain ⟨u1, hu1, hr1⟩ := F2.get hl' (i := 1) rfl
  have hlen := F2.length hl'
  obtain ⟨la, rfl, hla⟩ := hr0.agg_inv
  obtain rfl : u1 = .int .i64 0 := by cases hr1 with | plain _ => rfl
  obtain rfl : l' = [.agg ⟨la⟩, .int .i64 0] := by
    match l', hlen, hu0, hu1 with
    | [a, b], _, h0, h1 => injection h0 with h0; injection h1 with h1; rw [h0, h1]
  refine ⟨⟨la⟩, rfl, ?_, ?_, hbl⟩
  · show la.length = 59
    rw [← F2.length hla]; exact hl
  · rw [← Array.all_toList]
    exact List.all_eq_true.2 (ones_of_rel hla h1)
end Go.Proofs.YtnbopkflhjakdaaGreatDoor.Md
namespace Go.Proofs.YtnbopkflhjakdaaGreatDoor.Md
open Go Go.RowKit Dk CX

theorem rows_of {l : List (Nat × Ob)} (h : allB (fun p => !p.2.wr) (roL l) = true) : ∀ p ∈ roL l, p.2.wr = false := fun p hp => by
  have := (allB_all _ _).1 h p hp
  simpa using this
noncomputable def noName (l : List (Nat × Ob)) (b : Nat) : Bool := allB (fun p => !(Nat.beq p.1 b)) l
theorem names_of {l : List (Nat × Ob)} {b : Nat} (h : noName l b = true) : ∀ p ∈ l, p.1 ≠ b := fun p hp e => by
  have := (allB_all _ _).1 h p hp
  rw [e] at this
  simp at this
theorem isB_of {ms : List Int} (h : ms.all (fun y => decide (0 ≤ y) && decide (y < 256)) = true) : Oc.IsB ms := fun y hy => by
  have := List.all_eq_true.1 h y hy
  simpa using this
theorem mdl_of {xc x0 : X} {fc f1 f2 f3 : Nat} {n : Int} {ms : List Int} {c d l r : Kn} {b cc b2 : Nat} {lr : List Value} (hxc : xc.Ok) (hx0 : x0.Ok) (one : ∀ n, (noSym n).oneCell' = true) (hP : xc.P = Tryz.prog) (hP0 : x0.P = Tryz.prog) (hng : xc.ng = x0.ng)
    (rc : runH xc fc c = true) (rd : runH x0 f1 d = true) (rl : runH x0 f2 l = true) (rr : runH x0 f3 r = true)
    (hk : c.k = 12) (hav : c.av = [.int .i64 n]) (hpre : c.pre = []) (hn0 : xc.ng.n ≤ c.n0) (hv : ∃ vl, c.v = .agg ⟨vl⟩ ∧ vl.length = 59) (hro : ∀ p ∈ roL c.post, p.2.wr = false)
    (dk : d.k = 19) (dn : c.n1 = d.n0) (dpre : d.pre = roL c.post) (dav : d.av = [c.v]) (dv : d.v = .int .i64 0)
    (lk : l.k = 21) (ln : c.n1 = l.n0) (lpre : l.pre = roL c.post) (lav : l.av = [c.v]) (lv : l.v = .tuple ⟨[.slice (some ⟨b, 0, none⟩) ms.length cc, .int .i64 0]⟩) (lpost : (b, Ob.row (newBk 5 (ms.map (Value.int .u8)))) ∈ l.post) (lb : ∀ p ∈ l.pre, p.1 ≠ b)
    (rb : x0.ng.n ≤ b2) (rn : b2 < r.n0) (rav : r.av = [.slice (some ⟨b2, 0, none⟩) ms.length (ms.length * 131072 + 3)]) (rpre : r.pre = [(b2, roO (.row (newBk 5 (ms.map (Value.int .u8)))))]) (rv : r.v = .tuple ⟨[.agg ⟨lr⟩, .int .i64 0]⟩) (rlen : lr.length = 59) (rone : allB oneB lr = true) (rk : r.k = 70)
    (hs : x0.ng.s = noSym) (m1 : Oc.IsB ms) (m2 : 0 < ms.length) (m3 : ms.length ≤ 12000) : Oc.Mdl n ms := by
  have one0 : ∀ n, (x0.ng.s n).oneCell' = true := fun n => by rw [hs]; exact one n
  have onec : ∀ n, (xc.ng.s n).oneCell' = true := fun n => by rw [hng, hs]; exact one n
  refine ⟨m1, m2, m3, read_run hx0 one0 rr rb rn rav rpre rv rlen rone hP0 rk, fun W => ?_⟩
  obtain ⟨vl, hv1, hv2⟩ := hv
  have hm := make_run hxc onec rc hn0 hpre (by rw [hav]; rfl) ⟨vl, hv1⟩ hro W
  rw [hP, hk, hav] at hm
  refine hm.mono ?_
  rintro e w' ⟨cs, rfl, hm, hb⟩
  rw [hng] at hm
  refine ⟨cs, rfl, ⟨?_, fun w2 hb2 => ?_, fun w2 hb2 => ?_⟩, hb⟩
  · obtain ⟨E, _, _, h3⟩ := hm
    rw [hv1] at h3
    obtain ⟨la, e, hla⟩ := h3.agg_inv
    injection e with e
    subst e
    show la.length = 59
    rw [← F2.length hla]; exact hv2
  · have := check_run hx0 rd (Nat.le_of_eq dn) dpre dav dv (hm.below hb2)
    rw [hP0, dk] at this
    exact this
  · have := lay_run hx0 rl (Nat.le_of_eq ln) lpre lav lv lpost lb (hm.below hb2)
    rw [hP0, lk] at this
    exact this
end Go.Proofs.YtnbopkflhjakdaaGreatDoor.Md
