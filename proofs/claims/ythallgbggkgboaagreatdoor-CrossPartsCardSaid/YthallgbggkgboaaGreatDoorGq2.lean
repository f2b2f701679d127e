/-
  Small fractions in memory: what Over, Of, In, Cmp and Sign tell, of any world.
-/
import Derived.Test.YthallgbggkgboaaGreatDoorGq1
import Derived.Test.YthallgbggkgboaaGreatDoorUt
namespace Go.Proofs.YthallgbggkgboaaGreatDoor.Gp
open Go Go.RowKit CX Ut

theorem flat_true {a b : Bool} (h : (a && b) = true) : a = true ∧ b = true := by
  cases a <;> cases b <;> simp_all
theorem or_true {a b : Bool} (h : (a || b) = true) : a = true ∨ b = true := by
  cases a <;> cases b <;> simp_all
/- A row of at most one digit: a block of its own. -/
def DigAt (w : World) (g : Nat) (v : Value) (n c a : Nat) : Prop := ∃ d m cs fr, v = .slice (some ⟨g, d, none⟩) n c ∧ w.heap[g]? = some (.cells cs 195 fr) ∧ cs.size = d + m ∧ n ≤ m ∧ n ≤ 1 ∧ (n = 1 → cs[d]? = some (.int .u32 a))
/- A fraction of the document. -/
def FracAt (w : World) (t : Pt) (v : Value) : Prop := ∃ (sA sD : Value) (g g' : Nat), v = .agg ⟨[.bool t.neg, sA, sD]⟩ ∧ (if t.cA = 0 then t.nA = 0 ∧ sA = .slice none 0 0 else g ≠ g' ∧ DigAt w g sA t.nA t.cA t.a) ∧ (t.cD ≠ 0 ∧ DigAt w g' sD 1 t.cD t.b)
/- Rows of digits stay. -/
def Digs (w w' : World) : Prop := ∀ (g : Nat) cs fr, w.heap[g]? = some (.cells cs 195 fr) → w'.heap[g]? = w.heap[g]?
theorem Digs.refl (w : World) : Digs w w := fun _ _ _ _ => rfl
theorem Digs.trans {w w' w'' : World} (h : Digs w w') (h' : Digs w' w'') : Digs w w'' := fun g cs fr hg => (h' g cs fr ((h g cs fr hg).trans hg)).trans (h g cs fr hg)
theorem Digs.of_below {w w' : World} (h : Below w.heap.size w w') : Digs w w' := fun g _ _ hg => h.block g (lt_of_block hg)
theorem Digs.alloc (w : World) (o : Obj) : Digs w (w.alloc o) := Digs.of_below ((Below.refl _ _).alloc (Nat.le_refl _) _)
theorem Digs.drew (w : World) : Digs w w.drew := fun _ _ _ _ => rfl
theorem Digs.setCell {w : World} {g i : Nat} {t : TypeId} {cs : Array Value} {fr : Nat × Nat} (h : w.heap[g]? = some (.cells cs t fr)) (ht : t ≠ 195) (u : Value) : Digs w (w.setCell ⟨g, i, none⟩ u) := fun g' cs' fr' hg => by
  refine Below.heap_setCell w _ u g' (fun e => ht ?_)
  subst e
  rw [h] at hg
  injection hg with hg
  injection hg with _ e _
theorem Digs.grown {w w' : World} {row : Option Nat} (hg : w.grownBy w' row) (hr : ∀ g, row = some g → g < w.heap.size → ∃ cs fr t, t ≠ 195 ∧ w.heap[g]? = some (.cells cs t fr)) : Digs w w' := fun g cs fr h => by
  refine hg.block g (lt_of_block h) fun e => ?_
  obtain ⟨cs', fr', t, ht, hc⟩ := hr g e.symm (lt_of_block h)
  rw [h] at hc
  injection hc with hc
  injection hc with _ e' _
  exact ht e'.symm
theorem DigAt.keep {w w' : World} {g : Nat} {v : Value} {n c a : Nat} (h : DigAt w g v n c a) (hd : Digs w w') : DigAt w' g v n c a := by
  obtain ⟨d, m, cs, fr, h1, h2, h3⟩ := h
  exact ⟨d, m, cs, fr, h1, (hd _ _ _ h2).trans h2, h3⟩
theorem FracAt.keep {w w' : World} {t : Pt} {v : Value} (h : FracAt w t v) (hd : Digs w w') : FracAt w' t v := by
  obtain ⟨sA, sD, g, g', h1, h2, h3, h4⟩ := h
  refine ⟨sA, sD, g, g', h1, ?_, h3, h4.keep hd⟩
  split
  · next h0 => rw [if_pos h0] at h2; exact h2
  · next h0 => rw [if_neg h0] at h2; exact ⟨h2.1, h2.2.keep hd⟩

def s0 : Nat → Value := fun _ => .bool false
theorem s0_one (n : Nat) : (s0 n).oneCell' = true := rfl
/- What a check of a row says of a world. -/
theorem dig_of {E : En} {h : Hp} {w : World} (H : HR E h w) {v u : Value} {n c a : Nat} (hn : n ≤ 1) (hb : digB h v n c a = true) (hv : VR E v u) : (c = 0 ∧ u = .slice none 0 0) ∨ (c ≠ 0 ∧ ∃ i e, blockOf v = i + 1 ∧ E i = some e ∧ (∃ o, h.ob i = some o) ∧ DigAt w e.blk u n c a) := by
  unfold digB at hb
  split at hb
  · obtain ⟨hb, h3⟩ := flat_true hb
    obtain ⟨h1, h2⟩ := flat_true hb
    have h1 := beq_eq h1
    have h2 := beq_eq h2
    have h3 := beq_eq h3
    subst h2; subst h3
    refine .inl ⟨h1, ?_⟩
    cases hv with
    | plain _ => rfl
  · rename_i i o n' c'
    obtain ⟨hb, h5⟩ := flat_true hb
    obtain ⟨hb, h4⟩ := flat_true hb
    obtain ⟨hb, h3⟩ := flat_true hb
    obtain ⟨h1, h2⟩ := flat_true hb
    have h1 := Nat.le_of_ble_eq_true h1
    have h2 := beq_eq h2
    have h3 := beq_eq h3
    have h4 := beq_eq h4
    subst h2; subst h3; subst h4
    refine .inr ⟨by omega, ?_⟩
    cases hv with
    | plain hp => cases hp
    | slice he hc =>
      rename_i c'' e
      unfold rowIs at h5
      split at h5
      · rename_i B hB
        obtain ⟨e', he', cs, fr, q1, q2, q3, q4, q5⟩ := H.obj _ _ hB
        rw [he] at he'
        injection he' with he'
        subst he'
        obtain ⟨h5, h6⟩ := flat_true h5
        have h5 := beq_eq h5
        have hc' : c'' = c := by
          rcases hc with ⟨_, hc⟩ | ⟨hc, _⟩
          · omega
          · omega
        subst hc'
        have h7 : n' = 1 → ∃ x, B.at 0 = some x ∧ eqV x (.int .u32 a) = true := fun h1 => by
          subst h1
          rcases or_true h6 with h6 | h6
          · cases h6
          · obtain ⟨_, h6⟩ := flat_true h6
            split at h6
            · rename_i x hx; exact ⟨x, hx, h6⟩
            · cases h6
        refine ⟨i, e, rfl, he, ⟨_, hB⟩, 0 + e.d, e.m, cs, fr, rfl, by rw [← h5]; exact q1, by omega, ?_, hn, fun h1 => ?_⟩
        · rcases (show n' = 0 ∨ n' = 1 by omega) with rfl | rfl
          · exact Nat.zero_le _
          · obtain ⟨x, hx, _⟩ := h7 rfl
            rw [Bk.at_eq] at hx
            split at hx
            · omega
            · cases hx
        · obtain ⟨x, hx, h8⟩ := h7 h1
          have := eqV_eq h8
          subst this
          obtain ⟨u, hu, hr⟩ := q4 _ _ hx
          rw [Nat.zero_add]
          rw [Nat.add_zero] at hu
          rw [hu, VR.plain_eq rfl hr]
      · cases h5
  · cases hb
theorem frac_of {E : En} {h : Hp} {w : World} (H : HR E h w) {v u : Value} {t : Pt} (hn : t.nA ≤ 1) (hz : t.cA = 0 → t.nA = 0) (hD : t.cD ≠ 0) (hb : fracIs (v, h) t = true) (hv : VR E v u) : FracAt w t u := by
  unfold fracIs at hb
  split at hb
  · rename_i n sA sD h' heq
    injection heq with e1 e2
    subst e1; subst e2
    obtain ⟨hb, h4⟩ := flat_true hb
    obtain ⟨hb, h3⟩ := flat_true hb
    obtain ⟨h1, h2⟩ := flat_true hb
    have h1 : n = t.neg := by simpa using h1
    obtain ⟨l', rfl, hl⟩ := hv.agg_inv
    cases hl with
    | cons r1 hl =>
    rename_i u1 l1
    cases hl with
    | cons r2 hl =>
    rename_i u2 l2
    cases hl with
    | cons r3 hl =>
    rename_i u3 l3
    cases hl
    have r1 := VR.plain_eq rfl r1
    rcases dig_of H (Nat.le_refl 1) h3 r3 with ⟨h0, _⟩ | ⟨_, j, e', hj, hej, ⟨o', ho'⟩, hdj⟩
    · exact absurd h0 hD
    · rcases dig_of H hn h2 r2 with ⟨h0, rfl⟩ | ⟨h0, i, e, hi, hei, ⟨o, ho⟩, hdi⟩
      · exact ⟨.slice none 0 0, u3, 0, e'.blk, by rw [r1, h1], by rw [if_pos h0]; exact ⟨hz h0, rfl⟩, hD, hdj⟩
      · have hne : e.blk ≠ e'.blk := fun hee => by
          have := H.inj _ _ _ _ _ _ ho ho' hei hej hee
          subst this
          rw [hi, hj] at h4
          simp at h4
        exact ⟨u2, u3, e.blk, e'.blk, by rw [r1, h1], by rw [if_neg h0]; exact ⟨hne, hdi⟩, hD, hdj⟩
  · cases hb
theorem pat_ok (n : Int) (d : Nat) : (pat n d).nA ≤ 1 ∧ ((pat n d).cA = 0 → (pat n d).nA = 0) ∧ (pat n d).cD ≠ 0 := by
  unfold pat
  split
  · exact ⟨Nat.zero_le _, fun _ => rfl, by decide⟩
  · exact ⟨Nat.le_refl _, fun h => (by cases h), fun h => (by cases h)⟩
noncomputable def runs (P : Value × Hp → Bool) (k : Nat) (av : List Value) : Bool := Option.rec (motive := fun _ => Bool) false P (fcall (xo s0) 100000 k av (Hp.zero NG))
theorem run0 {k : Nat} {av : List Value} {P : Value × Hp → Bool} (hg : runs P k av = true) (hp : allB CX.plain av = true) (w : World) :
    Calls Tryz.prog k ⟨av⟩ w fun e w' => ∃ (E : En) (h : Hp) (v u : Value), e = .returned u ∧ P (v, h) = true ∧ HR E h w' ∧ VR E v u ∧ Below w.heap.size w w' := by
  unfold runs at hg
  cases hf : fcall (xo s0) 100000 k av (Hp.zero NG) with
  | none => rw [hf] at hg; cases hg
  | some p =>
    obtain ⟨v, h'⟩ := p
    rw [hf] at hg
    rw [fcall_eq] at hf
    refine (xcall_sound (xo_ok s0) hf (HR.zero NG s0 s0_one w) (GOk.zero NG s0 s0_one) (F2.refl _ fun a ha => VR.of_plain ((allB_all _ _).1 hp a ha))).mono ?_
    rintro e w' ⟨E', u, rfl, st, hu⟩
    exact ⟨E', h', v, u, rfl, hg, st.hr, hu, st.below (Nat.le_refl _) fun k _ => by rintro ⟨i, o, e, h, _⟩; rw [Hp.zero_ob] at h; cases h⟩
theorem over_any {n : Int} {d : Nat} (w : World) (h1 : -20 ≤ n) (h2 : n ≤ 20) (h3 : 1 ≤ d) (h4 : d ≤ 4) : Calls Tryz.prog 48 #[.int .i64 n, .int .i64 d] w fun e w' => ∃ u, e = .returned u ∧ FracAt w' (pat n d) u ∧ Below w.heap.size w w' := by
  have hb : runs (fun p => fracIs p (pat n d)) 48 [Value.int .i64 n, .int .i64 d] = true := by
    show overB s0 d n = true
    rcases (show d = 1 ∨ d = 2 ∨ d = 3 ∨ d = 4 by omega) with rfl | rfl | rfl | rfl
    · exact List.all_eq_true.1 (over1 s0) n (nums_mem h1 h2)
    · exact List.all_eq_true.1 (over2 s0) n (nums_mem h1 h2)
    · exact List.all_eq_true.1 (over3 s0) n (nums_mem h1 h2)
    · exact List.all_eq_true.1 (over4 s0) n (nums_mem h1 h2)
  have hp : allB CX.plain [Value.int .i64 n, .int .i64 d] = true := rfl
  refine (run0 hb hp w).mono ?_
  rintro e w' ⟨E, h, v, u, rfl, hf, H, hv, hbel⟩
  exact ⟨u, rfl, frac_of H (pat_ok n d).1 (pat_ok n d).2.1 (pat_ok n d).2.2 hf hv, hbel⟩
theorem of_any (w : World) : Calls Tryz.prog 27 #[.int .i64 0] w fun e w' => ∃ u, e = .returned u ∧ FracAt w' patZ u ∧ Below w.heap.size w w' := by
  have hb : runs (fun p => fracIs p patZ) 27 [Value.int .i64 0] = true := of1 s0
  have hp : allB CX.plain [Value.int .i64 0] = true := rfl
  refine (run0 hb hp w).mono ?_
  rintro e w' ⟨E, h, v, u, rfl, hf, H, hv, hbel⟩
  exact ⟨u, rfl, frac_of H (by decide) (by decide) (by decide) hf hv, hbel⟩
theorem rowB_at (n a : Nat) (hn : n ≤ 1) (j : Nat) (u : Value) (h : (newBk 195 (cond (Nat.beq n 0) [] [.int .u32 a])).at j = some u) : n = 1 ∧ j = 0 ∧ u = .int .u32 a := by
  rw [newBk_at] at h
  rcases (show n = 0 ∨ n = 1 by omega) with rfl | rfl
  · cases h
  · cases j with
    | zero => injection h with h; exact ⟨rfl, rfl, h.symm⟩
    | succ j => cases h
theorem row_obr {w : World} {g n a : Nat} {v : Value} {c : Nat} (h : DigAt w g v n c a) : ∃ d m, v = .slice (some ⟨g, d, none⟩) n c ∧ n ≤ m ∧ ∀ E : En, ObR E w ⟨g, d, m⟩ (rowB n a) := by
  obtain ⟨d, m, cs, fr, h1, h2, h3, h4, h5, h6⟩ := h
  refine ⟨d, m, h1, h4, fun E => ⟨cs, fr, h2, h3, ?_, fun j u hu => ?_, fun h => (by cases h), fun h => (by cases h)⟩⟩
  · show len _ ≤ m
    rw [len_eq]
    rcases (show n = 0 ∨ n = 1 by omega) with rfl | rfl
    · exact Nat.zero_le _
    · exact h4
  · obtain ⟨e1, e2, e3⟩ := rowB_at n a h5 j u hu
    subst e2; subst e3
    exact ⟨_, h6 e1, .plain rfl⟩
def EF (e0 e1 : Option Em) : En := { f := fun i => if i < NG then some ⟨i, 0, 0⟩ else if i = NG then e0 else if i = NG + 1 then e1 else none, s := s0, one := s0_one }
theorem frac_hr {w : World} {t : Pt} {v : Value} (h : FracAt w t v) : ∃ E : En, HR E (fracH t) w ∧ GOk ⟨NG, s0⟩ E ∧ VR E (fracV t) v := by
  obtain ⟨sA, sD, g, g', rfl, h1, hD, h2⟩ := h
  obtain ⟨d', m', rfl, _, ho'⟩ := row_obr h2
  have hDB : Nat.beq t.cD 0 = false := by
    cases hb : Nat.beq t.cD 0 with
    | false => rfl
    | true => exact absurd (beq_eq hb) hD
  have vD : ∀ E : En, E (NG + 1) = some ⟨g', d', m'⟩ → VR E (digV (NG + 1) 1 t.cD) (.slice (some ⟨g', d', none⟩) 1 t.cD) := fun E hE => by
    unfold digV
    rw [hDB]
    have := VR.slice (E := E) (b := NG + 1) (o := 0) (n := 1) (c := 2 * t.cD) (c' := t.cD) hE (.inl ⟨by omega, by omega⟩)
    rw [Nat.zero_add] at this
    exact this
  by_cases h0 : t.cA = 0
  · rw [if_pos h0] at h1
    obtain ⟨_, rfl⟩ := h1
    have hb : Nat.beq t.cA 0 = true := by rw [h0]; rfl
    have hob : ∀ {i : Nat} {o : Ob}, (fracH t).ob i = some o → i = NG + 1 ∧ o = rowB 1 t.b := fun {i o} h => by
      unfold fracH at h
      rw [hb] at h
      rcases lay_ob h with hm | ⟨hm, _⟩
      · have := List.mem_singleton.1 hm
        injection this with h1 h2
        exact ⟨h1, h2⟩
      · cases hm
    refine ⟨EF none (some ⟨g', d', m'⟩), ⟨fun i hi => ?_, fun i o hi => ?_, fun i j o o' e e' hi hj _ _ _ => by rw [(hob hi).1, (hob hj).1]⟩, ⟨fun i hi => ⟨0, if_pos hi⟩, rfl⟩, ?_⟩
    · have : NG + 2 ≤ i := hi
      show (if i < NG then _ else if i = NG then _ else if i = NG + 1 then _ else none) = none
      rw [if_neg (by omega), if_neg (by omega), if_neg (by omega)]
    · obtain ⟨rfl, rfl⟩ := hob hi
      exact ⟨_, rfl, ho' _⟩
    · refine VR.agg' (.cons (.plain rfl) (.cons ?_ (.cons (vD _ rfl) .nil)))
      unfold digV
      rw [hb]
      exact .plain rfl
  · rw [if_neg h0] at h1
    obtain ⟨hne, h1⟩ := h1
    obtain ⟨d, m, rfl, _, ho⟩ := row_obr h1
    have hb : Nat.beq t.cA 0 = false := by
      cases hb : Nat.beq t.cA 0 with
      | false => rfl
      | true => exact absurd (beq_eq hb) h0
    have hob : ∀ {i : Nat} {o : Ob}, (fracH t).ob i = some o → (i = NG ∧ o = rowB t.nA t.a) ∨ (i = NG + 1 ∧ o = rowB 1 t.b) := fun {i o} h => by
      unfold fracH at h
      rw [hb] at h
      rcases lay_ob h with hm | ⟨hm, _⟩
      · simp only [cond_false, List.mem_cons, List.not_mem_nil, or_false] at hm
        rcases hm with hm | hm
        · injection hm with h1 h2
          exact .inl ⟨h1, h2⟩
        · injection hm with h1 h2
          exact .inr ⟨h1, h2⟩
      · cases hm
    refine ⟨EF (some ⟨g, d, m⟩) (some ⟨g', d', m'⟩), ⟨fun i hi => ?_, fun i o hi => ?_, fun i j o o' e e' hi hj he he' hee => ?_⟩, ⟨fun i hi => ⟨0, if_pos hi⟩, rfl⟩, ?_⟩
    · have : NG + 2 ≤ i := hi
      show (if i < NG then _ else if i = NG then _ else if i = NG + 1 then _ else none) = none
      rw [if_neg (by omega), if_neg (by omega), if_neg (by omega)]
    · rcases hob hi with ⟨rfl, rfl⟩ | ⟨rfl, rfl⟩
      · exact ⟨_, rfl, ho _⟩
      · exact ⟨_, rfl, ho' _⟩
    · rcases hob hi with ⟨rfl, rfl⟩ | ⟨rfl, rfl⟩ <;> rcases hob hj with ⟨rfl, rfl⟩ | ⟨rfl, rfl⟩
      · rfl
      · injection he with he
        injection he' with he'
        subst he; subst he'
        exact absurd hee hne
      · injection he with he
        injection he' with he'
        subst he; subst he'
        exact absurd hee.symm hne
      · rfl
    · refine VR.agg' (.cons (.plain rfl) (.cons ?_ (.cons (vD _ rfl) .nil)))
      unfold digV
      rw [hb]
      have := VR.slice (E := EF (some ⟨g, d, m⟩) (some ⟨g', d', m'⟩)) (b := NG) (o := 0) (n := t.nA) (c := 2 * t.cA) (c' := t.cA) rfl (.inl ⟨by omega, by omega⟩)
      rw [Nat.zero_add] at this
      exact this
theorem rowB_wr (n a : Nat) : (rowB n a).wr = false := rfl
theorem frac_img {t : Pt} {E : En} (k : Nat) : ¬ Img E (fracH t) k := by
  rintro ⟨i, o, e, h, hwr, _⟩
  unfold fracH at h
  rcases lay_ob h with hm | ⟨hm, _⟩
  · have : o = rowB 1 t.b ∨ o = rowB t.nA t.a := by
      cases hb : Nat.beq t.cA 0 with
      | true =>
        rw [hb] at hm
        have := List.mem_singleton.1 hm
        injection this with h1 h2
        exact .inl h2
      | false =>
        rw [hb] at hm
        simp only [cond_false, List.mem_cons, List.not_mem_nil, or_false] at hm
        rcases hm with hm | hm
        · injection hm with h1 h2
          exact .inr h2
        · injection hm with h1 h2
          exact .inl h2
    rcases this with rfl | rfl <;> cases hwr
  · cases hm
/- A fraction of the program that is its own like. -/
def QOk (f : Value) : Prop := isQ f = true ∧ CX.plain2 f = true ∧ cmpB s0 f = true
theorem qz_ok : QOk qzV := ⟨rfl, rfl, cmp0 s0⟩
theorem in_all {t : Pt} (h : isPat t = true) : inB s0 t = true := by
  have go : ∀ {l : List Pt}, l.all (inB s0) = true → l.any (eqP t) = true → inB s0 t = true := fun {l} h1 h2 => by
    obtain ⟨u, hu, he⟩ := List.any_eq_true.1 h2
    rw [eqP_eq he]
    exact List.all_eq_true.1 h1 u hu
  rcases or_true h with h | h <;> rcases or_true h with h | h
  · exact go (ins0 s0) h
  · exact go (ins1 s0) h
  · exact go (ins2 s0) h
  · exact go (ins3 s0) h
theorem in_any {t : Pt} {v : Value} (w : World) (h : FracAt w t v) (ht : isPat t = true) : Calls Tryz.prog 26 #[v] w fun e w' => ∃ f, e = .returned f ∧ QOk f ∧ Below w.heap.size w w' := by
  obtain ⟨E, H, hg, hv⟩ := frac_hr h
  have hb := in_all ht
  unfold inB at hb
  cases hf : fcall (xo s0) 100000 26 [fracV t] (fracH t) with
  | none => rw [hf] at hb; cases hb
  | some p =>
    obtain ⟨u, h'⟩ := p
    rw [hf] at hb
    obtain ⟨h1, h2⟩ := flat_true hb
    obtain ⟨h2, h3⟩ := flat_true h2
    rw [fcall_eq] at hf
    refine (xcall_sound (xo_ok s0) hf H hg (.cons hv .nil)).mono ?_
    rintro e w' ⟨E', u', rfl, st, hu⟩
    rw [VR.plain2_eq h2 hu]
    exact ⟨_, rfl, ⟨h1, h2, h3⟩, st.below (Nat.le_refl _) fun k _ => frac_img k⟩
theorem gets_run {k : Nat} {av : List Value} {h : Hp} {v : Value} (hg : gets (xo s0) k av h v = true) (hv : plain2 v = true) {E : En} {w : World} {av' : List Value} (H : HR E h w) (hk : GOk ⟨NG, s0⟩ E) (ha : LR E av av') (hi : ∀ k, ¬ Img E h k) :
    Calls Tryz.prog k ⟨av'⟩ w fun e w' => e = .returned v ∧ Below w.heap.size w w' := by
  unfold gets at hg
  cases hf : fcall (xo s0) 100000 k av h with
  | none => rw [hf] at hg; cases hg
  | some p =>
    obtain ⟨u, h'⟩ := p
    rw [hf] at hg
    have := tupV_eq hg; subst this
    rw [fcall_eq] at hf
    refine (xcall_sound (xo_ok s0) hf H hk ha).mono ?_
    rintro e w' ⟨E', u', rfl, st, hu⟩
    rw [VR.plain2_eq hv hu]
    exact ⟨rfl, st.below (Nat.le_refl _) fun k _ => hi k⟩
theorem zero_img {n : Nat} {E : En} (k : Nat) : ¬ Img E (Hp.zero n) k := by
  rintro ⟨i, o, e, h, _⟩
  rw [Hp.zero_ob] at h; cases h
theorem inz_any {v : Value} (w : World) (h : FracAt w patZ v) : Calls Tryz.prog 26 #[v] w fun e w' => e = .returned qzV ∧ Below w.heap.size w w' := by
  obtain ⟨E, H, hg, hv⟩ := frac_hr h
  exact gets_run (in0 s0) rfl H hg (.cons hv .nil) frac_img
theorem q_plain {f : Value} (h : QOk f) : CX.plain f = true := by
  obtain ⟨h1, h2, _⟩ := h
  unfold isQ at h1
  split at h1
  · exact h2
  · cases h1
theorem cmp_any {f : Value} (w : World) (h : QOk f) : Calls Tryz.prog 40 #[f, f] w fun e w' => e = .returned (.int .i64 0) ∧ Below w.heap.size w w' :=
  gets_run h.2.2 rfl (HR.zero NG s0 s0_one w) (GOk.zero NG s0 s0_one) (.cons (VR.of_plain (q_plain h)) (.cons (VR.of_plain (q_plain h)) .nil)) zero_img
theorem sign_any (w : World) : Calls Tryz.prog 52 #[qzV] w fun e w' => e = .returned (.int .i64 0) ∧ Below w.heap.size w w' :=
  gets_run (sign0 s0) rfl (HR.zero NG s0 s0_one w) (GOk.zero NG s0 s0_one) (.cons (VR.of_plain (q_plain qz_ok)) .nil) zero_img
theorem pat_in {n : Int} {d : Nat} (h1 : -20 ≤ n) (h2 : n ≤ 20) (h3 : 1 ≤ d) (h4 : d ≤ 4) : isPat (pat n d) = true :=
  List.all_eq_true.1 (List.all_eq_true.1 pats_all d (by simp only [List.mem_cons, List.not_mem_nil, or_false]; omega)) n (nums_mem h1 h2)
end Go.Proofs.YthallgbggkgboaaGreatDoor.Gp
