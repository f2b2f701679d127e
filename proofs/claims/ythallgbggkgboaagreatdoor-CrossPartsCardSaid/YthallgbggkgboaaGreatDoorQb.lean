/-
  Rows of rows held against each other. slices.Collect of a list's values, by runs over symbols. slices.Collect of a list's values: of any world. slices.Collect: its contract.
-/
import Derived.Test.YthallgbggkgboaaGreatDoorQa
import Derived.Sort.Row
namespace Go.Proofs.YthallgbggkgboaaGreatDoor.Gp
open Go Go.RowKit Ut

def RdI (w : World) (v : Value) (ns : List Nat) : Prop := ∃ A c, v = .slice A ns.length c ∧ Reads w w.heap.size 1 A ns.length (ns.map fun (n : Nat) => Value.int .i64 (n : Int))
def RdP (w : World) (v : Value) (R : List (List Nat)) : Prop := ∃ (A : Option Addr) (c : Nat) (vs : List Value), v = .slice A R.length c ∧ vs.length = R.length ∧ Reads w w.heap.size 1 A R.length vs ∧ ∀ (i : Nat) (h : i < R.length) (h' : i < vs.length), RdI w vs[i] R[i]
theorem RdI.below {w w' : World} {v : Value} {ns : List Nat} (h : RdI w v ns) (hb : Below w.heap.size w w') : RdI w' v ns := by
  obtain ⟨A, c, e, hr⟩ := h
  exact ⟨A, c, e, (hr.below hb).more hb.size⟩
theorem RdP.below {w w' : World} {v : Value} {R : List (List Nat)} (h : RdP w v R) (hb : Below w.heap.size w w') : RdP w' v R := by
  obtain ⟨A, c, vs, e, hl, hr, hv⟩ := h
  exact ⟨A, c, vs, e, hl, (hr.below hb).more hb.size, fun i h h' => (hv i h h').below hb⟩
theorem RdP.nil (w : World) : RdP w (.slice none 0 0) [] := ⟨none, 0, [], rfl, rfl, ⟨rfl, fun h => absurd h (Nat.lt_irrefl _)⟩, fun _ h _ => absurd h (Nat.not_lt_zero _)⟩
theorem RdI.at_ {w : World} {A : Option Addr} {n c : Nat} {ns : List Nat} (h : RdI w (.slice A n c) ns) {j : Nat} (hj : j < ns.length) : ∃ ad, A = some ad ∧ ad.block < w.heap.size ∧ w.cell? (ad.add j) = some (.int .i64 (ns[j] : Int)) := by
  obtain ⟨A', c', e, hr⟩ := h
  injection e with e1 e2 e3
  subst e1
  obtain ⟨ad, e, hb, hc⟩ := hr.2 (by omega)
  exact ⟨ad, e, hb, hc j _ (by rw [List.getElem?_map, List.getElem?_eq_getElem hj]; rfl)⟩
theorem RdP.at_ {w : World} {A : Option Addr} {n c : Nat} {R : List (List Nat)} (h : RdP w (.slice A n c) R) {j : Nat} (hj : j < R.length) : ∃ ad v, A = some ad ∧ ad.block < w.heap.size ∧ w.cell? (ad.add j) = some v ∧ RdI w v R[j] := by
  obtain ⟨A', c', vs, e, hl, hr, hv⟩ := h
  injection e with e1 e2 e3
  subst e1
  obtain ⟨ad, e, hb, hc⟩ := hr.2 (by omega)
  have hj' : j < vs.length := by omega
  exact ⟨ad, vs[j], e, hb, hc j _ (List.getElem?_eq_getElem hj'), hv j hj hj'⟩
set_option maxHeartbeats 1000000 in
set_option maxRecDepth 100000 in
theorem sameints2_any (u v : Value) (ns : List Nat) (w : World) (hu : RdI w u ns) (hv : RdI w v ns) (hn : ns.length ≤ 1000) :
    Calls Tryz.prog 25 #[u, v] w fun e w' => e = .returned (.bool true) ∧ Below w.heap.size w w' := by
  obtain ⟨A1, c1, rfl, _⟩ := id hu
  obtain ⟨A2, c2, rfl, _⟩ := id hv
  have HU := Lib.hid hu
  have HV := Lib.hid hv
  clear hu hv
  go_enter Tryz.func25, Tryz.ntmps25
  go_wp2
  go_loopw [5] (fun iv wr => ∃ j : Nat, j ≤ ns.length ∧ iv = .int .i64 j ∧ Hid (Below w.heap.size w wr)) (fun iv _ => ns.length - (intOf iv).toNat)
  case atStart => exact ⟨0, Nat.zero_le _, rfl, Below.refl _ _⟩
  case round =>
    obtain ⟨j, hj, rfl, hbel⟩ := hrel
    by_cases hgo : j < ns.length
    · obtain ⟨a1, rfl, hg1, x1⟩ := (HU.out.below hbel.out).at_ hgo
      obtain ⟨a2, rfl, hg2, x2⟩ := (HV.out.below hbel.out).at_ hgo
      generalize ns[j] = m at *
      go_wp2
      go_region_held3 (fun w' => w'.cell? (a1.add j) = some (.int .i64 (m : Int)) ∧ w'.cell? (a2.add j) = some (.int .i64 (m : Int))) (simp [*]) (first | (go_at_call 9999))
      all_goals go_wp2
      all_goals exact ⟨⟨j + 1, by omega, by go_num, (by first | exact hbel.out | exact hbel.out.drew)⟩, by simp [intOf]; omega⟩
    · go_wp2
      go_ret
      exact ⟨rfl, hbel.out⟩
set_option maxHeartbeats 1000000 in
set_option maxRecDepth 100000 in
theorem sameparts_any (u v : Value) (R : List (List Nat)) (w : World) (hu : RdP w u R) (hv : RdP w v R) (hn : R.length ≤ 1000) (hnn : ∀ ns ∈ R, ns.length ≤ 1000) :
    Calls Tryz.prog 10 #[u, v] w fun e w' => e = .returned (.bool true) ∧ Below w.heap.size w w' := by
  obtain ⟨A1, c1, _, rfl, _⟩ := id hu
  obtain ⟨A2, c2, _, rfl, _⟩ := id hv
  have HU := Lib.hid hu
  have HV := Lib.hid hv
  have HN := Lib.hid hnn
  clear hu hv hnn
  go_enter Tryz.func10, Tryz.ntmps10
  go_wp2
  go_loopw [5] (fun iv wr => ∃ j : Nat, j ≤ R.length ∧ iv = .int .i64 j ∧ Hid (Below w.heap.size w wr)) (fun iv _ => R.length - (intOf iv).toNat)
  case atStart => exact ⟨0, Nat.zero_le _, rfl, Below.refl _ _⟩
  case round =>
    obtain ⟨j, hj, rfl, hbel⟩ := hrel
    have hszr := hbel.out.size
    by_cases hgo : j < R.length
    · obtain ⟨a1, v1, rfl, hg1, x1, r1⟩ := (HU.out.below hbel.out).at_ hgo
      obtain ⟨a2, v2, rfl, hg2, x2, r2⟩ := (HV.out.below hbel.out).at_ hgo
      have hl := HN.out _ (List.getElem_mem hgo)
      have HC : Hid (∀ W, Below wr.heap.size wr W → Calls Tryz.prog _ _ W _) := Lib.hid (fun W hW => sameints2_any v1 v2 R[j] W (r1.below hW) (r2.below hW) hl)
      obtain ⟨B1, d1, e1, _⟩ := id r1
      obtain ⟨B2, d2, e2, _⟩ := id r2
      subst e1 e2
      clear r1 r2 hl
      generalize R[j] = ns at *
      go_wp2
      go_region_held3 (fun w' => w'.cell? (a1.add j) = some (.slice B1 ns.length d1) ∧ w'.cell? (a2.add j) = some (.slice B2 ns.length d2)) (simp [*])
        (first | (go_at_call 25; refine (HC.out _ (Below.refl _ _).drew).mono ?_; rintro e w2 ⟨rfl, hb2⟩; have HB2 : Below wr.heap.size wr w2 := (Below.refl _ _).drew.trans hb2; have y1 := (HB2.cell (p := a1.add j) (by rw [block_of_add]; exact hg1)).trans x1; have y2 := (HB2.cell (p := a2.add j) (by rw [block_of_add]; exact hg2)).trans x2))
      all_goals go_wp2
      all_goals exact ⟨⟨j + 1, by omega, by go_num, hbel.out.trans (HB2.mono hszr)⟩, by simp [intOf]; omega⟩
    · go_wp2
      go_ret
      exact ⟨rfl, hbel.out⟩
end Go.Proofs.YthallgbggkgboaaGreatDoor.Gp
namespace Go.Proofs.YthallgbggkgboaaGreatDoor.Gp
open Go Go.RowKit CX Ut

noncomputable def symRow (m : Nat) : Ob := .row { newBk 3 ((List.range m).map fun i => Value.float .f64 i) with ro := true }
noncomputable def seqH (m : Nat) : Hp := lay (NG + 2) [(NG, .row { newBk 22 [.slice (some ⟨NG + 1, 0, none⟩) m (m * 131072 + 3)] with ro := true }), (NG + 1, symRow m)] .empty
def seqV : Value := .func (.func 127) ⟨[]⟩ ⟨[.pointer (some ⟨NG, 0, none⟩)]⟩
noncomputable def symsAt (B : Bk) : Nat → Bool
  | 0 => true
  | j + 1 => (match B.at j with | some u => eqV u (.float .f64 j) | none => false) && symsAt B j
noncomputable def isFresh (p : Value × Hp) (m : Nat) : Bool := match p.1 with
  | .slice (some ⟨i, o, none⟩) n _ => Nat.beq o 0 && Nat.beq n m && Nat.ble (NG + 2) i && (match p.2.ob i with | some (.row B) => Nat.beq B.elem 3 && (!B.ro) && symsAt B m | _ => false) && (match p.2.ob NG with | some _ => true | none => false) && (match p.2.ob (NG + 1) with | some _ => true | none => false)
  | _ => false
noncomputable def collB (s : Nat → Value) (m : Nat) : Bool := Option.rec (motive := fun _ => Bool) false (fun p => isFresh p m) (fcall (xo s) 100000 125 [seqV] (seqH m))
theorem coll1 (s : Nat → Value) : [1, 2, 3, 4, 5, 6].all (collB s) = true := by kernel_rfl
end Go.Proofs.YthallgbggkgboaaGreatDoor.Gp
namespace Go.Proofs.YthallgbggkgboaaGreatDoor.Gp
open Go Go.RowKit CX Ut

def sI (xs : List Nat) : Nat → Value := fun i => .int .i64 ((xs.getD i 0 : Nat) : Int)
theorem sI_one (xs : List Nat) (n : Nat) : (sI xs n).oneCell' = true := rfl
def EFs (xs : List Nat) (e0 e1 : Option Em) : En := { f := fun i => if i < NG then some ⟨i, 0, 0⟩ else if i = NG then e0 else if i = NG + 1 then e1 else none, s := sI xs, one := sI_one xs }
theorem seqH_ob {m i : Nat} {o : Ob} (h : (seqH m).ob i = some o) : (i = NG ∧ o = .row { newBk 22 [.slice (some ⟨NG + 1, 0, none⟩) m (m * 131072 + 3)] with ro := true }) ∨ (i = NG + 1 ∧ o = symRow m) := by
  rcases lay_ob h with hm | ⟨hm, _⟩
  · simp only [List.mem_cons, List.not_mem_nil, or_false] at hm
    rcases hm with hm | hm
    · injection hm with h1 h2; exact .inl ⟨h1, h2⟩
    · injection hm with h1 h2; exact .inr ⟨h1, h2⟩
  · cases hm
theorem seq_img {m : Nat} {E : En} (k : Nat) : ¬ Img E (seqH m) k := by
  rintro ⟨i, o, e, h, hwr, _⟩
  rcases seqH_ob h with ⟨rfl, rfl⟩ | ⟨rfl, rfl⟩ <;> cases hwr
theorem seq_hr {w : World} {bx base m c : Nat} {g : Nat} {xs : List Nat} (hb : Blk w bx 22 #[.slice (some ⟨g, 0, none⟩) m c]) (hr : IntRow w base (.slice (some ⟨g, 0, none⟩) m c) xs) (hm : xs.length = m) (_h0 : 0 < m) :
    ∃ cur : Array Value, HR (EFs xs (some ⟨bx, 0, 1⟩) (some ⟨g, 0, c⟩)) (seqH m) w ∧ GOk ⟨NG, sI xs⟩ (EFs xs (some ⟨bx, 0, 1⟩) (some ⟨g, 0, c⟩)) ∧ VR (EFs xs (some ⟨bx, 0, 1⟩) (some ⟨g, 0, c⟩)) seqV (.func (.func 127) #[] #[.pointer (some ⟨bx, 0, none⟩)]) ∧ w.heap[g]? = some (.cells cur 3 (0, 0)) := by
  obtain ⟨h1, h2⟩ := hr
  rcases h2 with ⟨hv, h0'⟩ | ⟨g', cap, cur, hv, _, h4, h5, h6, h7, h8⟩
  · injection hv with hv; cases hv
  · injection hv with e1 e2 e3
    injection e1 with e1
    injection e1 with e1
    subst e1; subst e3
    have hl : (xs.map fun (n : Nat) => Value.int .i64 (n : Int)).length = xs.length * 1 := h1
    have hne : bx ≠ g := fun e => by
      subst e
      unfold Blk at hb
      rw [hb] at h4
      injection h4 with h4
      injection h4 with _ ht _
      exact absurd ht (by decide)
    have e1 : (m * 131072 + 3) / 2 % 65536 = 1 := by omega
    have hmc : m ≤ c := by omega
    refine ⟨cur, ⟨fun i hi => ?_, fun i o hi => ?_, fun i j o o' e e' hi hj he he' hee => ?_⟩, ⟨fun i hi => ⟨0, if_pos hi⟩, rfl⟩, ?_, h4⟩
    · have : NG + 2 ≤ i := hi
      show (if i < NG then _ else if i = NG then _ else if i = NG + 1 then _ else none) = none
      rw [if_neg (by omega), if_neg (by omega), if_neg (by omega)]
    · rcases seqH_ob hi with ⟨rfl, rfl⟩ | ⟨rfl, rfl⟩
      · refine ⟨⟨bx, 0, 1⟩, rfl, #[.slice (some ⟨g, 0, none⟩) m c], (0, 0), hb, rfl, Nat.le_refl _, fun j u hu => ?_, fun h => (by cases h), fun h => (by cases h)⟩
        have hu : (newBk 22 [.slice (some ⟨NG + 1, 0, none⟩) m (m * 131072 + 3)]).at j = some u := hu
        rw [newBk_at] at hu
        cases j with
        | zero =>
          injection hu with hu
          subst hu
          refine ⟨_, rfl, ?_⟩
          refine .slice (e := ⟨g, 0, c⟩) rfl (.inr ⟨by omega, by omega, ?_, by rw [e1]; decide⟩)
          rw [e1]
          show 0 + c * 1 = c
          omega
        | succ j => cases hu
      · refine ⟨⟨g, 0, c⟩, rfl, cur, (0, 0), h4, by simpa using h7, ?_, fun j u hu => ?_, fun h => (by cases h), fun h => (by cases h)⟩
        · show len _ ≤ c
          rw [len_eq]; simp; exact hmc
        · have hu : (newBk 3 ((List.range m).map fun i => Value.float .f64 i)).at j = some u := hu
          rw [newBk_at, List.getElem?_map] at hu
          have hj : j < m := by
            by_cases hj : j < m
            · exact hj
            · rw [List.getElem?_eq_none (by simp; omega)] at hu; cases hu
          rw [List.getElem?_range hj] at hu
          injection hu with hu
          subst hu
          have hj' : j < xs.length := by omega
          refine ⟨.int .i64 (xs[j] : Int), ?_, ?_⟩
          · have h9 : (xs.map fun (n : Nat) => Value.int .i64 (n : Int))[j]? = some (.int .i64 (xs[j] : Int)) := by rw [List.getElem?_map, List.getElem?_eq_getElem hj']; rfl
            rw [← h8, List.getElem?_take] at h9
            rw [Nat.zero_add]
            split at h9
            · simpa using h9
            · cases h9
          · have hs : (EFs xs (some ⟨bx, 0, 1⟩) (some ⟨g, 0, c⟩)).s j = .int .i64 (xs[j] : Int) := by show sI xs j = _; unfold sI; rw [getD_at hj']
            rw [← hs]; exact .sym
    · rcases seqH_ob hi with ⟨rfl, rfl⟩ | ⟨rfl, rfl⟩ <;> rcases seqH_ob hj with ⟨rfl, rfl⟩ | ⟨rfl, rfl⟩
      · rfl
      · injection he with he
        injection he' with he'
        subst he; subst he'
        exact absurd hee hne
      · injection he with he
        injection he' with he'
        subst he; subst he'
        exact absurd hee.symm hne
      · rfl
    · refine .func rfl (fun i v v' hv _ => by simp at hv) rfl (fun i v v' hv hv' => ?_)
      cases i with
      | zero =>
        injection hv with hv
        injection hv' with hv'
        subst hv; subst hv'
        exact VR.ptr (e := ⟨bx, 0, 1⟩) rfl
      | succ i => cases hv
end Go.Proofs.YthallgbggkgboaaGreatDoor.Gp
namespace Go.Proofs.YthallgbggkgboaaGreatDoor.Gp
open Go Go.RowKit CX Ut

theorem syms_at {B : Bk} : ∀ {m : Nat}, symsAt B m = true → ∀ j, j < m → B.at j = some (.float .f64 j)
  | 0, _, j, hj => absurd hj (Nat.not_lt_zero _)
  | m + 1, h, j, hj => by
    unfold symsAt at h
    obtain ⟨h1, h2⟩ := flat_true h
    by_cases e : j = m
    · subst e
      split at h1
      · next u hu => rw [hu, eqV_eq h1]
      · cases h1
    · exact syms_at h2 j (by omega)
theorem isSome_of {o : Option Ob} (h : (match o with | some _ => true | none => false) = true) : ∃ x, o = some x := by
  cases o with
  | none => cases h
  | some x => exact ⟨x, rfl⟩
theorem collect_any {w : World} {bx base m c g : Nat} {xs : List Nat} (hb : Blk w bx 22 #[.slice (some ⟨g, 0, none⟩) m c]) (hr : IntRow w base (.slice (some ⟨g, 0, none⟩) m c) xs) (hm : xs.length = m) (h0 : 0 < m) (h6 : m ≤ 6) :
    Calls Tryz.prog 125 #[.func (.func 127) #[] #[.pointer (some ⟨bx, 0, none⟩)]] w fun e w' => ∃ blk off c', e = .returned (.slice (some ⟨blk, off, none⟩) m c') ∧ Sort.Holds (Value.int .i64) w' blk off (xs.map fun (n : Nat) => (n : Int)).toArray ∧ w.heap.size ≤ blk ∧ blk < w'.heap.size ∧ Below w.heap.size w w' := by
  obtain ⟨cur, H, hg, hv, _⟩ := seq_hr hb hr hm h0
  have hc := List.all_eq_true.1 (coll1 (sI xs)) m (by simp only [List.mem_cons, List.not_mem_nil, or_false]; omega)
  unfold collB at hc
  cases hf : fcall (xo (sI xs)) 100000 125 [seqV] (seqH m) with
  | none => rw [hf] at hc; cases hc
  | some p =>
    obtain ⟨v, h'⟩ := p
    rw [hf] at hc
    rw [fcall_eq] at hf
    refine (xcall_sound (xo_ok (sI xs)) hf H hg (.cons hv .nil)).mono ?_
    rintro e w' ⟨E', u, rfl, st, hu⟩
    have hbel : Below w.heap.size w w' := st.below (Nat.le_refl _) fun k _ => seq_img k
    have hc : isFresh (v, h') m = true := hc
    unfold isFresh at hc
    split at hc
    · rename_i i o n c1 heq
      have heq : v = .slice (some ⟨i, o, none⟩) n c1 := heq
      subst heq
      obtain ⟨hc, x6⟩ := flat_true hc
      obtain ⟨hc, x5⟩ := flat_true hc
      obtain ⟨hc, x4⟩ := flat_true hc
      obtain ⟨hc, x3⟩ := flat_true hc
      obtain ⟨x1, x2⟩ := flat_true hc
      have x1 := beq_eq x1
      have x2 := beq_eq x2
      have x3 := Nat.le_of_ble_eq_true x3
      subst x1; subst x2
      split at x4
      · rename_i B hB
        have hB : h'.ob i = some (.row B) := hB
        obtain ⟨x4, x7⟩ := flat_true x4
        obtain ⟨x4, x8⟩ := flat_true x4
        have x4 := beq_eq x4
        have x8 : B.ro = false := by simpa using x8
        have hsy := syms_at x7
        obtain ⟨o0, ho0⟩ := isSome_of x5
        obtain ⟨o1, ho1⟩ := isSome_of x6
        cases hu with
        | plain hp => cases hp
        | slice he hcap =>
          rename_i c' em
          obtain ⟨em', he', cs, fr, q1, q2, q3, q4, q5, _⟩ := st.hr.obj _ _ hB
          rw [he] at he'
          injection he' with he'
          subst he'
          have hE0 : E' NG = some ⟨bx, 0, 1⟩ := st.le _ _ rfl
          have hE1 : E' (NG + 1) = some ⟨g, 0, c⟩ := st.le _ _ rfl
          have hfresh : w.heap.size ≤ em.blk := by
            refine Nat.le_of_not_lt fun hlt => ?_
            by_cases hi : Img0 (EFs xs (some ⟨bx, 0, 1⟩) (some ⟨g, 0, c⟩)) (seqH n) em.blk
            · obtain ⟨k, ok, ek, hk1, hk2, hk3⟩ := hi
              rcases seqH_ob hk1 with ⟨rfl, _⟩ | ⟨rfl, _⟩
              · have e2 : ek = ⟨bx, 0, 1⟩ := Option.some.inj (hk2.symm.trans (show (EFs xs (some ⟨bx, 0, 1⟩) (some ⟨g, 0, c⟩)) NG = some ⟨bx, 0, 1⟩ from rfl))
                subst e2
                have hk4 : em.blk = bx := hk3.symm
                have h9 : h'.ob NG = some o0 := ho0
                have h10 := st.hr.inj i NG (.row B) o0 em ⟨bx, 0, 1⟩ hB h9 he hE0 hk4
                omega
              · have e2 : ek = ⟨g, 0, c⟩ := Option.some.inj (hk2.symm.trans (show (EFs xs (some ⟨bx, 0, 1⟩) (some ⟨g, 0, c⟩)) (NG + 1) = some ⟨g, 0, c⟩ from rfl))
                subst e2
                have hk4 : em.blk = g := hk3.symm
                have h9 : h'.ob (NG + 1) = some o1 := ho1
                have h10 := st.hr.inj i (NG + 1) (.row B) o1 em ⟨g, 0, c⟩ hB h9 he hE1 hk4
                omega
            · exact st.keep0 _ hlt hi ⟨i, _, em, hB, he, rfl⟩
          refine ⟨em.blk, 0 + em.d, c', rfl, fun j hj => ?_, hfresh, lt_of_block q1, hbel⟩
          have hj' : j < n := by simpa [hm] using hj
          have hjx : j < xs.length := by omega
          obtain ⟨u', hu', hr'⟩ := q4 _ _ (hsy j hj')
          have hval : u' = .int .i64 (xs[j] : Int) := by
            have hs : E'.s j = .int .i64 (xs[j] : Int) := by rw [st.le.s]; show sI xs j = _; unfold sI; rw [getD_at hjx]
            cases hr' with
            | plain hp => cases hp
            | sym => exact hs
          subst hval
          rw [Nat.zero_add]
          constructor
          · simp [World.cell?, q1, hu', hjx]
          · have hlt : em.d + j < cs.size := (Array.getElem?_eq_some_iff.1 hu').1
            have := q5 x8 _ hlt
            simp [World.frozen?, q1]
            omega
      · cases x4
    · cases hc
end Go.Proofs.YthallgbggkgboaaGreatDoor.Gp
