/-
  Runs of the executor from a world in which rows of this run's own stand.
  And: ToolSpecs: alike of two specs of the same cells, by runs over symbols.
-/
import Derived.Test.YtelehhfnomdneaaGreatDoorMb
import Derived.Laws.AppendOwn
namespace Go.Proofs.YtelehhfnomdneaaGreatDoor.Sp
open Go Go.RowKit Ut Tc CX

noncomputable def rowB (e : TypeId) (l : List Value) : Bk := { newBk e l with ro := true }
/- Blocks that no abstract block stands for, and nothing is written. -/
structure HRo (E : En) (h : Hp) (w : World) (p : Nat → Prop) : Prop where
  hr : HR E h w
  ro : ∀ i o, h.ob i = some o → o.wr = false
  at_ : ∀ i o e, h.ob i = some o → E i = some e → p e.blk
theorem HRo.zero (ng : Nat) (s : Nat → Value) (one : ∀ n, (s n).oneCell' = true) (w : World) : HRo (En.zero ng s one) (Hp.zero ng) w (fun _ => False) :=
  ⟨HR.zero ng s one w, fun i o h => (by rw [Hp.zero_ob] at h; cases h), fun i o e h => (by rw [Hp.zero_ob] at h; cases h)⟩
theorem rowB_at (e : TypeId) (l : List Value) (j : Nat) : (rowB e l).at j = l[j]? := newBk_at e l j
theorem HRo.row {E : En} {h : Hp} {w : World} {p : Nat → Prop} (H : HRo E h w p) {ng : Gb} (hg : GOk ng E) {g n cap : Nat} {cur : Array Value} {t : TypeId} {l xs : List Value} (hw : w.heap[g]? = some (.cells cur t (0, 0))) (hn : n ≤ cap) (hc : cur.size = cap * 1) (hx : cur.toList.take (n * 1) = xs) (hl : LR E l xs) (hn2 : l.length = n) (hp : ¬ p g) :
    ∃ E', HRo E' (h.new (.row (rowB t l))) w (fun k => p k ∨ k = g) ∧ GOk ng E' ∧ E.le E' ∧ VR E' (.slice (some ⟨h.next, 0, none⟩) n 3) (.slice (some ⟨g, 0, none⟩) n cap) := by
  have hle := H.hr.le_new ⟨g, 0, cap⟩
  have hself := En.add_self E h.next ⟨g, 0, cap⟩
  refine ⟨E.add h.next ⟨g, 0, cap⟩, ⟨H.hr.newAt _ _ (fun i o' e' hi he hb => hp (by have := H.at_ i o' e' hi he; rw [hb] at this; exact this)) ?_, fun i o hi => ?_, fun i o e hi he => ?_⟩, hg.mono hle, hle, ?_⟩
  · refine ⟨cur, (0, 0), hw, by omega, ?_, fun j v hv => ?_, fun hh => (by cases hh), fun hh => (by cases hh)⟩
    · show len l ≤ cap
      rw [len_eq]; omega
    · rw [rowB_at] at hv
      obtain ⟨u, hu, hr⟩ := F2.get (hl.mono hle) hv
      refine ⟨u, ?_, hr⟩
      rw [← hx, List.getElem?_take] at hu
      split at hu
      · simpa using hu
      · cases hu
  · rw [Hp.ob_new] at hi
    split at hi
    · injection hi with hi; subst hi; rfl
    · exact H.ro i o hi
  · rw [Hp.ob_new] at hi
    by_cases hn : i = h.next
    · subst hn
      rw [hself] at he
      injection he with he; subst he
      exact Or.inr rfl
    · rw [if_neg hn] at hi
      rw [En.add_ne E _ hn] at he
      exact Or.inl (H.at_ i o e hi he)
  · have := VR.slice (E := E.add h.next ⟨g, 0, cap⟩) (b := h.next) (o := 0) (n := n) (c := 3) (c' := cap) hself (Or.inr ⟨rfl, Nat.zero_le _, ?_, by decide⟩)
    · simpa using this
    · show 0 + cap * _ = cap
      simp
noncomputable def givesH (x : X) (fuel k : Nat) (av : List Value) (h : Hp) (v : Value) : Bool :=
  Option.rec (motive := fun _ => Bool) false (fun p => eqV p.1 v) (fcall x fuel k av h)
theorem givesH_run {x : X} (hx : x.Ok) {fuel k : Nat} {av av' : List Value} {h : Hp} {v : Value} (hh : givesH x fuel k av h v = true) (hv : plain2 v = true) {E : En} {w : World} {p : Nat → Prop} (H : HRo E h w p) (hg : GOk x.ng E) (ha : LR E av av') :
    Calls x.P k ⟨av'⟩ w fun e w' => e = .returned v ∧ Below w.heap.size w w' := by
  unfold givesH at hh
  cases hf : fcall x fuel k av h with
  | none => rw [hf] at hh; cases hh
  | some q =>
    obtain ⟨u, h'⟩ := q
    rw [hf] at hh
    have := eqV_eq (a := u) (b := v) hh; subst this
    rw [fcall_eq] at hf
    refine (xcall_sound hx hf H.hr hg ha).mono ?_
    rintro e w' ⟨E', u', rfl, st, hu⟩
    rw [VR.plain2_eq hv hu]
    refine ⟨rfl, st.below (Nat.le_refl _) fun k _ => ?_⟩
    rintro ⟨i, o, e, h1, h2, _⟩
    rw [H.ro i o h1] at h2
    cases h2
end Go.Proofs.YtelehhfnomdneaaGreatDoor.Sp
namespace Go.Proofs.YtelehhfnomdneaaGreatDoor.Sp
open Go Go.RowKit Ut Tc CX

def sy (n : Nat) : Value := .float .f64 n
def symA (kd : Nat) (N : Wd → Nat) (Q : Wd → Bool × Nat × Nat) (z0 z1 : Int) : Nat → Value
  | 0 => nV kd
  | 1 => nV (N [104, 111, 119])
  | 2 => nV (N [97, 120, 101, 115])
  | 3 => nV (N [99, 111, 117, 110, 116])
  | 4 => .int .u64 (N [115, 101, 101, 100] : Int)
  | 5 => nV (N [98, 101, 110, 100])
  | 6 => nV (N [98, 105, 116, 115])
  | 7 => nV (N [100, 101, 101, 112])
  | 8 => nV (N [108, 101, 97, 115, 116])
  | 9 => nV (N [116, 114, 101, 101, 115])
  | 10 => nV (N [115, 111, 109, 101])
  | 11 => nV (N [108, 111, 115, 115])
  | 12 => nV (N [114, 111, 117, 110, 100, 115])
  | 13 => nV (N [115, 116, 101, 112, 115])
  | 14 => nV (N [98, 97, 116, 99, 104])
  | 15 => .int .i64 z0
  | 16 => .int .i64 z1
  | 20 => .bool (Q [98, 121]).1
  | 21 => .int .u64 ((Q [98, 121]).2.1 : Int)
  | 22 => .int .u64 ((Q [98, 121]).2.2 : Int)
  | 23 => .bool (Q [115, 112, 97, 110]).1
  | 24 => .int .u64 ((Q [115, 112, 97, 110]).2.1 : Int)
  | 25 => .int .u64 ((Q [115, 112, 97, 110]).2.2 : Int)
  | 26 => .bool (Q [103, 97, 105, 110]).1
  | 27 => .int .u64 ((Q [103, 97, 105, 110]).2.1 : Int)
  | 28 => .int .u64 ((Q [103, 97, 105, 110]).2.2 : Int)
  | 29 => .bool (Q [114, 97, 116, 101]).1
  | 30 => .int .u64 ((Q [114, 97, 116, 101]).2.1 : Int)
  | 31 => .int .u64 ((Q [114, 97, 116, 101]).2.2 : Int)
  | 32 => .bool (Q [107, 101, 101, 112]).1
  | 33 => .int .u64 ((Q [107, 101, 101, 112]).2.1 : Int)
  | 34 => .int .u64 ((Q [107, 101, 101, 112]).2.2 : Int)
  | 35 => .bool (Q [97, 116]).1
  | 36 => .int .u64 ((Q [97, 116]).2.1 : Int)
  | 37 => .int .u64 ((Q [97, 116]).2.2 : Int)
  | _ => .bool false
theorem symA_one (kd : Nat) (N : Wd → Nat) (Q : Wd → Bool × Nat × Nat) (z0 z1 : Int) (n : Nat) : (symA kd N Q z0 z1 n).oneCell' = true := by
  unfold symA; split <;> rfl
theorem symA_int (kd : Nat) (N : Wd → Nat) (Q : Wd → Bool × Nat × Nat) (z0 z1 : Int) (n : Nat) (h : n < 17) : ∃ k i, symA kd N Q z0 z1 n = .int k i := by
  have : n = 0 ∨ n = 1 ∨ n = 2 ∨ n = 3 ∨ n = 4 ∨ n = 5 ∨ n = 6 ∨ n = 7 ∨ n = 8 ∨ n = 9 ∨ n = 10 ∨ n = 11 ∨ n = 12 ∨ n = 13 ∨ n = 14 ∨ n = 15 ∨ n = 16 := by omega
  rcases this with rfl | rfl | rfl | rfl | rfl | rfl | rfl | rfl | rfl | rfl | rfl | rfl | rfl | rfl | rfl | rfl | rfl <;> exact ⟨_, _, rfl⟩
def qA (b : Nat) : List Value := [sy b, sy (b + 1), .string ⟨⟨[]⟩⟩, sy (b + 2), .string ⟨⟨[]⟩⟩]
def ruleA : List Value := [sy 7, sy 8] ++ qA 26
def forestA : List Value := [sy 9, sy 10, sy 4] ++ ruleA
def boostA : List Value := [sy 11, sy 12] ++ qA 29 ++ qA 35 ++ ruleA
def downA : List Value := qA 29 ++ qA 32 ++ [sy 13, sy 14, sy 6, sy 4]
def specA (goal cols sizes : Value) : List Value := [sy 0, sy 1, sy 2, sy 3, goal, cols, sy 4] ++ qA 20 ++ qA 23 ++ ruleA ++ forestA ++ boostA ++ [sizes, sy 5, sy 6] ++ downA
noncomputable def factsA : BinOp → Value → Value → Option Value := fun op a b => match op, a, b with
  | .eql, .float _ n, .float _ m => cond (Nat.beq n m) (cond (Nat.blt n 17) (some (.bool true)) none) none
  | .neq, .float _ n, .float _ m => cond (Nat.beq n m) (cond (Nat.blt n 17) (some (.bool false)) none) none
  | _, _, _ => none
theorem eql_self (ty : TypeId) (k : IntKind) (i : Int) : Go.binOp .eql ty (.int k i) (.int k i) = .pure (.bool true) := by
  simp [Go.binOp, Op.intCmp]
  rfl
theorem neq_self (ty : TypeId) (k : IntKind) (i : Int) : Go.binOp .neq ty (.int k i) (.int k i) = .pure (.bool false) := by
  simp [Go.binOp, Op.intCmp]
  rfl
theorem factsA_ok (kd : Nat) (N : Wd → Nat) (Q : Wd → Bool × Nat × Nat) (z0 z1 : Int) : FactsOk (symA kd N Q z0 z1) factsA := by
  intro op a b v hh
  unfold factsA at hh
  split at hh
  · rename_i k n k2 m
    replace hh := cond_some hh; obtain ⟨h1, hh⟩ := hh
    replace hh := cond_some hh; obtain ⟨h2, hh⟩ := hh
    injection hh with hh; subst hh
    have h1 := beq_eq h1; subst h1
    obtain ⟨kk, i, hi⟩ := symA_int kd N Q z0 z1 n (by simpa using h2)
    exact ⟨rfl, rfl, rfl, kk, i, kk, i, hi, hi, fun ty => eql_self ty kk i⟩
  · rename_i k n k2 m
    replace hh := cond_some hh; obtain ⟨h1, hh⟩ := hh
    replace hh := cond_some hh; obtain ⟨h2, hh⟩ := hh
    injection hh with hh; subst hh
    have h1 := beq_eq h1; subst h1
    obtain ⟨kk, i, hi⟩ := symA_int kd N Q z0 z1 n (by simpa using h2)
    exact ⟨rfl, rfl, rfl, kk, i, kk, i, hi, hi, fun ty => neq_self ty kk i⟩
  · cases hh
noncomputable def cmpO (b : Nat) : Nat → List Value → Hp → Option (Value × Hp) := fun f av h => cond (Nat.beq f 23) (match av with
  | [.agg ⟨l⟩, .agg ⟨m⟩] => cond (eqL l (qA b)) (cond (eqL m (qA b)) (some (.int .i64 0, h)) none) none
  | _ => none) none
noncomputable def orcA : Nat → List Value → Hp → Option (Value × Hp) := orcOr (cmpO 20) (orcOr (cmpO 23) (orcOr (cmpO 26) (orcOr (cmpO 29) (orcOr (cmpO 32) (cmpO 35)))))
theorem cmpO_ok {s : Nat → Value} (_one : ∀ n, (s n).oneCell' = true) (b : Nat) (q : List Value) (hq : q ∈ qs) (hs : (qA b).map (conc s) = q) : OrcOk Tryz.prog ⟨NG, s⟩ (cmpO b) := by
  intro k av h v h' hh E w av' H hg ha
  unfold cmpO at hh
  replace hh := cond_some hh; obtain ⟨h1, hh⟩ := hh
  have h1 := beq_eq h1; subst h1
  split at hh
  · rename_i l m
    replace hh := cond_some hh; obtain ⟨h2, hh⟩ := hh
    replace hh := cond_some hh; obtain ⟨h3, hh⟩ := hh
    injection hh with hh; injection hh with h5 h6; subst h5; subst h6
    have h2 := eqL_eq h2; subst h2
    have h3 := eqL_eq h3; subst h3
    cases ha with
    | cons r1 t1 => cases t1 with
      | cons r2 t2 =>
        cases t2
        obtain ⟨l1, rfl, k1⟩ := r1.agg_inv
        obtain ⟨l2, rfl, k2⟩ := r2.agg_inv
        have e1 := lr_psym (l := qA b) rfl k1
        have e2 := lr_psym (l := qA b) rfl k2
        rw [hg.2, hs] at e1 e2
        subst e1; subst e2
        refine (cmp_any w hq).mono ?_
        rintro e w' ⟨rfl, hb⟩
        exact ⟨E, _, rfl, Stp.of_below H hb, .plain rfl⟩
  · cases hh
theorem orcA_ok (kd : Nat) (N : Wd → Nat) (Q : Wd → Bool × Nat × Nat) (z0 z1 : Int) (hq : ∀ k, qOf (Q k) ∈ qs) : OrcOk Tryz.prog ⟨NG, symA kd N Q z0 z1⟩ orcA := by
  unfold orcA
  have h1 := symA_one kd N Q z0 z1
  exact orcOr_ok (cmpO_ok h1 20 _ (hq [98, 121]) rfl) (orcOr_ok (cmpO_ok h1 23 _ (hq [115, 112, 97, 110]) rfl) (orcOr_ok (cmpO_ok h1 26 _ (hq [103, 97, 105, 110]) rfl) (orcOr_ok (cmpO_ok h1 29 _ (hq [114, 97, 116, 101]) rfl) (orcOr_ok (cmpO_ok h1 32 _ (hq [107, 101, 101, 112]) rfl) (cmpO_ok h1 35 _ (hq [97, 116]) rfl)))))
noncomputable def Xa (s : Nat → Value) : X := X.mk' Tryz.prog 10 10 NG s factsA orcA
theorem Xa_ok (kd : Nat) (N : Wd → Nat) (Q : Wd → Bool × Nat × Nat) (z0 z1 : Int) (hq : ∀ k, qOf (Q k) ∈ qs) : (Xa (symA kd N Q z0 z1)).Ok := X.mk'_ok _ _ _ _ _ _ _ (factsA_ok kd N Q z0 z1) (orcA_ok kd N Q z0 z1 hq) (by kernel_rfl)
theorem specA_lr {E : En} {kd : Nat} {N : Wd → Nat} {Q : Wd → Bool × Nat × Nat} {z0 z1 : Int} (hE : E.s = symA kd N Q z0 z1) {g a1 s1 c1 u1 : Value} (hg : CX.plainCell g = true) (h1 : VR E a1 c1) (h2 : VR E s1 u1) : LR E (specA g a1 s1) (specL kd g c1 u1 N Q) := by
  have sv : ∀ n, VR E (sy n) (symA kd N Q z0 z1 n) := fun n => hE ▸ .sym
  exact .cons (sv 0) (.cons (sv 1) (.cons (sv 2) (.cons (sv 3) (.cons (.plain hg) (.cons h1 (.cons (sv 4) (.cons (sv 20) (.cons (sv 21) (.cons (.plain rfl) (.cons (sv 22) (.cons (.plain rfl) (.cons (sv 23) (.cons (sv 24) (.cons (.plain rfl) (.cons (sv 25) (.cons (.plain rfl) (.cons (sv 7) (.cons (sv 8) (.cons (sv 26) (.cons (sv 27) (.cons (.plain rfl) (.cons (sv 28) (.cons (.plain rfl) (.cons (sv 9) (.cons (sv 10) (.cons (sv 4) (.cons (sv 7) (.cons (sv 8) (.cons (sv 26) (.cons (sv 27) (.cons (.plain rfl) (.cons (sv 28) (.cons (.plain rfl) (.cons (sv 11) (.cons (sv 12) (.cons (sv 29) (.cons (sv 30) (.cons (.plain rfl) (.cons (sv 31) (.cons (.plain rfl) (.cons (sv 35) (.cons (sv 36) (.cons (.plain rfl) (.cons (sv 37) (.cons (.plain rfl) (.cons (sv 7) (.cons (sv 8) (.cons (sv 26) (.cons (sv 27) (.cons (.plain rfl) (.cons (sv 28) (.cons (.plain rfl) (.cons h2 (.cons (sv 5) (.cons (sv 6) (.cons (sv 29) (.cons (sv 30) (.cons (.plain rfl) (.cons (sv 31) (.cons (.plain rfl) (.cons (sv 32) (.cons (sv 33) (.cons (.plain rfl) (.cons (sv 34) (.cons (.plain rfl) (.cons (sv 13) (.cons (sv 14) (.cons (sv 6) (.cons (sv 4) .nil)))))))))))))))))))))))))))))))))))))))))))))))))))))))))))))))))))))
def goalsL : List Wd := [[121], [120], [97, 95, 120]]
def colsOkL : List (List Wd) := [[[121]], [[120]], [[97, 95, 120]], [[120], [121]]]
noncomputable def szA (n : Nat) : List Value := match n with
  | 0 => []
  | 1 => [sy 15]
  | _ => [sy 15, sy 16]
/- The rows' four ways: with or without a block for the sizes. -/
noncomputable def hA (cl : List Wd) (n : Nat) (b3 b4 : Bool) : Hp :=
  let h2 := ((Hp.zero NG).new (.row (rowB 9 (cl.map sv)))).new (.row (rowB 9 (cl.map sv)))
  let h3 := cond b3 (h2.new (.row (rowB 3 (szA n)))) h2
  cond b4 (h3.new (.row (rowB 3 (szA n)))) h3
noncomputable def argA (cl : List Wd) (n : Nat) (t1 : Wd) (b3 b4 : Bool) : List Value :=
  [.agg ⟨specA (sv t1) (.slice (some ⟨NG, 0, none⟩) cl.length 3) (cond b3 (.slice (some ⟨NG + 2, 0, none⟩) n 3) (.slice none 0 0))⟩,
   .agg ⟨specA (sv t1) (.slice (some ⟨NG + 1, 0, none⟩) cl.length 3) (cond b4 (.slice (some ⟨cond b3 (NG + 3) (NG + 2), 0, none⟩) n 3) (.slice none 0 0))⟩]
noncomputable def runA (s : Nat → Value) (cl : List Wd) (t1 : Wd) (n : Nat) (b3 b4 : Bool) : Bool := givesH (Xa s) 3000 9 (argA cl n t1 b3 b4) (hA cl n b3 b4) (.bool true)
noncomputable def allA (s : Nat → Value) (n : Nat) (b3 b4 : Bool) : Bool := colsOkL.all fun cl => goalsL.all fun t1 => runA s cl t1 n b3 b4
theorem all_0ff (s : Nat → Value) : allA s 0 false false = true := by kernel_rfl
theorem all_0ft (s : Nat → Value) : allA s 0 false true = true := by kernel_rfl
theorem all_0tf (s : Nat → Value) : allA s 0 true false = true := by kernel_rfl
theorem all_0tt (s : Nat → Value) : allA s 0 true true = true := by kernel_rfl
theorem all_1tt (s : Nat → Value) : allA s 1 true true = true := by kernel_rfl
theorem all_2tt (s : Nat → Value) : allA s 2 true true = true := by kernel_rfl
end Go.Proofs.YtelehhfnomdneaaGreatDoor.Sp
