/-
  ServeFine: the law's own text, by runs over symbols.
-/
import Derived.Test.YtcpggpkkpjnodaaGreatDoorSf2
namespace Go.Proofs.YtcpggpkkpjnodaaGreatDoor
open Go.RowKit

def sy (n : Nat) : Value := .float .f64 n
def symS (kind id version time : Int) (name : ByteArray) (word q many : Int) (lacks : Bool) : Nat → Value
  | 0 => .int .i64 kind
  | 1 => .int .i64 id
  | 2 => .int .i64 version
  | 3 => .int .i64 time
  | 4 => .string name
  | 5 => .int .i64 word
  | 6 => .int .i64 q
  | 7 => .int .i64 many
  | 8 => .int .i64 (kind % 8)
  | 9 => .int .i64 (id % 2147483648)
  | 10 => .int .i64 (version % 2147483648)
  | 11 => .int .i64 (time % 2147483648)
  | 12 => .int .i64 (q % 3)
  | 13 => .int .u64 (q % 3)
  | 14 => .bool lacks
  | _ => .bool false
theorem symS_one (kind id version time : Int) (name : ByteArray) (word q many : Int) (lacks : Bool) (n : Nat) : (symS kind id version time name word q many lacks n).oneCell' = true := by
  unfold symS; split <;> rfl
def cellS : List Value := [sy 14, .bool false, sy 13, .string ⟨#[]⟩, .int .u64 0, .string ⟨#[]⟩, sy 5]
def cellsS : Nat → List Value
  | 0 => []
  | n + 1 => cellS ++ cellsS n
theorem cellsS_psym : ∀ n, ∀ v ∈ cellsS n, CX.psym v = true
  | 0, v, h => by cases h
  | n + 1, v, h => by
    rcases List.mem_append.1 h with h | h
    · simp only [cellS, List.mem_cons, List.mem_nil_iff, or_false] at h
      rcases h with rfl | rfl | rfl | rfl | rfl | rfl | rfl <;> rfl
    · exact cellsS_psym n v h
theorem cellsS_conc (kind id version time : Int) (name : ByteArray) (word q many : Int) (lacks : Bool) : ∀ n, (cellsS n).map (CX.conc (symS kind id version time name word q many lacks)) = cellsL lacks (q % 3) word n
  | 0 => rfl
  | n + 1 => by
    show (cellS ++ cellsS n).map _ = cellL lacks (q % 3) word ++ cellsL lacks (q % 3) word n
    rw [List.map_append, cellsS_conc kind id version time name word q many lacks n]; rfl
/- Is a slice n such cells? -/
noncomputable def sliceOk (n : Nat) (h : CX.Hp) (v : Value) : Bool := match v with
  | .slice none 0 0 => Nat.beq n 0
  | .slice (some ⟨b, o, none⟩) m _ => cond (Nat.beq m n) (match h.blk b with
    | some B => match B.readN (n * 7) o with
      | some l => CX.eqL l (cellsS n)
      | none => false
    | none => false) false
  | _ => false
theorem sliceOk_sound {n : Nat} {h : CX.Hp} {v u : Value} {E : CX.En} {w : World} (hv : sliceOk n h v = true) (H : CX.HR E h w) (r : CX.VR E v u) : ∃ A c, u = .slice A n c ∧ CellsIn w A n ((cellsS n).map (CX.conc E.s)) := by
  unfold sliceOk at hv
  split at hv
  · have hn := CX.beq_eq hv; subst hn
    obtain ⟨_, _, rfl⟩ := r.snil_inv
    exact ⟨none, 0, rfl, fun h => by omega⟩
  · rename_i b o m c
    obtain ⟨h1, hv⟩ := CX.cond_false_right hv
    have h1 := CX.beq_eq h1; subst h1
    split at hv
    · rename_i B hB
      split at hv
      · rename_i l hl
        have hl2 := CX.eqL_eq hv; subst hl2
        obtain ⟨e, c', _, he, rfl, _⟩ := r.slice_inv
        obtain ⟨e2, l', he2, hlr, _, hat⟩ := H.read hB hl
        change E b = some e at he
        rw [he] at he2; injection he2 with he2; subst he2
        have hl' := CX.lr_psym ((CX.allB_all _ _).2 (cellsS_psym m)) hlr
        subst hl'
        obtain ⟨e3, he3, ho⟩ := H.obj b _ (CX.Hp.blk_some.1 hB)
        rw [he] at he3; injection he3 with he3; subst he3
        exact ⟨_, _, rfl, fun _ => ⟨e.blk, o + e.d, rfl, ho.lt, fun j u hu => hat j u hu⟩⟩
      · cases hv
    · cases hv
  · cases hv
/- Fine of an act whose numbers are symbols, and whose cells are such. -/
noncomputable def orcFine (f0 n : Nat) (pre : List Value) (r : Bool) : Nat → List Value → CX.Hp → Option (Value × CX.Hp) := fun f av h => cond (Nat.beq f f0) (match av with
  | [.agg ⟨[a, b, c, d, e, m, s]⟩] => cond (CX.eqL [a, b, c, d, e, m] pre) (cond (sliceOk n h s) (some (.bool r, h)) none) none
  | _ => none) none
theorem orcFine_ok {ng : CX.Gb} {f0 n : Nat} {pre : List Value} {r : Bool} (hp : CX.allB CX.psym pre = true)
    (hc : ∀ A c W, CellsIn W A n ((cellsS n).map (CX.conc ng.s)) → Calls Tryz.prog f0 #[.agg ⟨pre.map (CX.conc ng.s) ++ [.slice A n c]⟩] W fun e w' => e = .returned (.bool r) ∧ Below W.heap.size W w') : CX.OrcOk Tryz.prog ng (orcFine f0 n pre r) := by
  intro k av h v h' hh E w av' H hg ha
  unfold orcFine at hh
  replace hh := CX.cond_some hh; obtain ⟨h1, hh⟩ := hh
  have h1 := CX.beq_eq h1; subst h1
  split at hh
  · rename_i a b c d e m s
    replace hh := CX.cond_some hh; obtain ⟨h2, hh⟩ := hh
    replace hh := CX.cond_some hh; obtain ⟨h3, hh⟩ := hh
    injection hh with hh; injection hh with h5 h6; subst h5; subst h6
    have h2 := CX.eqL_eq h2; subst h2
    cases ha with
    | cons hr tl =>
      cases tl
      obtain ⟨l', rfl, hl⟩ := hr.agg_inv
      have hl6 : ∃ l6 s', l' = l6 ++ [s'] ∧ CX.LR E [a, b, c, d, e, m] l6 ∧ CX.VR E s s' := by
        cases hl with | cons r1 hl =>
        cases hl with | cons r2 hl =>
        cases hl with | cons r3 hl =>
        cases hl with | cons r4 hl =>
        cases hl with | cons r5 hl =>
        cases hl with | cons r6 hl =>
        cases hl with | cons r7 hl =>
        cases hl
        exact ⟨[_, _, _, _, _, _], _, rfl, .cons r1 (.cons r2 (.cons r3 (.cons r4 (.cons r5 (.cons r6 .nil))))), r7⟩
      obtain ⟨l6, s', rfl, hl6, hs⟩ := hl6
      rw [CX.lr_psym hp hl6]
      obtain ⟨A, c, rfl, hcell⟩ := sliceOk_sound h3 H hs
      rw [hg.2] at hcell ⊢
      refine (hc A c w hcell).mono ?_
      rintro e w' ⟨rfl, hb⟩
      exact ⟨E, _, rfl, CX.Stp.of_below H hb, .plain rfl⟩
  · cases hh
noncomputable def factsF (b4 : Bool) : BinOp → Value → Value → Option Value := fun op a b => match op, a, b with
  | .eql, .float _ n, .int .i64 i => cond (Nat.beq n 0) (cond (CX.eqInt i 4) (some (.bool b4)) none) none
  | _, _, _ => none
def preA : List Value := [sy 0, sy 1, sy 2, sy 3, sy 4, .slice none 0 0]
def preB : List Value := [sy 8, sy 9, sy 10, sy 11, sy 4, .slice none 0 0]
noncomputable def orcAll (n m : Nat) (ra rb : Bool) : Nat → List Value → CX.Hp → Option (Value × CX.Hp) :=
  CX.orcOr (CX.orcP 4 [sy 7, .int .i64 24] (.int .i64 (Int.ofNat m)))
  (CX.orcOr (CX.orcP 4 [sy 6, .int .i64 3] (sy 12))
  (CX.orcOr (CX.orcP 4 [sy 0, .int .i64 8] (sy 8))
  (CX.orcOr (CX.orcP 4 [sy 1, .int .i64 2147483648] (sy 9))
  (CX.orcOr (CX.orcP 4 [sy 2, .int .i64 2147483648] (sy 10))
  (CX.orcOr (CX.orcP 4 [sy 3, .int .i64 2147483648] (sy 11))
  (CX.orcOr (CX.orcP 5 [sy 12] (.agg ⟨[.bool false, sy 13, .string ⟨#[]⟩, .int .u64 0, .string ⟨#[]⟩]⟩))
  (CX.orcOr (CX.orcP 6 [] (.bool true))
  (CX.orcOr (orcFine 7 n preA ra)
  (CX.orcOr (orcFine 8 n preA ra)
  (CX.orcOr (orcFine 7 n preB rb)
    (orcFine 8 n preB rb)))))))))))
noncomputable def Xs (s : Nat → Value) (b4 : Bool) (n m : Nat) (ra rb : Bool) : CX.X := CX.X.mk' Tryz.prog 10 9 4 s (factsF b4) (orcAll n m ra rb)
def args : List Value := [sy 0, sy 1, sy 2, sy 3, sy 4, sy 5, sy 6, sy 7, sy 14]
noncomputable def runs (s : Nat → Value) (b4 : Bool) (ra rb : Bool) (m : Nat) : Bool := CX.gives1 (Xs s b4 (cond b4 m 0) m ra rb) 3000 3 args (.bool true)
theorem runs_tt (s : Nat → Value) : CX.allB (runs s true true true) [0, 1, 2, 3, 4, 5, 6, 7, 8, 9, 10, 11, 12, 13, 14, 15, 16, 17, 18, 19, 20, 21, 22, 23] = true := by kernel_rfl
theorem runs_no_tt (s : Nat → Value) (m : Nat) : runs s false true true m = true := by kernel_rfl
theorem runs_tf (s : Nat → Value) : CX.allB (runs s true true false) [0, 1, 2, 3, 4, 5, 6, 7, 8, 9, 10, 11, 12, 13, 14, 15, 16, 17, 18, 19, 20, 21, 22, 23] = true := by kernel_rfl
theorem runs_no_tf (s : Nat → Value) (m : Nat) : runs s false true false m = true := by kernel_rfl
theorem runs_ft (s : Nat → Value) : CX.allB (runs s true false true) [0, 1, 2, 3, 4, 5, 6, 7, 8, 9, 10, 11, 12, 13, 14, 15, 16, 17, 18, 19, 20, 21, 22, 23] = true := by kernel_rfl
theorem runs_no_ft (s : Nat → Value) (m : Nat) : runs s false false true m = true := by kernel_rfl
theorem runs_ff (s : Nat → Value) : CX.allB (runs s true false false) [0, 1, 2, 3, 4, 5, 6, 7, 8, 9, 10, 11, 12, 13, 14, 15, 16, 17, 18, 19, 20, 21, 22, 23] = true := by kernel_rfl
theorem runs_no_ff (s : Nat → Value) (m : Nat) : runs s false false false m = true := by kernel_rfl
end Go.Proofs.YtcpggpkkpjnodaaGreatDoor
