/-
  Small fractions, by runs: what In and Cmp tell.
-/
import Derived.Test.YthallgbggkgboaaGreatDoorGq0
namespace Go.Proofs.YthallgbggkgboaaGreatDoor.Gp
open Go Go.RowKit CX

/- A fraction of the program: five cells. -/
def isQ (v : Value) : Bool := match v with
  | .agg ⟨[.bool _, .int .u64 _, .string _, .int .u64 _, .string _]⟩ => true
  | _ => false
noncomputable def rowB (n a : Nat) : Ob := .row { newBk 195 (cond (Nat.beq n 0) [] [.int .u32 a]) with ro := true }
noncomputable def fracH (t : Pt) : Hp := lay (NG + 2) (cond (Nat.beq t.cA 0) [(NG + 1, rowB 1 t.b)] [(NG, rowB t.nA t.a), (NG + 1, rowB 1 t.b)]) .empty
def digV (i n c : Nat) : Value := cond (Nat.beq c 0) (.slice none 0 0) (.slice (some ⟨i, 0, none⟩) n (2 * c))
def fracV (t : Pt) : Value := .agg ⟨[.bool t.neg, digV NG t.nA t.cA, digV (NG + 1) 1 t.cD]⟩
noncomputable def cmpB (s : Nat → Value) (f : Value) : Bool := gets (xo s) 40 [f, f] (Hp.zero NG) (.int .i64 0)
noncomputable def inB (s : Nat → Value) (t : Pt) : Bool := Option.rec (motive := fun _ => Bool) false (fun p => isQ p.1 && (CX.plain2 p.1 && cmpB s p.1)) (fcall (xo s) 100000 26 [fracV t] (fracH t))
def qzV : Value := .agg ⟨[.bool false, .int .u64 0, .string ⟨⟨[]⟩⟩, .int .u64 0, .string ⟨⟨[]⟩⟩]⟩
noncomputable def signB (s : Nat → Value) : Bool := gets (xo s) 52 [qzV] (Hp.zero NG) (.int .i64 0)
noncomputable def inzB (s : Nat → Value) : Bool := gets (xo s) 26 [fracV patZ] (fracH patZ) qzV
theorem in0 (s : Nat → Value) : inzB s = true := by kernel_rfl
theorem cmp0 (s : Nat → Value) : cmpB s qzV = true := by kernel_rfl
theorem sign0 (s : Nat → Value) : signB s = true := by kernel_rfl
def pats0 : List Pt := [⟨true, 1, 1, 20, 1, 1⟩, ⟨true, 1, 1, 16, 1, 1⟩, ⟨true, 1, 1, 12, 1, 1⟩, ⟨true, 1, 1, 8, 1, 1⟩, ⟨true, 1, 1, 4, 1, 1⟩, ⟨false, 0, 0, 0, 1, 1⟩, ⟨false, 1, 1, 4, 1, 1⟩, ⟨false, 1, 1, 8, 1, 1⟩, ⟨false, 1, 1, 12, 1, 1⟩, ⟨false, 1, 1, 16, 1, 1⟩, ⟨false, 1, 1, 20, 1, 1⟩, ⟨true, 1, 1, 13, 1, 2⟩, ⟨true, 1, 1, 5, 1, 2⟩, ⟨false, 1, 1, 3, 1, 2⟩, ⟨false, 1, 1, 11, 1, 2⟩, ⟨false, 1, 1, 19, 1, 2⟩, ⟨true, 1, 1, 16, 1, 3⟩, ⟨true, 1, 1, 10, 1, 3⟩, ⟨true, 1, 1, 4, 1, 3⟩, ⟨false, 1, 1, 2, 1, 3⟩, ⟨false, 1, 1, 8, 1, 3⟩, ⟨false, 1, 1, 14, 1, 3⟩, ⟨false, 1, 1, 20, 1, 3⟩, ⟨true, 1, 1, 13, 1, 4⟩, ⟨true, 1, 1, 5, 1, 4⟩, ⟨false, 1, 1, 3, 1, 4⟩, ⟨false, 1, 1, 11, 1, 4⟩, ⟨false, 1, 1, 19, 1, 4⟩]
def pats1 : List Pt := [⟨true, 1, 1, 19, 1, 1⟩, ⟨true, 1, 1, 15, 1, 1⟩, ⟨true, 1, 1, 11, 1, 1⟩, ⟨true, 1, 1, 7, 1, 1⟩, ⟨true, 1, 1, 3, 1, 1⟩, ⟨false, 1, 1, 1, 1, 1⟩, ⟨false, 1, 1, 5, 1, 1⟩, ⟨false, 1, 1, 9, 1, 1⟩, ⟨false, 1, 1, 13, 1, 1⟩, ⟨false, 1, 1, 17, 1, 1⟩, ⟨true, 1, 1, 19, 1, 2⟩, ⟨true, 1, 1, 11, 1, 2⟩, ⟨true, 1, 1, 3, 1, 2⟩, ⟨false, 1, 1, 5, 1, 2⟩, ⟨false, 1, 1, 13, 1, 2⟩, ⟨true, 1, 1, 20, 1, 3⟩, ⟨true, 1, 1, 14, 1, 3⟩, ⟨true, 1, 1, 8, 1, 3⟩, ⟨true, 1, 1, 2, 1, 3⟩, ⟨false, 1, 1, 4, 1, 3⟩, ⟨false, 1, 1, 10, 1, 3⟩, ⟨false, 1, 1, 16, 1, 3⟩, ⟨true, 1, 1, 19, 1, 4⟩, ⟨true, 1, 1, 11, 1, 4⟩, ⟨true, 1, 1, 3, 1, 4⟩, ⟨false, 1, 1, 5, 1, 4⟩, ⟨false, 1, 1, 13, 1, 4⟩]
def pats2 : List Pt := [⟨true, 1, 1, 18, 1, 1⟩, ⟨true, 1, 1, 14, 1, 1⟩, ⟨true, 1, 1, 10, 1, 1⟩, ⟨true, 1, 1, 6, 1, 1⟩, ⟨true, 1, 1, 2, 1, 1⟩, ⟨false, 1, 1, 2, 1, 1⟩, ⟨false, 1, 1, 6, 1, 1⟩, ⟨false, 1, 1, 10, 1, 1⟩, ⟨false, 1, 1, 14, 1, 1⟩, ⟨false, 1, 1, 18, 1, 1⟩, ⟨true, 1, 1, 17, 1, 2⟩, ⟨true, 1, 1, 9, 1, 2⟩, ⟨true, 1, 1, 1, 1, 2⟩, ⟨false, 1, 1, 7, 1, 2⟩, ⟨false, 1, 1, 15, 1, 2⟩, ⟨true, 1, 1, 19, 1, 3⟩, ⟨true, 1, 1, 13, 1, 3⟩, ⟨true, 1, 1, 7, 1, 3⟩, ⟨true, 1, 1, 1, 1, 3⟩, ⟨false, 1, 1, 5, 1, 3⟩, ⟨false, 1, 1, 11, 1, 3⟩, ⟨false, 1, 1, 17, 1, 3⟩, ⟨true, 1, 1, 17, 1, 4⟩, ⟨true, 1, 1, 9, 1, 4⟩, ⟨true, 1, 1, 1, 1, 4⟩, ⟨false, 1, 1, 7, 1, 4⟩, ⟨false, 1, 1, 15, 1, 4⟩]
def pats3 : List Pt := [⟨true, 1, 1, 17, 1, 1⟩, ⟨true, 1, 1, 13, 1, 1⟩, ⟨true, 1, 1, 9, 1, 1⟩, ⟨true, 1, 1, 5, 1, 1⟩, ⟨true, 1, 1, 1, 1, 1⟩, ⟨false, 1, 1, 3, 1, 1⟩, ⟨false, 1, 1, 7, 1, 1⟩, ⟨false, 1, 1, 11, 1, 1⟩, ⟨false, 1, 1, 15, 1, 1⟩, ⟨false, 1, 1, 19, 1, 1⟩, ⟨true, 1, 1, 15, 1, 2⟩, ⟨true, 1, 1, 7, 1, 2⟩, ⟨false, 1, 1, 1, 1, 2⟩, ⟨false, 1, 1, 9, 1, 2⟩, ⟨false, 1, 1, 17, 1, 2⟩, ⟨true, 1, 1, 17, 1, 3⟩, ⟨true, 1, 1, 11, 1, 3⟩, ⟨true, 1, 1, 5, 1, 3⟩, ⟨false, 1, 1, 1, 1, 3⟩, ⟨false, 1, 1, 7, 1, 3⟩, ⟨false, 1, 1, 13, 1, 3⟩, ⟨false, 1, 1, 19, 1, 3⟩, ⟨true, 1, 1, 15, 1, 4⟩, ⟨true, 1, 1, 7, 1, 4⟩, ⟨false, 1, 1, 1, 1, 4⟩, ⟨false, 1, 1, 9, 1, 4⟩, ⟨false, 1, 1, 17, 1, 4⟩]
def eqP (t u : Pt) : Bool := (t.neg == u.neg) && Nat.beq t.nA u.nA && Nat.beq t.cA u.cA && Nat.beq t.a u.a && Nat.beq t.cD u.cD && Nat.beq t.b u.b
theorem eqP_eq {t u : Pt} (h : eqP t u = true) : t = u := by
  obtain ⟨a1, a2, a3, a4, a5, a6⟩ := t
  obtain ⟨b1, b2, b3, b4, b5, b6⟩ := u
  simp [eqP] at h
  obtain ⟨⟨⟨⟨⟨rfl, rfl⟩, rfl⟩, rfl⟩, rfl⟩, rfl⟩ := h
  rfl
def isPat (t : Pt) : Bool := (pats0.any (eqP t) || pats1.any (eqP t)) || (pats2.any (eqP t) || pats3.any (eqP t))
theorem pats_all : [1, 2, 3, 4].all (fun d => nums.all fun n => isPat (pat n d)) = true := by kernel_rfl
theorem ins0 (s : Nat → Value) : pats0.all (inB s) = true := by kernel_rfl
theorem ins1 (s : Nat → Value) : pats1.all (inB s) = true := by kernel_rfl
theorem ins2 (s : Nat → Value) : pats2.all (inB s) = true := by kernel_rfl
theorem ins3 (s : Nat → Value) : pats3.all (inB s) = true := by kernel_rfl
end Go.Proofs.YthallgbggkgboaaGreatDoor.Gp
