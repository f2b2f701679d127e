/-
  Small fractions, by runs: what Over and Of tell.
-/
import Derived.Test.YthallgbggkgboaaGreatDoorE7
import Derived.Laws.AppendOwn
namespace Go.Proofs.YthallgbggkgboaaGreatDoor.Gp
open Go Go.RowKit CX

def NG : Nat := 6
noncomputable def xo (s : Nat → Value) : X := X.mk' Tryz.prog 10 10 NG s noFacts noOrc
theorem xo_ok (s : Nat → Value) : (xo s).Ok := X.mk'_ok _ _ _ _ _ _ _ (noFacts_ok _) (noOrc_ok _ _) (by kernel_rfl)
noncomputable def gets (x : X) (k : Nat) (av : List Value) (h : Hp) (v : Value) : Bool := Option.rec (motive := fun _ => Bool) false (fun p => tupV p.1 v) (fcall x 100000 k av h)
/- A fraction's shape: its sign; its numerator's digits (so many, room for so many, the digit); its denominator's. -/
structure Pt where
  neg : Bool
  nA : Nat
  cA : Nat
  a : Nat
  cD : Nat
  b : Nat
def patZ : Pt := ⟨false, 0, 2, 0, 2, 1⟩
def pat (n : Int) (d : Nat) : Pt := if n = 0 then ⟨false, 0, 0, 0, 1, 1⟩ else ⟨n < 0, 1, 1, n.natAbs / Nat.gcd n.natAbs d, 1, d / Nat.gcd n.natAbs d⟩
noncomputable def rowIs (h : Hp) (i n a : Nat) : Bool := match h.ob i with
  | some (.row B) => Nat.beq B.elem 195 && (Nat.beq n 0 || (Nat.beq n 1 && (match B.at 0 with | some u => eqV u (.int .u32 a) | none => false)))
  | _ => false
noncomputable def digB (h : Hp) (v : Value) (n c a : Nat) : Bool := match v with
  | .slice none n' c' => Nat.beq c 0 && Nat.beq n' 0 && Nat.beq c' 0
  | .slice (some ⟨i, o, none⟩) n' c' => Nat.ble 1 c && Nat.beq o 0 && Nat.beq n' n && Nat.beq c' (2 * c) && rowIs h i n a
  | _ => false
def blockOf (v : Value) : Nat := match v with
  | .slice (some ⟨i, _, _⟩) _ _ => i + 1
  | _ => 0
noncomputable def fracIs (p : Value × Hp) (t : Pt) : Bool := match p with
  | (.agg ⟨[.bool n, sA, sD]⟩, h) => (n == t.neg) && digB h sA t.nA t.cA t.a && digB h sD 1 t.cD t.b && !(Nat.beq (blockOf sA) (blockOf sD))
  | _ => false
noncomputable def overB (s : Nat → Value) (d : Nat) (n : Int) : Bool := Option.rec (motive := fun _ => Bool) false (fun p => fracIs p (pat n d)) (fcall (xo s) 100000 48 [.int .i64 n, .int .i64 d] (Hp.zero NG))
noncomputable def ofB (s : Nat → Value) : Bool := Option.rec (motive := fun _ => Bool) false (fun p => fracIs p patZ) (fcall (xo s) 100000 27 [.int .i64 0] (Hp.zero NG))
def nums : List Int := [-20, -19, -18, -17, -16, -15, -14, -13, -12, -11, -10, -9, -8, -7, -6, -5, -4, -3, -2, -1, 0, 1, 2, 3, 4, 5, 6, 7, 8, 9, 10, 11, 12, 13, 14, 15, 16, 17, 18, 19, 20]
theorem nums_mem {n : Int} (h : -20 ≤ n) (h' : n ≤ 20) : n ∈ nums := by unfold nums; simp only [List.mem_cons, List.not_mem_nil, or_false]; omega
theorem of1 (s : Nat → Value) : ofB s = true := by kernel_rfl
theorem over1 (s : Nat → Value) : nums.all (overB s 1) = true := by kernel_rfl
theorem over2 (s : Nat → Value) : nums.all (overB s 2) = true := by kernel_rfl
theorem over3 (s : Nat → Value) : nums.all (overB s 3) = true := by kernel_rfl
theorem over4 (s : Nat → Value) : nums.all (overB s 4) = true := by kernel_rfl
end Go.Proofs.YthallgbggkgboaaGreatDoor.Gp
