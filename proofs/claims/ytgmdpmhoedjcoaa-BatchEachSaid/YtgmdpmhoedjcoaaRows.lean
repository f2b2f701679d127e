/-
  No cell of these rows narrows 'for every input' (looked for: loops, veiled, ifaces, maps, wideKeys, modest, calm, conditions, laid).
  DERIVED. THE GIVEN ROWS OF THIS SEAT. 4 by the template 'for every input the law returns true; each argument reads behind the call as it read before'; 0 by the template 'total and deterministic' (their statements: YtgmdpmhoedjcoaaTotals.lean).
  GIVEN WITH THE SEED: the statements are not yours to turn. If you find one false, say at which input.
  Laid BY PROGRAM, IN A SANDBOX (cutbox-rows.mjs): the forced cells as the released guide's own fill.sh prints them over the translation 7391794db7681932… (all of the seat's roots in one cut). By AI agents, Wed Nov 11 2026. No macro, syntax, notation, axiom, sorry.
-/
import Derived.Test.YtgmdpmhoedjcoaaChecked
import GoSem.Claim
import GoSem.ClaimJoined
import GoSem.ClaimMapViews
import Derived.JoinedTies
import Derived.KernelRfl
namespace Go.Proofs.Ytgmdpmhoedjcoaa
/- THE CELL 'sum', in the pinned program and in every row, IS THE sha256 OF THE DUMP (.gsa) THAT YtgmdpmhoedjcoaaProg.lean LOADS. Nothing in Lean hashes anything: it is a label: what it is worth is what the hold of that sum in a sandbox is worth. -/
noncomputable def Try.pinned : Pinned := { name := "ytgmdpmhoedjcoaa", sum := "7391794db768193276198e18c5e665c503a88be93ed455641623d5382c969f43", checked := Try.checked }
namespace Rows
def none {H : Type} : Left H := { results := [], args := [] }

/-- 'abaculuslaw38.BatchForms': WHATEVER THE INPUT: true; the input reads as it did. -/
def batchFormsSpec : ChangeSpec := { name := "batchForms", fn := fun _ => fun
  | [d1, d2, d3, d4] => { results := [.lit (.bool true)], args := [d1, d2, d3, d4] }
  | _ => none }
def batchFormsRow : OpenClaim := { program := "ytgmdpmhoedjcoaa", sum := "7391794db768193276198e18c5e665c503a88be93ed455641623d5382c969f43", func := "abaculus/abaculuslaw38.BatchForms", spec := "batchForms", apart := false }
def BatchFormsSaid : Prop := batchFormsRow.holds Try.pinned (OpenSpec.ofChange batchFormsSpec)

/-- ITS FALSE NEIGHBOUR: 'it returns false'. Refute it at one input. -/
def batchFormsWrong : ChangeSpec := { name := "batchForms", fn := fun _ => fun
  | [d1, d2, d3, d4] => { results := [.lit (.bool false)], args := [d1, d2, d3, d4] }
  | _ => none }
def BatchFormsWrongFalsely : Prop := batchFormsRow.holds Try.pinned (OpenSpec.ofChange batchFormsWrong)

/-- 'abaculuslaw38.BatchWide': WHATEVER THE INPUT: true; the input reads as it did. -/
def batchWideSpec : ChangeSpec := { name := "batchWide", fn := fun _ => fun
  | [d1, d2, d3] => { results := [.lit (.bool true)], args := [d1, d2, d3] }
  | _ => none }
def batchWideRow : OpenClaim := { program := "ytgmdpmhoedjcoaa", sum := "7391794db768193276198e18c5e665c503a88be93ed455641623d5382c969f43", func := "abaculus/abaculuslaw38.BatchWide", spec := "batchWide", apart := false }
def BatchWideSaid : Prop := batchWideRow.holds Try.pinned (OpenSpec.ofChange batchWideSpec)

/-- ITS FALSE NEIGHBOUR: 'it returns false'. Refute it at one input. -/
def batchWideWrong : ChangeSpec := { name := "batchWide", fn := fun _ => fun
  | [d1, d2, d3] => { results := [.lit (.bool false)], args := [d1, d2, d3] }
  | _ => none }
def BatchWideWrongFalsely : Prop := batchWideRow.holds Try.pinned (OpenSpec.ofChange batchWideWrong)

/-- 'abaculuslaw38.BatchEach': WHATEVER THE INPUT: true; the input reads as it did. -/
def batchEachSpec : ChangeSpec := { name := "batchEach", fn := fun _ => fun
  | [d1, d2, d3] => { results := [.lit (.bool true)], args := [d1, d2, d3] }
  | _ => none }
def batchEachRow : OpenClaim := { program := "ytgmdpmhoedjcoaa", sum := "7391794db768193276198e18c5e665c503a88be93ed455641623d5382c969f43", func := "abaculus/abaculuslaw38.BatchEach", spec := "batchEach", apart := false }
def BatchEachSaid : Prop := batchEachRow.holds Try.pinned (OpenSpec.ofChange batchEachSpec)

/-- ITS FALSE NEIGHBOUR: 'it returns false'. Refute it at one input. -/
def batchEachWrong : ChangeSpec := { name := "batchEach", fn := fun _ => fun
  | [d1, d2, d3] => { results := [.lit (.bool false)], args := [d1, d2, d3] }
  | _ => none }
def BatchEachWrongFalsely : Prop := batchEachRow.holds Try.pinned (OpenSpec.ofChange batchEachWrong)

/-- 'abaculuslaw38.BatchLong': WHATEVER THE INPUT: true; the input reads as it did. -/
def batchLongSpec : ChangeSpec := { name := "batchLong", fn := fun _ => fun
  | [d1, d2] => { results := [.lit (.bool true)], args := [d1, d2] }
  | _ => none }
def batchLongRow : OpenClaim := { program := "ytgmdpmhoedjcoaa", sum := "7391794db768193276198e18c5e665c503a88be93ed455641623d5382c969f43", func := "abaculus/abaculuslaw38.BatchLong", spec := "batchLong", apart := false }
def BatchLongSaid : Prop := batchLongRow.holds Try.pinned (OpenSpec.ofChange batchLongSpec)

/-- ITS FALSE NEIGHBOUR: 'it returns false'. Refute it at one input. -/
def batchLongWrong : ChangeSpec := { name := "batchLong", fn := fun _ => fun
  | [d1, d2] => { results := [.lit (.bool false)], args := [d1, d2] }
  | _ => none }
def BatchLongWrongFalsely : Prop := batchLongRow.holds Try.pinned (OpenSpec.ofChange batchLongWrong)

/- THE SECOND FORM. 'bulk': how many values and letters a reading holds, each counted each time it is reached (what is shared counts as often as it is met; a slice's spare places count too). A statement '..UptoSaid' is the law's where the arguments, and the package variables that the reading takes, are together of bulk at most 1048576: NARROWER than '..Said'. Prove '..Said' where nothing that the law and all that it calls make is longer than what came in: it says more and counts as full. Else prove '..UptoSaid'. A law counts once. -/
mutual
def uptoBulk {H : Type} : DataW H → Nat
  | .lit (.string bytes) => bytes.length + 1
  | .lit _ => 1
  | .nil => 1
  | .ptr d => uptoBulk d + 1
  | .slice elems spare => uptoBulkAll elems + uptoBulkAll spare + 1
  | .agg parts => uptoBulkAll parts + 1
  | .iface _ d => uptoBulk d + 1
  | .map entries => uptoBulkEntries entries + 1
  | .held _ => 1
def uptoBulkAll {H : Type} : List (DataW H) → Nat
  | [] => 0
  | d :: r => uptoBulk d + uptoBulkAll r
def uptoBulkEntries {H : Type} : List (Lit × DataW H) → Nat
  | [] => 0
  | x :: r => uptoBulkEntry x + uptoBulkEntries r
def uptoBulkEntry {H : Type} : Lit × DataW H → Nat
  | (.string bytes, d) => bytes.length + uptoBulk d + 1
  | (_, d) => uptoBulk d + 1
 end
def uptoSmall : (H : Type) → List (DataW H) → Bool := fun _ ds => decide (uptoBulkAll ds ≤ 1048576)
def OpenSpec.upto (s : _root_.Go.ChangeSpec) : _root_.Go.OpenSpec := { _root_.Go.OpenSpec.ofChange s with cond := some uptoSmall }

/-- 'abaculuslaw38.BatchForms', WHERE WHAT IT READS IS OF BULK AT MOST 1048576: true; the input reads as it did. -/
def batchFormsUptoRow : OpenClaim := { program := "ytgmdpmhoedjcoaa", sum := "7391794db768193276198e18c5e665c503a88be93ed455641623d5382c969f43", func := "abaculus/abaculuslaw38.BatchForms", spec := "batchForms", apart := false, narrowed := true }
def BatchFormsUptoSaid : Prop := batchFormsUptoRow.holds Try.pinned (OpenSpec.upto batchFormsSpec)

/-- 'abaculuslaw38.BatchWide', WHERE WHAT IT READS IS OF BULK AT MOST 1048576: true; the input reads as it did. -/
def batchWideUptoRow : OpenClaim := { program := "ytgmdpmhoedjcoaa", sum := "7391794db768193276198e18c5e665c503a88be93ed455641623d5382c969f43", func := "abaculus/abaculuslaw38.BatchWide", spec := "batchWide", apart := false, narrowed := true }
def BatchWideUptoSaid : Prop := batchWideUptoRow.holds Try.pinned (OpenSpec.upto batchWideSpec)

/-- 'abaculuslaw38.BatchEach', WHERE WHAT IT READS IS OF BULK AT MOST 1048576: true; the input reads as it did. -/
def batchEachUptoRow : OpenClaim := { program := "ytgmdpmhoedjcoaa", sum := "7391794db768193276198e18c5e665c503a88be93ed455641623d5382c969f43", func := "abaculus/abaculuslaw38.BatchEach", spec := "batchEach", apart := false, narrowed := true }
def BatchEachUptoSaid : Prop := batchEachUptoRow.holds Try.pinned (OpenSpec.upto batchEachSpec)

/-- 'abaculuslaw38.BatchLong', WHERE WHAT IT READS IS OF BULK AT MOST 1048576: true; the input reads as it did. -/
def batchLongUptoRow : OpenClaim := { program := "ytgmdpmhoedjcoaa", sum := "7391794db768193276198e18c5e665c503a88be93ed455641623d5382c969f43", func := "abaculus/abaculuslaw38.BatchLong", spec := "batchLong", apart := false, narrowed := true }
def BatchLongUptoSaid : Prop := batchLongUptoRow.holds Try.pinned (OpenSpec.upto batchLongSpec)

end Rows
end Go.Proofs.Ytgmdpmhoedjcoaa
