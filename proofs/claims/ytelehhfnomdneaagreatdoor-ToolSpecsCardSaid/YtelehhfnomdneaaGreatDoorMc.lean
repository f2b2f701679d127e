/-
  ToolSpecs: (*values).spec, walked.
  And: ToolSpecs: tool.Spec, walked: words that are refused at once.
-/
import Derived.Test.YtelehhfnomdneaaGreatDoorMb
namespace Go.Proofs.YtelehhfnomdneaaGreatDoor.Sp
open Go Go.RowKit Ut Tc

theorem Looks.of {w w' : World} {B0 vb b1 b2 b3 S0 : Nat} {sz : Value} {m1 m2 m3 : Mp} {zs : List Nat} {N : Wd → Nat} {Q : Wd → Bool × Nat × Nat} (h : VRaw w B0 vb b1 b2 b3 S0 sz m1 m2 m3 zs) (hn : ∀ k, (lk m2 k).getD (.int .i64 0) = nV (N k)) (hq : ∀ k, (lk m3 k).getD (.agg ⟨qz⟩) = .agg ⟨qOf (Q k)⟩) (hb : Below w.heap.size w w') : Looks w' b2 b3 N Q := (h.below hb).looks hn hq
theorem zSpec (w : World) : (zeroValue 42).run Tryz.prog w = .ok (.agg ⟨specL 0 (.string ⟨#[]⟩) (.slice none 0 0) (.slice none 0 0) (fun _ => 0) (fun _ => (false, 0, 0))⟩) w := by kernel_rfl
theorem zeroSpec : ∃ z : Array Value, (∀ W, (zeroValue 42).run Tryz.prog W = .ok (.agg z) W) ∧ z.size = 70 := ⟨_, zSpec, rfl⟩
theorem infoSpec : (Tryz.prog.info? 42).map (·.size) = some 70 := by kernel_rfl
theorem conv64 (n : Nat) (h : n < 100) (W : World) : (convert 3 26 (.int .i64 (n : Int))).run Tryz.prog W = .ok (.int .u64 (n : Int)) W := by
  go_simp
  have : IntKind.u64.wrap (n : Int) = (n : Int) := by rw [IntKind.wrap_u64]; omega
  rw [this]
set_option maxHeartbeats 4000000 in
set_option maxRecDepth 100000 in
theorem spec_any {w : World} {B0 vb b1 b2 b3 S0 : Nat} {sz : Value} {m1 m2 m3 : Mp} {zs : List Nat} {N : Wd → Nat} {Q : Wd → Bool × Nat × Nat} (hv : VRaw w B0 vb b1 b2 b3 S0 sz m1 m2 m3 zs) (hn : ∀ k, (lk m2 k).getD (.int .i64 0) = nV (N k)) (hq : ∀ k, (lk m3 k).getD (.agg ⟨qz⟩) = .agg ⟨qOf (Q k)⟩) (hs : ∀ k, N k < 100) :
    Calls Tryz.prog 15 #[.pointer (some ⟨vb, 0, none⟩)] w fun e w' => e = .returned (.agg ⟨specL 0 (.string ⟨#[]⟩) (.slice none 0 0) sz N Q⟩) ∧ Below w.heap.size w w' := by
  have HLK : Hid (∀ W, Below w.heap.size w W → Looks W b2 b3 N Q) := Lib.hid fun W hW => Looks.of hv hn hq hW
  have HC : Hid (∀ W, Below w.heap.size w W → W.cell? ⟨vb, 0, none⟩ = some (.map (some b1)) ∧ W.cell? ⟨vb, 1, none⟩ = some (.map (some b2)) ∧ W.cell? ⟨vb, 2, none⟩ = some (.map (some b3)) ∧ W.cell? ⟨vb, 3, none⟩ = some sz) := Lib.hid fun W hW => (hv.below hW).cells
  have HS := Lib.hid hs
  obtain ⟨Asz, csz, rfl, _⟩ := own_slice hv.own
  clear hv hn hq hs
  go_enter Tryz.func15, Tryz.ntmps15
  obtain ⟨z, hz, hzs⟩ := zeroSpec
  have HZS := Lib.hid hzs
  clear hzs
  go_wp2
  generalize hW1 : World.alloc w _ = W1
  have hB1 : Below w.heap.size w W1 := hW1 ▸ (Below.refl _ _).alloc (Nat.le_refl _) _
  have hZ1 : Hid (Blk W1 w.heap.size 42 z) := Lib.hid (by rw [← hW1]; exact Blk.new w _ _)
  have hN1 : Hid (W1.heap.size = w.heap.size + 1) := Lib.hid (by rw [← hW1]; simp)
  have HB1 := Lib.hid hB1
  clear hW1 hB1
  obtain ⟨x0, x1, x2, x3⟩ := HC.out _ HB1.out
  go_quiet (fail)
  generalize hWn : W1.drewN nq = Wn
  have HBn : Hid (Below w.heap.size w Wn) := Lib.hid (hWn ▸ ⟨HB1.out.os, HB1.out.tape, HB1.out.output, HB1.out.size, HB1.out.block⟩)
  have HZn : Hid (Blk Wn w.heap.size 42 z) := Lib.hid (hWn ▸ hZ1.out)
  have hNn : Wn.heap.size = w.heap.size + 1 := hWn ▸ hN1.out
  clear hWn
  have L1 := HLK.out _ HBn.out
  have l1 : _ = Result.ok (Value.int .i64 (N [115, 101, 101, 100] : Int)) Wn := L1.num [115, 101, 101, 100]
  have l2 : _ = Result.ok (Value.int .i64 (N [100, 101, 101, 112] : Int)) Wn := L1.num [100, 101, 101, 112]
  have l3 : _ = Result.ok (Value.int .i64 (N [108, 101, 97, 115, 116] : Int)) Wn := L1.num [108, 101, 97, 115, 116]
  have l4 : _ = Result.ok (Value.agg #[.bool (Q [103, 97, 105, 110]).1, .int .u64 ((Q [103, 97, 105, 110]).2.1 : Int), .string ⟨⟨[]⟩⟩, .int .u64 ((Q [103, 97, 105, 110]).2.2 : Int), .string ⟨⟨[]⟩⟩]) Wn := L1.frac [103, 97, 105, 110]
  have l5 := conv64 _ (HS.out [115, 101, 101, 100]) Wn
  clear L1
  go_wp2
  have hNn1 : Hid (Wn.heap.size = w.heap.size + 1) := Lib.hid hNn
  generalize hWm : Wn.alloc _ = Wm
  have HBm : Hid (Below w.heap.size w Wm) := Lib.hid (hWm ▸ HBn.out.alloc (by omega) _)
  have HZm : Hid (Blk Wm w.heap.size 42 z) := Lib.hid (hWm ▸ HZn.out.alloc _)
  have HRm : Hid (Blk Wm (w.heap.size + 1) 34 #[.int .i64 (N [100, 101, 101, 112] : Int), .int .i64 (N [108, 101, 97, 115, 116] : Int), .bool (Q [103, 97, 105, 110]).1, .int .u64 ((Q [103, 97, 105, 110]).2.1 : Int), .string ⟨⟨[]⟩⟩, .int .u64 ((Q [103, 97, 105, 110]).2.2 : Int), .string ⟨⟨[]⟩⟩]) := Lib.hid (by rw [← hNn1.out, ← hWm]; exact Blk.new Wn _ _)
  have HNm : Hid (Wm.heap.size = w.heap.size + 2) := Lib.hid (by rw [← hWm]; simp; omega)
  clear hWm hz l1 l2 l3 l4 l5 hNn x0 x1 x2 x3
  refine wp_region_held_drew (S := fun w' => Below w.heap.size w w' ∧ Blk w' (w.heap.size + 1) 34 #[.int .i64 (N [100, 101, 101, 112] : Int), .int .i64 (N [108, 101, 97, 115, 116] : Int), .bool (Q [103, 97, 105, 110]).1, .int .u64 ((Q [103, 97, 105, 110]).2.1 : Int), .string ⟨⟨[]⟩⟩, .int .u64 ((Q [103, 97, 105, 110]).2.2 : Int), .string ⟨⟨[]⟩⟩]) (by kernel_rfl) ⟨HBm.out.drew, HRm.out⟩ (fun hHeld => ?_)
  refine wpAnyH_take (i := 0) (oi := _) (v := ?v0) rfl (by kernel_rfl) (by kernel_rfl) (by kernel_rfl) (fun _ _ _ h => h) (Or.inl ⟨by rfl, ?y0⟩) (by assumption) ?r0
  case y0 => (intro w' hSw; (try dsimp only at hSw); (try simp only [List.getElem_toArray, List.getElem_cons_zero]); go_simp; try (with_reducible rfl))
  try simp only [Act.put, List.setIfInBounds_toArray, List.set_cons_zero, List.set_cons_succ, List.getElem_toArray, List.getElem_cons_zero]
  refine wpAnyH_take (i := 1) (oi := _) (v := ?v1) rfl (by kernel_rfl) (by kernel_rfl) (by kernel_rfl) (fun _ _ _ h => h) (Or.inl ⟨by rfl, ?y1⟩) (by assumption) ?r1
  case y1 => (intro w' hSw; (try dsimp only at hSw); (try simp only [List.getElem_toArray, List.getElem_cons_zero, List.getElem_cons_succ]); have l : _ = Result.ok (Value.int .i64 (N [104, 111, 119] : Int)) w' := (HLK.out _ hSw.1).num [104, 111, 119]; go_simp; try (with_reducible rfl))
  try simp only [Act.put, List.setIfInBounds_toArray, List.set_cons_zero, List.set_cons_succ, List.getElem_toArray, List.getElem_cons_zero, List.getElem_cons_succ]
  refine wpAnyH_take (i := 2) (oi := _) (v := ?v2) rfl (by kernel_rfl) (by kernel_rfl) (by kernel_rfl) (fun _ _ _ h => h) (Or.inl ⟨by rfl, ?y2⟩) (by assumption) ?r2
  case y2 => (intro w' hSw; (try dsimp only at hSw); (try simp only [List.getElem_toArray, List.getElem_cons_zero, List.getElem_cons_succ]); go_simp; try (with_reducible rfl))
  try simp only [Act.put, List.setIfInBounds_toArray, List.set_cons_zero, List.set_cons_succ, List.getElem_toArray, List.getElem_cons_zero, List.getElem_cons_succ]
  refine wpAnyH_take (i := 3) (oi := _) (v := ?v3) rfl (by kernel_rfl) (by kernel_rfl) (by kernel_rfl) (fun _ _ _ h => h) (Or.inl ⟨by rfl, ?y3⟩) (by assumption) ?r3
  case y3 => (intro w' hSw; (try dsimp only at hSw); (try simp only [List.getElem_toArray, List.getElem_cons_zero, List.getElem_cons_succ]); have l : _ = Result.ok (Value.int .i64 (N [97, 120, 101, 115] : Int)) w' := (HLK.out _ hSw.1).num [97, 120, 101, 115]; go_simp; try (with_reducible rfl))
  try simp only [Act.put, List.setIfInBounds_toArray, List.set_cons_zero, List.set_cons_succ, List.getElem_toArray, List.getElem_cons_zero, List.getElem_cons_succ]
  refine wpAnyH_take (i := 4) (oi := _) (v := ?v4) rfl (by kernel_rfl) (by kernel_rfl) (by kernel_rfl) (fun _ _ _ h => h) (Or.inl ⟨by rfl, ?y4⟩) (by assumption) ?r4
  case y4 => (intro w' hSw; (try dsimp only at hSw); (try simp only [List.getElem_toArray, List.getElem_cons_zero, List.getElem_cons_succ]); go_simp; try (with_reducible rfl))
  try simp only [Act.put, List.setIfInBounds_toArray, List.set_cons_zero, List.set_cons_succ, List.getElem_toArray, List.getElem_cons_zero, List.getElem_cons_succ]
  refine wpAnyH_take (i := 5) (oi := _) (v := ?v5) rfl (by kernel_rfl) (by kernel_rfl) (by kernel_rfl) (fun _ _ _ h => h) (Or.inl ⟨by rfl, ?y5⟩) (by assumption) ?r5
  case y5 => (intro w' hSw; (try dsimp only at hSw); (try simp only [List.getElem_toArray, List.getElem_cons_zero, List.getElem_cons_succ]); have l : _ = Result.ok (Value.int .i64 (N [99, 111, 117, 110, 116] : Int)) w' := (HLK.out _ hSw.1).num [99, 111, 117, 110, 116]; go_simp; try (with_reducible rfl))
  try simp only [Act.put, List.setIfInBounds_toArray, List.set_cons_zero, List.set_cons_succ, List.getElem_toArray, List.getElem_cons_zero, List.getElem_cons_succ]
  refine wpAnyH_take (i := 6) (oi := _) (v := ?v6) rfl (by kernel_rfl) (by kernel_rfl) (by kernel_rfl) (fun _ _ _ h => h) (Or.inl ⟨by rfl, ?y6⟩) (by assumption) ?r6
  case y6 => (intro w' hSw; (try dsimp only at hSw); (try simp only [List.getElem_toArray, List.getElem_cons_zero, List.getElem_cons_succ]); go_simp; try (with_reducible rfl))
  try simp only [Act.put, List.setIfInBounds_toArray, List.set_cons_zero, List.set_cons_succ, List.getElem_toArray, List.getElem_cons_zero, List.getElem_cons_succ]
  refine wpAnyH_take (i := 7) (oi := _) (v := ?v7) rfl (by kernel_rfl) (by kernel_rfl) (by kernel_rfl) (fun _ _ _ h => h) (Or.inl ⟨by rfl, ?y7⟩) (by assumption) ?r7
  case y7 => (intro w' hSw; (try dsimp only at hSw); (try simp only [List.getElem_toArray, List.getElem_cons_zero, List.getElem_cons_succ]); go_simp; try (with_reducible rfl))
  try simp only [Act.put, List.setIfInBounds_toArray, List.set_cons_zero, List.set_cons_succ, List.getElem_toArray, List.getElem_cons_zero, List.getElem_cons_succ]
  refine wpAnyH_take (i := 8) (oi := _) (v := ?v8) rfl (by kernel_rfl) (by kernel_rfl) (by kernel_rfl) (fun _ _ _ h => h) (Or.inl ⟨by rfl, ?y8⟩) (by assumption) ?r8
  case y8 => (intro w' hSw; (try dsimp only at hSw); (try simp only [List.getElem_toArray, List.getElem_cons_zero, List.getElem_cons_succ]); have l : _ = Result.ok (Value.agg #[.bool (Q [98, 121]).1, .int .u64 ((Q [98, 121]).2.1 : Int), .string ⟨⟨[]⟩⟩, .int .u64 ((Q [98, 121]).2.2 : Int), .string ⟨⟨[]⟩⟩]) w' := (HLK.out _ hSw.1).frac [98, 121]; go_simp; try (with_reducible rfl))
  try simp only [Act.put, List.setIfInBounds_toArray, List.set_cons_zero, List.set_cons_succ, List.getElem_toArray, List.getElem_cons_zero, List.getElem_cons_succ]
  refine wpAnyH_take (i := 9) (oi := _) (v := ?v9) rfl (by kernel_rfl) (by kernel_rfl) (by kernel_rfl) (fun _ _ _ h => h) (Or.inl ⟨by rfl, ?y9⟩) (by assumption) ?r9
  case y9 => (intro w' hSw; (try dsimp only at hSw); (try simp only [List.getElem_toArray, List.getElem_cons_zero, List.getElem_cons_succ]); go_simp; try (with_reducible rfl))
  try simp only [Act.put, List.setIfInBounds_toArray, List.set_cons_zero, List.set_cons_succ, List.getElem_toArray, List.getElem_cons_zero, List.getElem_cons_succ]
  refine wpAnyH_take (i := 10) (oi := _) (v := ?v10) rfl (by kernel_rfl) (by kernel_rfl) (by kernel_rfl) (fun _ _ _ h => h) (Or.inl ⟨by rfl, ?y10⟩) (by assumption) ?r10
  case y10 => (intro w' hSw; (try dsimp only at hSw); (try simp only [List.getElem_toArray, List.getElem_cons_zero, List.getElem_cons_succ]); have l : _ = Result.ok (Value.agg #[.bool (Q [115, 112, 97, 110]).1, .int .u64 ((Q [115, 112, 97, 110]).2.1 : Int), .string ⟨⟨[]⟩⟩, .int .u64 ((Q [115, 112, 97, 110]).2.2 : Int), .string ⟨⟨[]⟩⟩]) w' := (HLK.out _ hSw.1).frac [115, 112, 97, 110]; go_simp; try (with_reducible rfl))
  try simp only [Act.put, List.setIfInBounds_toArray, List.set_cons_zero, List.set_cons_succ, List.getElem_toArray, List.getElem_cons_zero, List.getElem_cons_succ]
  refine wpAnyH_take (i := 11) (oi := _) (v := ?v11) rfl (by kernel_rfl) (by kernel_rfl) (by kernel_rfl) (fun _ _ _ h => h) (Or.inl ⟨by rfl, ?y11⟩) (by assumption) ?r11
  case y11 => (intro w' hSw; (try dsimp only at hSw); (try simp only [List.getElem_toArray, List.getElem_cons_zero, List.getElem_cons_succ]); have c0 : w'.cell? ⟨w.heap.size + 1, 0, none⟩ = some (.int .i64 (N [100, 101, 101, 112] : Int)) := hSw.2.cell 0; have c1 : w'.cell? ⟨w.heap.size + 1, 1, none⟩ = some (.int .i64 (N [108, 101, 97, 115, 116] : Int)) := hSw.2.cell 1; have c2 : w'.cell? ⟨w.heap.size + 1, 2, none⟩ = some (.bool (Q [103, 97, 105, 110]).1) := hSw.2.cell 2; have c3 : w'.cell? ⟨w.heap.size + 1, 3, none⟩ = some (.int .u64 ((Q [103, 97, 105, 110]).2.1 : Int)) := hSw.2.cell 3; have c4 : w'.cell? ⟨w.heap.size + 1, 4, none⟩ = some (.string ⟨⟨[]⟩⟩) := hSw.2.cell 4; have c5 : w'.cell? ⟨w.heap.size + 1, 5, none⟩ = some (.int .u64 ((Q [103, 97, 105, 110]).2.2 : Int)) := hSw.2.cell 5; have c6 : w'.cell? ⟨w.heap.size + 1, 6, none⟩ = some (.string ⟨⟨[]⟩⟩) := hSw.2.cell 6; go_simp; try (with_reducible rfl))
  try simp only [Act.put, List.setIfInBounds_toArray, List.set_cons_zero, List.set_cons_succ, List.getElem_toArray, List.getElem_cons_zero, List.getElem_cons_succ]
  refine wpAnyH_take (i := 12) (oi := _) (v := ?v12) rfl (by kernel_rfl) (by kernel_rfl) (by kernel_rfl) (fun _ _ _ h => h) (Or.inl ⟨by rfl, ?y12⟩) (by assumption) ?r12
  case y12 => (intro w' hSw; (try dsimp only at hSw); (try simp only [List.getElem_toArray, List.getElem_cons_zero, List.getElem_cons_succ]); go_simp; try (with_reducible rfl))
  try simp only [Act.put, List.setIfInBounds_toArray, List.set_cons_zero, List.set_cons_succ, List.getElem_toArray, List.getElem_cons_zero, List.getElem_cons_succ]
  refine wpAnyH_take (i := 13) (oi := _) (v := ?v13) rfl (by kernel_rfl) (by kernel_rfl) (by kernel_rfl) (fun _ _ _ h => h) (Or.inl ⟨by rfl, ?y13⟩) (by assumption) ?r13
  case y13 => (intro w' hSw; (try dsimp only at hSw); (try simp only [List.getElem_toArray, List.getElem_cons_zero, List.getElem_cons_succ]); have l : _ = Result.ok (Value.int .i64 (N [116, 114, 101, 101, 115] : Int)) w' := (HLK.out _ hSw.1).num [116, 114, 101, 101, 115]; go_simp; try (with_reducible rfl))
  try simp only [Act.put, List.setIfInBounds_toArray, List.set_cons_zero, List.set_cons_succ, List.getElem_toArray, List.getElem_cons_zero, List.getElem_cons_succ]
  refine wpAnyH_take (i := 14) (oi := _) (v := ?v14) rfl (by kernel_rfl) (by kernel_rfl) (by kernel_rfl) (fun _ _ _ h => h) (Or.inl ⟨by rfl, ?y14⟩) (by assumption) ?r14
  case y14 => (intro w' hSw; (try dsimp only at hSw); (try simp only [List.getElem_toArray, List.getElem_cons_zero, List.getElem_cons_succ]); go_simp; try (with_reducible rfl))
  try simp only [Act.put, List.setIfInBounds_toArray, List.set_cons_zero, List.set_cons_succ, List.getElem_toArray, List.getElem_cons_zero, List.getElem_cons_succ]
  refine wpAnyH_take (i := 15) (oi := _) (v := ?v15) rfl (by kernel_rfl) (by kernel_rfl) (by kernel_rfl) (fun _ _ _ h => h) (Or.inl ⟨by rfl, ?y15⟩) (by assumption) ?r15
  case y15 => (intro w' hSw; (try dsimp only at hSw); (try simp only [List.getElem_toArray, List.getElem_cons_zero, List.getElem_cons_succ]); have l : _ = Result.ok (Value.int .i64 (N [115, 111, 109, 101] : Int)) w' := (HLK.out _ hSw.1).num [115, 111, 109, 101]; go_simp; try (with_reducible rfl))
  try simp only [Act.put, List.setIfInBounds_toArray, List.set_cons_zero, List.set_cons_succ, List.getElem_toArray, List.getElem_cons_zero, List.getElem_cons_succ]
  refine wpAnyH_take (i := 16) (oi := _) (v := ?v16) rfl (by kernel_rfl) (by kernel_rfl) (by kernel_rfl) (fun _ _ _ h => h) (Or.inl ⟨by rfl, ?y16⟩) (by assumption) ?r16
  case y16 => (intro w' hSw; (try dsimp only at hSw); (try simp only [List.getElem_toArray, List.getElem_cons_zero, List.getElem_cons_succ]); go_simp; try (with_reducible rfl))
  try simp only [Act.put, List.setIfInBounds_toArray, List.set_cons_zero, List.set_cons_succ, List.getElem_toArray, List.getElem_cons_zero, List.getElem_cons_succ]
  refine wpAnyH_take (i := 17) (oi := _) (v := ?v17) rfl (by kernel_rfl) (by kernel_rfl) (by kernel_rfl) (fun _ _ _ h => h) (Or.inl ⟨by rfl, ?y17⟩) (by assumption) ?r17
  case y17 => (intro w' hSw; (try dsimp only at hSw); (try simp only [List.getElem_toArray, List.getElem_cons_zero, List.getElem_cons_succ]); have c0 : w'.cell? ⟨w.heap.size + 1, 0, none⟩ = some (.int .i64 (N [100, 101, 101, 112] : Int)) := hSw.2.cell 0; have c1 : w'.cell? ⟨w.heap.size + 1, 1, none⟩ = some (.int .i64 (N [108, 101, 97, 115, 116] : Int)) := hSw.2.cell 1; have c2 : w'.cell? ⟨w.heap.size + 1, 2, none⟩ = some (.bool (Q [103, 97, 105, 110]).1) := hSw.2.cell 2; have c3 : w'.cell? ⟨w.heap.size + 1, 3, none⟩ = some (.int .u64 ((Q [103, 97, 105, 110]).2.1 : Int)) := hSw.2.cell 3; have c4 : w'.cell? ⟨w.heap.size + 1, 4, none⟩ = some (.string ⟨⟨[]⟩⟩) := hSw.2.cell 4; have c5 : w'.cell? ⟨w.heap.size + 1, 5, none⟩ = some (.int .u64 ((Q [103, 97, 105, 110]).2.2 : Int)) := hSw.2.cell 5; have c6 : w'.cell? ⟨w.heap.size + 1, 6, none⟩ = some (.string ⟨⟨[]⟩⟩) := hSw.2.cell 6; go_simp; try (with_reducible rfl))
  try simp only [Act.put, List.setIfInBounds_toArray, List.set_cons_zero, List.set_cons_succ, List.getElem_toArray, List.getElem_cons_zero, List.getElem_cons_succ]
  refine wpAnyH_take (i := 18) (oi := _) (v := ?v18) rfl (by kernel_rfl) (by kernel_rfl) (by kernel_rfl) (fun _ _ _ h => h) (Or.inl ⟨by rfl, ?y18⟩) (by assumption) ?r18
  case y18 => (intro w' hSw; (try dsimp only at hSw); (try simp only [List.getElem_toArray, List.getElem_cons_zero, List.getElem_cons_succ]); go_simp; try (with_reducible rfl))
  try simp only [Act.put, List.setIfInBounds_toArray, List.set_cons_zero, List.set_cons_succ, List.getElem_toArray, List.getElem_cons_zero, List.getElem_cons_succ]
  refine wpAnyH_take (i := 19) (oi := _) (v := ?v19) rfl (by kernel_rfl) (by kernel_rfl) (by kernel_rfl) (fun _ _ _ h => h) (Or.inl ⟨by rfl, ?y19⟩) (by assumption) ?r19
  case y19 => (intro w' hSw; (try dsimp only at hSw); (try simp only [List.getElem_toArray, List.getElem_cons_zero, List.getElem_cons_succ]); go_simp; try (with_reducible rfl))
  try simp only [Act.put, List.setIfInBounds_toArray, List.set_cons_zero, List.set_cons_succ, List.getElem_toArray, List.getElem_cons_zero, List.getElem_cons_succ]
  refine wpAnyH_take (i := 20) (oi := _) (v := ?v20) rfl (by kernel_rfl) (by kernel_rfl) (by kernel_rfl) (fun _ _ _ h => h) (Or.inl ⟨by rfl, ?y20⟩) (by assumption) ?r20
  case y20 => (intro w' hSw; (try dsimp only at hSw); (try simp only [List.getElem_toArray, List.getElem_cons_zero, List.getElem_cons_succ]); have l : _ = Result.ok (Value.int .i64 (N [108, 111, 115, 115] : Int)) w' := (HLK.out _ hSw.1).num [108, 111, 115, 115]; go_simp; try (with_reducible rfl))
  try simp only [Act.put, List.setIfInBounds_toArray, List.set_cons_zero, List.set_cons_succ, List.getElem_toArray, List.getElem_cons_zero, List.getElem_cons_succ]
  refine wpAnyH_take (i := 21) (oi := _) (v := ?v21) rfl (by kernel_rfl) (by kernel_rfl) (by kernel_rfl) (fun _ _ _ h => h) (Or.inl ⟨by rfl, ?y21⟩) (by assumption) ?r21
  case y21 => (intro w' hSw; (try dsimp only at hSw); (try simp only [List.getElem_toArray, List.getElem_cons_zero, List.getElem_cons_succ]); go_simp; try (with_reducible rfl))
  try simp only [Act.put, List.setIfInBounds_toArray, List.set_cons_zero, List.set_cons_succ, List.getElem_toArray, List.getElem_cons_zero, List.getElem_cons_succ]
  refine wpAnyH_take (i := 22) (oi := _) (v := ?v22) rfl (by kernel_rfl) (by kernel_rfl) (by kernel_rfl) (fun _ _ _ h => h) (Or.inl ⟨by rfl, ?y22⟩) (by assumption) ?r22
  case y22 => (intro w' hSw; (try dsimp only at hSw); (try simp only [List.getElem_toArray, List.getElem_cons_zero, List.getElem_cons_succ]); have l : _ = Result.ok (Value.int .i64 (N [114, 111, 117, 110, 100, 115] : Int)) w' := (HLK.out _ hSw.1).num [114, 111, 117, 110, 100, 115]; go_simp; try (with_reducible rfl))
  try simp only [Act.put, List.setIfInBounds_toArray, List.set_cons_zero, List.set_cons_succ, List.getElem_toArray, List.getElem_cons_zero, List.getElem_cons_succ]
  refine wpAnyH_take (i := 23) (oi := _) (v := ?v23) rfl (by kernel_rfl) (by kernel_rfl) (by kernel_rfl) (fun _ _ _ h => h) (Or.inl ⟨by rfl, ?y23⟩) (by assumption) ?r23
  case y23 => (intro w' hSw; (try dsimp only at hSw); (try simp only [List.getElem_toArray, List.getElem_cons_zero, List.getElem_cons_succ]); go_simp; try (with_reducible rfl))
  try simp only [Act.put, List.setIfInBounds_toArray, List.set_cons_zero, List.set_cons_succ, List.getElem_toArray, List.getElem_cons_zero, List.getElem_cons_succ]
  refine wpAnyH_take (i := 24) (oi := _) (v := ?v24) rfl (by kernel_rfl) (by kernel_rfl) (by kernel_rfl) (fun _ _ _ h => h) (Or.inl ⟨by rfl, ?y24⟩) (by assumption) ?r24
  case y24 => (intro w' hSw; (try dsimp only at hSw); (try simp only [List.getElem_toArray, List.getElem_cons_zero, List.getElem_cons_succ]); have l : _ = Result.ok (Value.agg #[.bool (Q [114, 97, 116, 101]).1, .int .u64 ((Q [114, 97, 116, 101]).2.1 : Int), .string ⟨⟨[]⟩⟩, .int .u64 ((Q [114, 97, 116, 101]).2.2 : Int), .string ⟨⟨[]⟩⟩]) w' := (HLK.out _ hSw.1).frac [114, 97, 116, 101]; go_simp; try (with_reducible rfl))
  try simp only [Act.put, List.setIfInBounds_toArray, List.set_cons_zero, List.set_cons_succ, List.getElem_toArray, List.getElem_cons_zero, List.getElem_cons_succ]
  refine wpAnyH_take (i := 25) (oi := _) (v := ?v25) rfl (by kernel_rfl) (by kernel_rfl) (by kernel_rfl) (fun _ _ _ h => h) (Or.inl ⟨by rfl, ?y25⟩) (by assumption) ?r25
  case y25 => (intro w' hSw; (try dsimp only at hSw); (try simp only [List.getElem_toArray, List.getElem_cons_zero, List.getElem_cons_succ]); go_simp; try (with_reducible rfl))
  try simp only [Act.put, List.setIfInBounds_toArray, List.set_cons_zero, List.set_cons_succ, List.getElem_toArray, List.getElem_cons_zero, List.getElem_cons_succ]
  refine wpAnyH_take (i := 26) (oi := _) (v := ?v26) rfl (by kernel_rfl) (by kernel_rfl) (by kernel_rfl) (fun _ _ _ h => h) (Or.inl ⟨by rfl, ?y26⟩) (by assumption) ?r26
  case y26 => (intro w' hSw; (try dsimp only at hSw); (try simp only [List.getElem_toArray, List.getElem_cons_zero, List.getElem_cons_succ]); have l : _ = Result.ok (Value.agg #[.bool (Q [97, 116]).1, .int .u64 ((Q [97, 116]).2.1 : Int), .string ⟨⟨[]⟩⟩, .int .u64 ((Q [97, 116]).2.2 : Int), .string ⟨⟨[]⟩⟩]) w' := (HLK.out _ hSw.1).frac [97, 116]; go_simp; try (with_reducible rfl))
  try simp only [Act.put, List.setIfInBounds_toArray, List.set_cons_zero, List.set_cons_succ, List.getElem_toArray, List.getElem_cons_zero, List.getElem_cons_succ]
  refine wpAnyH_take (i := 27) (oi := _) (v := ?v27) rfl (by kernel_rfl) (by kernel_rfl) (by kernel_rfl) (fun _ _ _ h => h) (Or.inl ⟨by rfl, ?y27⟩) (by assumption) ?r27
  case y27 => (intro w' hSw; (try dsimp only at hSw); (try simp only [List.getElem_toArray, List.getElem_cons_zero, List.getElem_cons_succ]); have c0 : w'.cell? ⟨w.heap.size + 1, 0, none⟩ = some (.int .i64 (N [100, 101, 101, 112] : Int)) := hSw.2.cell 0; have c1 : w'.cell? ⟨w.heap.size + 1, 1, none⟩ = some (.int .i64 (N [108, 101, 97, 115, 116] : Int)) := hSw.2.cell 1; have c2 : w'.cell? ⟨w.heap.size + 1, 2, none⟩ = some (.bool (Q [103, 97, 105, 110]).1) := hSw.2.cell 2; have c3 : w'.cell? ⟨w.heap.size + 1, 3, none⟩ = some (.int .u64 ((Q [103, 97, 105, 110]).2.1 : Int)) := hSw.2.cell 3; have c4 : w'.cell? ⟨w.heap.size + 1, 4, none⟩ = some (.string ⟨⟨[]⟩⟩) := hSw.2.cell 4; have c5 : w'.cell? ⟨w.heap.size + 1, 5, none⟩ = some (.int .u64 ((Q [103, 97, 105, 110]).2.2 : Int)) := hSw.2.cell 5; have c6 : w'.cell? ⟨w.heap.size + 1, 6, none⟩ = some (.string ⟨⟨[]⟩⟩) := hSw.2.cell 6; go_simp; try (with_reducible rfl))
  try simp only [Act.put, List.setIfInBounds_toArray, List.set_cons_zero, List.set_cons_succ, List.getElem_toArray, List.getElem_cons_zero, List.getElem_cons_succ]
  refine wpAnyH_take (i := 28) (oi := _) (v := ?v28) rfl (by kernel_rfl) (by kernel_rfl) (by kernel_rfl) (fun _ _ _ h => h) (Or.inl ⟨by rfl, ?y28⟩) (by assumption) ?r28
  case y28 => (intro w' hSw; (try dsimp only at hSw); (try simp only [List.getElem_toArray, List.getElem_cons_zero, List.getElem_cons_succ]); go_simp; try (with_reducible rfl))
  try simp only [Act.put, List.setIfInBounds_toArray, List.set_cons_zero, List.set_cons_succ, List.getElem_toArray, List.getElem_cons_zero, List.getElem_cons_succ]
  refine wpAnyH_take (i := 29) (oi := _) (v := ?v29) rfl (by kernel_rfl) (by kernel_rfl) (by kernel_rfl) (fun _ _ _ h => h) (Or.inl ⟨by rfl, ?y29⟩) (by assumption) ?r29
  case y29 => (intro w' hSw; (try dsimp only at hSw); (try simp only [List.getElem_toArray, List.getElem_cons_zero, List.getElem_cons_succ]); go_simp; try (with_reducible rfl))
  try simp only [Act.put, List.setIfInBounds_toArray, List.set_cons_zero, List.set_cons_succ, List.getElem_toArray, List.getElem_cons_zero, List.getElem_cons_succ]
  refine wpAnyH_take (i := 30) (oi := _) (v := ?v30) rfl (by kernel_rfl) (by kernel_rfl) (by kernel_rfl) (fun _ _ _ h => h) (Or.inl ⟨by rfl, ?y30⟩) (by assumption) ?r30
  case y30 => (intro w' hSw; (try dsimp only at hSw); (try simp only [List.getElem_toArray, List.getElem_cons_zero, List.getElem_cons_succ]); go_simp; try (with_reducible rfl))
  try simp only [Act.put, List.setIfInBounds_toArray, List.set_cons_zero, List.set_cons_succ, List.getElem_toArray, List.getElem_cons_zero, List.getElem_cons_succ]
  refine wpAnyH_take (i := 31) (oi := _) (v := ?v31) rfl (by kernel_rfl) (by kernel_rfl) (by kernel_rfl) (fun _ _ _ h => h) (Or.inl ⟨by rfl, ?y31⟩) (by assumption) ?r31
  case y31 => (intro w' hSw; (try dsimp only at hSw); (try simp only [List.getElem_toArray, List.getElem_cons_zero, List.getElem_cons_succ]); go_simp; try (with_reducible rfl))
  try simp only [Act.put, List.setIfInBounds_toArray, List.set_cons_zero, List.set_cons_succ, List.getElem_toArray, List.getElem_cons_zero, List.getElem_cons_succ]
  refine wpAnyH_take (i := 32) (oi := _) (v := ?v32) rfl (by kernel_rfl) (by kernel_rfl) (by kernel_rfl) (fun _ _ _ h => h) (Or.inl ⟨by rfl, ?y32⟩) (by assumption) ?r32
  case y32 => (intro w' hSw; (try dsimp only at hSw); (try simp only [List.getElem_toArray, List.getElem_cons_zero, List.getElem_cons_succ]); obtain ⟨x0, x1, x2, x3⟩ := HC.out _ hSw.1; go_simp; try (with_reducible rfl))
  try simp only [Act.put, List.setIfInBounds_toArray, List.set_cons_zero, List.set_cons_succ, List.getElem_toArray, List.getElem_cons_zero, List.getElem_cons_succ]
  refine wpAnyH_take (i := 33) (oi := _) (v := ?v33) rfl (by kernel_rfl) (by kernel_rfl) (by kernel_rfl) (fun _ _ _ h => h) (Or.inl ⟨by rfl, ?y33⟩) (by assumption) ?r33
  case y33 => (intro w' hSw; (try dsimp only at hSw); (try simp only [List.getElem_toArray, List.getElem_cons_zero, List.getElem_cons_succ]); go_simp; try (with_reducible rfl))
  try simp only [Act.put, List.setIfInBounds_toArray, List.set_cons_zero, List.set_cons_succ, List.getElem_toArray, List.getElem_cons_zero, List.getElem_cons_succ]
  refine wpAnyH_take (i := 34) (oi := _) (v := ?v34) rfl (by kernel_rfl) (by kernel_rfl) (by kernel_rfl) (fun _ _ _ h => h) (Or.inl ⟨by rfl, ?y34⟩) (by assumption) ?r34
  case y34 => (intro w' hSw; (try dsimp only at hSw); (try simp only [List.getElem_toArray, List.getElem_cons_zero, List.getElem_cons_succ]); have l : _ = Result.ok (Value.int .i64 (N [98, 101, 110, 100] : Int)) w' := (HLK.out _ hSw.1).num [98, 101, 110, 100]; go_simp; try (with_reducible rfl))
  try simp only [Act.put, List.setIfInBounds_toArray, List.set_cons_zero, List.set_cons_succ, List.getElem_toArray, List.getElem_cons_zero, List.getElem_cons_succ]
  refine wpAnyH_take (i := 35) (oi := _) (v := ?v35) rfl (by kernel_rfl) (by kernel_rfl) (by kernel_rfl) (fun _ _ _ h => h) (Or.inl ⟨by rfl, ?y35⟩) (by assumption) ?r35
  case y35 => (intro w' hSw; (try dsimp only at hSw); (try simp only [List.getElem_toArray, List.getElem_cons_zero, List.getElem_cons_succ]); go_simp; try (with_reducible rfl))
  try simp only [Act.put, List.setIfInBounds_toArray, List.set_cons_zero, List.set_cons_succ, List.getElem_toArray, List.getElem_cons_zero, List.getElem_cons_succ]
  refine wpAnyH_take (i := 36) (oi := _) (v := ?v36) rfl (by kernel_rfl) (by kernel_rfl) (by kernel_rfl) (fun _ _ _ h => h) (Or.inl ⟨by rfl, ?y36⟩) (by assumption) ?r36
  case y36 => (intro w' hSw; (try dsimp only at hSw); (try simp only [List.getElem_toArray, List.getElem_cons_zero, List.getElem_cons_succ]); have l : _ = Result.ok (Value.int .i64 (N [98, 105, 116, 115] : Int)) w' := (HLK.out _ hSw.1).num [98, 105, 116, 115]; go_simp; try (with_reducible rfl))
  try simp only [Act.put, List.setIfInBounds_toArray, List.set_cons_zero, List.set_cons_succ, List.getElem_toArray, List.getElem_cons_zero, List.getElem_cons_succ]
  refine wpAnyH_take (i := 37) (oi := _) (v := ?v37) rfl (by kernel_rfl) (by kernel_rfl) (by kernel_rfl) (fun _ _ _ h => h) (Or.inl ⟨by rfl, ?y37⟩) (by assumption) ?r37
  case y37 => (intro w' hSw; (try dsimp only at hSw); (try simp only [List.getElem_toArray, List.getElem_cons_zero, List.getElem_cons_succ]); go_simp; try (with_reducible rfl))
  try simp only [Act.put, List.setIfInBounds_toArray, List.set_cons_zero, List.set_cons_succ, List.getElem_toArray, List.getElem_cons_zero, List.getElem_cons_succ]
  refine wpAnyH_take (i := 38) (oi := _) (v := ?v38) rfl (by kernel_rfl) (by kernel_rfl) (by kernel_rfl) (fun _ _ _ h => h) (Or.inl ⟨by rfl, ?y38⟩) (by assumption) ?r38
  case y38 => (intro w' hSw; (try dsimp only at hSw); (try simp only [List.getElem_toArray, List.getElem_cons_zero, List.getElem_cons_succ]); have l : _ = Result.ok (Value.agg #[.bool (Q [114, 97, 116, 101]).1, .int .u64 ((Q [114, 97, 116, 101]).2.1 : Int), .string ⟨⟨[]⟩⟩, .int .u64 ((Q [114, 97, 116, 101]).2.2 : Int), .string ⟨⟨[]⟩⟩]) w' := (HLK.out _ hSw.1).frac [114, 97, 116, 101]; go_simp; try (with_reducible rfl))
  try simp only [Act.put, List.setIfInBounds_toArray, List.set_cons_zero, List.set_cons_succ, List.getElem_toArray, List.getElem_cons_zero, List.getElem_cons_succ]
  refine wpAnyH_take (i := 39) (oi := _) (v := ?v39) rfl (by kernel_rfl) (by kernel_rfl) (by kernel_rfl) (fun _ _ _ h => h) (Or.inl ⟨by rfl, ?y39⟩) (by assumption) ?r39
  case y39 => (intro w' hSw; (try dsimp only at hSw); (try simp only [List.getElem_toArray, List.getElem_cons_zero, List.getElem_cons_succ]); go_simp; try (with_reducible rfl))
  try simp only [Act.put, List.setIfInBounds_toArray, List.set_cons_zero, List.set_cons_succ, List.getElem_toArray, List.getElem_cons_zero, List.getElem_cons_succ]
  refine wpAnyH_take (i := 40) (oi := _) (v := ?v40) rfl (by kernel_rfl) (by kernel_rfl) (by kernel_rfl) (fun _ _ _ h => h) (Or.inl ⟨by rfl, ?y40⟩) (by assumption) ?r40
  case y40 => (intro w' hSw; (try dsimp only at hSw); (try simp only [List.getElem_toArray, List.getElem_cons_zero, List.getElem_cons_succ]); have l : _ = Result.ok (Value.agg #[.bool (Q [107, 101, 101, 112]).1, .int .u64 ((Q [107, 101, 101, 112]).2.1 : Int), .string ⟨⟨[]⟩⟩, .int .u64 ((Q [107, 101, 101, 112]).2.2 : Int), .string ⟨⟨[]⟩⟩]) w' := (HLK.out _ hSw.1).frac [107, 101, 101, 112]; go_simp; try (with_reducible rfl))
  try simp only [Act.put, List.setIfInBounds_toArray, List.set_cons_zero, List.set_cons_succ, List.getElem_toArray, List.getElem_cons_zero, List.getElem_cons_succ]
  refine wpAnyH_take (i := 41) (oi := _) (v := ?v41) rfl (by kernel_rfl) (by kernel_rfl) (by kernel_rfl) (fun _ _ _ h => h) (Or.inl ⟨by rfl, ?y41⟩) (by assumption) ?r41
  case y41 => (intro w' hSw; (try dsimp only at hSw); (try simp only [List.getElem_toArray, List.getElem_cons_zero, List.getElem_cons_succ]); go_simp; try (with_reducible rfl))
  try simp only [Act.put, List.setIfInBounds_toArray, List.set_cons_zero, List.set_cons_succ, List.getElem_toArray, List.getElem_cons_zero, List.getElem_cons_succ]
  refine wpAnyH_take (i := 42) (oi := _) (v := ?v42) rfl (by kernel_rfl) (by kernel_rfl) (by kernel_rfl) (fun _ _ _ h => h) (Or.inl ⟨by rfl, ?y42⟩) (by assumption) ?r42
  case y42 => (intro w' hSw; (try dsimp only at hSw); (try simp only [List.getElem_toArray, List.getElem_cons_zero, List.getElem_cons_succ]); have l : _ = Result.ok (Value.int .i64 (N [115, 116, 101, 112, 115] : Int)) w' := (HLK.out _ hSw.1).num [115, 116, 101, 112, 115]; go_simp; try (with_reducible rfl))
  try simp only [Act.put, List.setIfInBounds_toArray, List.set_cons_zero, List.set_cons_succ, List.getElem_toArray, List.getElem_cons_zero, List.getElem_cons_succ]
  refine wpAnyH_take (i := 43) (oi := _) (v := ?v43) rfl (by kernel_rfl) (by kernel_rfl) (by kernel_rfl) (fun _ _ _ h => h) (Or.inl ⟨by rfl, ?y43⟩) (by assumption) ?r43
  case y43 => (intro w' hSw; (try dsimp only at hSw); (try simp only [List.getElem_toArray, List.getElem_cons_zero, List.getElem_cons_succ]); go_simp; try (with_reducible rfl))
  try simp only [Act.put, List.setIfInBounds_toArray, List.set_cons_zero, List.set_cons_succ, List.getElem_toArray, List.getElem_cons_zero, List.getElem_cons_succ]
  refine wpAnyH_take (i := 44) (oi := _) (v := ?v44) rfl (by kernel_rfl) (by kernel_rfl) (by kernel_rfl) (fun _ _ _ h => h) (Or.inl ⟨by rfl, ?y44⟩) (by assumption) ?r44
  case y44 => (intro w' hSw; (try dsimp only at hSw); (try simp only [List.getElem_toArray, List.getElem_cons_zero, List.getElem_cons_succ]); have l : _ = Result.ok (Value.int .i64 (N [98, 97, 116, 99, 104] : Int)) w' := (HLK.out _ hSw.1).num [98, 97, 116, 99, 104]; go_simp; try (with_reducible rfl))
  try simp only [Act.put, List.setIfInBounds_toArray, List.set_cons_zero, List.set_cons_succ, List.getElem_toArray, List.getElem_cons_zero, List.getElem_cons_succ]
  refine wpAnyH_take (i := 45) (oi := _) (v := ?v45) rfl (by kernel_rfl) (by kernel_rfl) (by kernel_rfl) (fun _ _ _ h => h) (Or.inl ⟨by rfl, ?y45⟩) (by assumption) ?r45
  case y45 => (intro w' hSw; (try dsimp only at hSw); (try simp only [List.getElem_toArray, List.getElem_cons_zero, List.getElem_cons_succ]); go_simp; try (with_reducible rfl))
  try simp only [Act.put, List.setIfInBounds_toArray, List.set_cons_zero, List.set_cons_succ, List.getElem_toArray, List.getElem_cons_zero, List.getElem_cons_succ]
  refine wpAnyH_take (i := 46) (oi := _) (v := ?v46) rfl (by kernel_rfl) (by kernel_rfl) (by kernel_rfl) (fun _ _ _ h => h) (Or.inl ⟨by rfl, ?y46⟩) (by assumption) ?r46
  case y46 => (intro w' hSw; (try dsimp only at hSw); (try simp only [List.getElem_toArray, List.getElem_cons_zero, List.getElem_cons_succ]); have l : _ = Result.ok (Value.int .i64 (N [98, 105, 116, 115] : Int)) w' := (HLK.out _ hSw.1).num [98, 105, 116, 115]; go_simp; try (with_reducible rfl))
  try simp only [Act.put, List.setIfInBounds_toArray, List.set_cons_zero, List.set_cons_succ, List.getElem_toArray, List.getElem_cons_zero, List.getElem_cons_succ]
  refine wpAnyH_take (i := 47) (oi := _) (v := ?v47) rfl (by kernel_rfl) (by kernel_rfl) (by kernel_rfl) (fun _ _ _ h => h) (Or.inl ⟨by rfl, ?y47⟩) (by assumption) ?r47
  case y47 => (intro w' hSw; (try dsimp only at hSw); (try simp only [List.getElem_toArray, List.getElem_cons_zero, List.getElem_cons_succ]); go_simp; try (with_reducible rfl))
  try simp only [Act.put, List.setIfInBounds_toArray, List.set_cons_zero, List.set_cons_succ, List.getElem_toArray, List.getElem_cons_zero, List.getElem_cons_succ]
  refine wpAnyH_take (i := 48) (oi := _) (v := ?v48) rfl (by kernel_rfl) (by kernel_rfl) (by kernel_rfl) (fun _ _ _ h => h) (Or.inl ⟨by rfl, ?y48⟩) (by assumption) ?r48
  case y48 => (intro w' hSw; (try dsimp only at hSw); (try simp only [List.getElem_toArray, List.getElem_cons_zero, List.getElem_cons_succ]); go_simp; try (with_reducible rfl))
  try simp only [Act.put, List.setIfInBounds_toArray, List.set_cons_zero, List.set_cons_succ, List.getElem_toArray, List.getElem_cons_zero, List.getElem_cons_succ]
  refine wpAnyH_take (i := 49) (oi := _) (v := ?v49) rfl (by kernel_rfl) (by kernel_rfl) (by kernel_rfl) (fun _ _ _ h => h) (Or.inl ⟨by rfl, ?y49⟩) (by assumption) ?r49
  case y49 => (intro w' hSw; (try dsimp only at hSw); (try simp only [List.getElem_toArray, List.getElem_cons_zero, List.getElem_cons_succ]); have l : _ = Result.ok (Value.agg #[.int .i64 0, .int .i64 0, .int .i64 0, .int .i64 0, .string ⟨⟨[]⟩⟩, .slice none 0 0, .int .u64 0, .bool false, .int .u64 0, .string ⟨⟨[]⟩⟩, .int .u64 0, .string ⟨⟨[]⟩⟩, .bool false, .int .u64 0, .string ⟨⟨[]⟩⟩, .int .u64 0, .string ⟨⟨[]⟩⟩, .int .i64 0, .int .i64 0, .bool false, .int .u64 0, .string ⟨⟨[]⟩⟩, .int .u64 0, .string ⟨⟨[]⟩⟩, .int .i64 0, .int .i64 0, .int .u64 0, .int .i64 0, .int .i64 0, .bool false, .int .u64 0, .string ⟨⟨[]⟩⟩, .int .u64 0, .string ⟨⟨[]⟩⟩, .int .i64 0, .int .i64 0, .bool false, .int .u64 0, .string ⟨⟨[]⟩⟩, .int .u64 0, .string ⟨⟨[]⟩⟩, .bool false, .int .u64 0, .string ⟨⟨[]⟩⟩, .int .u64 0, .string ⟨⟨[]⟩⟩, .int .i64 0, .int .i64 0, .bool false, .int .u64 0, .string ⟨⟨[]⟩⟩, .int .u64 0, .string ⟨⟨[]⟩⟩, .slice none 0 0, .int .i64 0, .int .i64 0, .bool false, .int .u64 0, .string ⟨⟨[]⟩⟩, .int .u64 0, .string ⟨⟨[]⟩⟩, .bool false, .int .u64 0, .string ⟨⟨[]⟩⟩, .int .u64 0, .string ⟨⟨[]⟩⟩, .int .i64 0, .int .i64 0, .int .i64 0, .int .u64 0]) w' := zSpec w'; go_simp; try (with_reducible rfl))
  try simp only [Act.put, List.setIfInBounds_toArray, List.set_cons_zero, List.set_cons_succ, List.getElem_toArray, List.getElem_cons_zero, List.getElem_cons_succ]
  refine wpAnyH_ready (rs := [50]) (by kernel_rfl) (by simp) ?_
  refine AllReadyH.cons rfl (fun K hK => ?_) AllReadyH.nil
  refine step_store_row Wm.drew ?sg 42 (.tmp 2) (.tmp 74) ?sq w.heap.size z ?cs 42 ?sp ?sv HZm.out ?si ?ss ?so ?sK
  case sg => rfl
  case sq => rfl
  case sp => rfl
  case sv => rfl
  case si => exact infoSpec
  case ss => (rw [HZS.out]; rfl)
  case so => (rw [← Array.all_toList]; rfl)
  intro w3 hb3 ha3 hs3
  have hB3 : Below w.heap.size w w3 := ⟨ha3.os.trans HBm.out.os, ha3.tape.trans HBm.out.drew.tape, ha3.output.trans HBm.out.output, Nat.le_trans HBm.out.size ha3.size, fun k hk => (ha3.block k (by have := HNm.out; show k < Wm.heap.size; omega) (by omega)).trans (HBm.out.block k hk)⟩
  have hR3 := (ha3.block (w.heap.size + 1) HRm.out.lt (by omega)).trans HRm.out
  refine hK.out _ _ ⟨hB3, hR3⟩ (fun hHeld2 => ?_)
  clear hK K
  refine wpAnyH_done (by kernel_rfl) ?_ _
  go_wp2

  refine bodyPost_ret (results_row rfl _ _ w.heap.size _ _ _ rfl hb3 Tryz.underlying42 rfl infoSpec) rfl ⟨rfl, hB3⟩
end Go.Proofs.YtelehhfnomdneaaGreatDoor.Sp
namespace Go.Proofs.YtelehhfnomdneaaGreatDoor.Sp
open Go Go.RowKit Ut Tc

def leastK : Wd := [108, 101, 97, 115, 116]
def nL (acc : Acc) (k : Wd) : Nat := (nO acc k).getD (if k = leastK ∧ leastK ∉ keysOf acc then 1 else 0)
def runW : Acc → List (Option (Wd × Wd)) → Option Acc
  | acc, [] => some acc
  | acc, o :: l => if okW acc o = true then runW (addW acc o) l else none
def colsOk (t : Wd) : Bool := (cuts [] t).all isNm
def goodP (t0 t1 t2 : Wd) (os : List (Option (Wd × Wd))) : Option Acc :=
  if (isNm t1 && (pickP t0 kindsCh).isSome && colsOk t2) = true then runW [] os else none
def zL : List Value := specL 0 (.string ⟨#[]⟩) (.slice none 0 0) (.slice none 0 0) (fun _ => 0) (fun _ => (false, 0, 0))
/- The words, as read. -/
structure WIn (w : World) (A : Option Addr) (n c : Nat) (bs : List ByteArray) (t0 t1 t2 : Wd) (os : List (Option (Wd × Wd))) : Prop where
  own : ∃ B, w.ownsRow B 9 1 (.slice A n c) n (bs.map Value.string)
  len : bs.length = n
  ol : n = os.length + 3
  n9 : n ≤ 9
  b0 : bs[0]? = some ⟨⟨t0⟩⟩
  b1 : bs[1]? = some ⟨⟨t1⟩⟩
  b2 : bs[2]? = some ⟨⟨t2⟩⟩
  m0 : t0 ∈ kindsL
  m1 : t1 ∈ namesL
  m2 : t2 ∈ namesL
  os : ∀ i o, os[i]? = some o → ∃ b, bs[i + 3]? = some b ∧ IsWord b o
section
variable {w w' : World} {A : Option Addr} {n c : Nat} {bs : List ByteArray} {t0 t1 t2 : Wd} {os : List (Option (Wd × Wd))}
theorem WIn.below (h : WIn w A n c bs t0 t1 t2 os) (hb : Below w.heap.size w w') : WIn w' A n c bs t0 t1 t2 os := by
  obtain ⟨B, ho⟩ := h.own
  exact ⟨⟨B, own_belowS ho hb⟩, h.len, h.ol, h.n9, h.b0, h.b1, h.b2, h.m0, h.m1, h.m2, h.os⟩
theorem WIn.at_ (h : WIn w A n c bs t0 t1 t2 os) : ∃ g, A = some ⟨g, 0, none⟩ ∧ g < w.heap.size ∧ n ≤ c ∧ ∀ W, Below w.heap.size w W → W.cell? ⟨g, 0, none⟩ = some (.string ⟨⟨t0⟩⟩) ∧ W.cell? ⟨g, 1, none⟩ = some (.string ⟨⟨t1⟩⟩) ∧ W.cell? ⟨g, 2, none⟩ = some (.string ⟨⟨t2⟩⟩) ∧ ∀ j b, bs[j]? = some b → W.cell? ⟨g, j, none⟩ = some (.string b) := by
  obtain ⟨B, ho⟩ := h.own
  have hn := h.ol
  obtain ⟨A', c', e, hc⟩ := own_slice ho
  injection e with _ _ e3
  subst e3
  obtain ⟨g, rfl, hb, hg, hcell⟩ := own_cell ho (by omega)
  refine ⟨g, rfl, hg, hc, fun W hW => ?_⟩
  have H : ∀ j b, bs[j]? = some b → W.cell? ⟨g, j, none⟩ = some (.string b) := fun j b hj => by
    have := hcell j (.string b) (by rw [List.getElem?_map, hj]; rfl)
    unfold World.cell? at this ⊢
    rw [hW.block g hg]
    exact this
  exact ⟨H 0 _ h.b0, H 1 _ h.b1, H 2 _ h.b2, H⟩
end
theorem MaxAt.lt {w : World} (h : MaxAt w) : 0 < w.heap.size := by
  obtain ⟨m, hm⟩ := h
  exact World.block_lt_of_cell? w _ hm
theorem run_storeCells_blk {w : World} {g : Nat} {t : TypeId} {old cs : Array Value} (h : Blk w g t old) (hi : (Tryz.prog.info? t).map (·.size) = some cs.size) (ho : old.size = cs.size) (h1 : cs.all (·.oneCell') = true) :
    (storeCells ⟨g, 0, none⟩ cs.toList 0).run Tryz.prog w = .ok () (w.setRow g cs) := by
  have := run_storeVar_row (P := Tryz.prog) w g t t old cs h hi ho h1
  cases hq : Tryz.prog.info? t with
  | none => simp [hq] at hi
  | some i =>
    have hs : cs.size = i.size := by simp [hq] at hi; omega
    simpa [storeVar, sizeOf, typeInfo, hq, Value.cells, hs] using this
theorem run_loadCells_blk {w : World} {g n : Nat} {t : TypeId} {cs : Array Value} (h : Blk w g t cs) (hn : cs.size = n) : (loadCellsFrom ⟨g, 0, none⟩ 0 n #[]).run Tryz.prog w = .ok cs w := by
  subst hn
  have := run_loadCells_list (P := Tryz.prog) w ⟨g, 0, none⟩ cs.toList (fun j v hv => by
    have hadd : (⟨g, 0, none⟩ : Addr).add j = ⟨g, j, none⟩ := by unfold Addr.add; split <;> simp_all
    rw [hadd, cell_of_row _ _ j cs t (0, 0) h]
    simpa using hv)
  simpa [loadCells] using this
theorem _root_.Go.Proofs.YtelehhfnomdneaaGreatDoor.Ut.Blk.keep {w w' : World} {g : Nat} {t : TypeId} {cs : Array Value} (h : Blk w g t cs) (hb : Below w.heap.size w w') : Blk w' g t cs := (hb.block g h.lt).trans h
theorem setRow_below {w w2 : World} {B g : Nat} {t : TypeId} {old cs : Array Value} (h : Below B w w2) (hg : Blk w2 g t old) (hB : B ≤ g) : Below B w (w2.setRow g cs) := by
  obtain ⟨_, ha, _⟩ := setRow_alt (cs := cs) hg
  exact ⟨ha.os.trans h.os, ha.tape.trans h.tape, ha.output.trans h.output, Nat.le_trans h.size ha.size, fun k hk => by
    by_cases hkw : k < w2.heap.size
    · exact (ha.block k hkw (by omega)).trans (h.block k hk)
    · have := hg.lt; omega⟩
def TSpecOut (w : World) (t0 t1 t2 : Wd) (os : List (Option (Wd × Wd))) (e : Ending) (w' : World) : Prop :=
  Below w.heap.size w w' ∧ match goodP t0 t1 t2 os with
  | none => e = .returned (.tuple #[.agg ⟨zL⟩, .int .i64 2])
  | some acc => ∃ cols sz, e = .returned (.tuple #[.agg ⟨specL ((pickP t0 kindsCh).getD 0) (.string ⟨⟨t1⟩⟩) cols sz (nL acc) (fD acc)⟩, .int .i64 0]) ∧ w'.ownsRow w.heap.size 9 1 cols (cuts [] t2).length ((cuts [] t2).map sv) ∧ w'.ownsRow w.heap.size 3 1 sz (sizesP acc).length (nat64 (sizesP acc))
theorem zL_facts : (∀ W, (zeroValue 42).run Tryz.prog W = .ok (.agg ⟨zL⟩) W) ∧ (⟨zL⟩ : Array Value).size = 70 ∧ (⟨zL⟩ : Array Value).all (·.oneCell') = true := ⟨zSpec, rfl, by rw [← Array.all_toList]; rfl⟩
section
variable {w : World} {A : Option Addr} {n c : Nat} {bs : List ByteArray} {t0 t1 t2 : Wd} {os : List (Option (Wd × Wd))}
set_option maxHeartbeats 4000000 in
set_option maxRecDepth 100000 in
theorem tspec_name (h : WIn w A n c bs t0 t1 t2 os) (hb : isNm t1 = false) :
    Calls Tryz.prog 6 #[.slice A n c] w fun e w' => TSpecOut w t0 t1 t2 os e w' := by
  have hg : goodP t0 t1 t2 os = none := by unfold goodP; rw [hb]; rfl
  unfold TSpecOut
  rw [hg]
  show Calls _ _ _ _ fun e w' => Below w.heap.size w w' ∧ e = .returned (.tuple #[.agg ⟨zL⟩, .int .i64 2])
  obtain ⟨g, rfl, hgl, hnc, hcell⟩ := h.at_
  have HC := Lib.hid hcell
  have hn3 : 3 ≤ n := by have := h.ol; omega
  have HN : Hid (∀ W, Calls Tryz.prog 10 #[.string ⟨⟨t1⟩⟩] W fun e w' => e = .returned (.bool false) ∧ Below W.heap.size W w') := Lib.hid fun W => hb ▸ named_any W h.m1
  obtain ⟨hz, hzs, hz1⟩ := zL_facts
  generalize (⟨zL⟩ : Array Value) = z at *
  have HZS := Lib.hid hzs
  have HZ1 := Lib.hid hz1
  clear h hb hg hcell hzs hz1
  go_enter Tryz.func6, Tryz.ntmps6
  obtain ⟨q0, q1, q2, _⟩ := HC.out _ (Below.refl _ _)
  have hd : decide ((n : Int) < 3) = false := decide_eq_false (by omega)
  go_wp2_with (first
    | (go_at_call 10; refine (HN.out _).mono ?_; rintro e w2 ⟨rfl, hb2⟩; have hZ2 := (Blk.new w 42 z).keep hb2; have hst := run_storeCells_blk hZ2 (HZS.out.symm ▸ infoSpec) rfl HZ1.out))
  refine bodyPost_ret (results_row2 rfl _ _ w.heap.size z _ _ rfl (setRow_alt hZ2).1 Tryz.underlying42 rfl (HZS.out.symm ▸ infoSpec)) rfl ⟨setRow_below (((Below.refl _ _).alloc (Nat.le_refl _) _).trans (hb2.mono (by simp))) hZ2 (Nat.le_refl _), rfl⟩
set_option maxHeartbeats 4000000 in
set_option maxRecDepth 100000 in
theorem tspec_kind (h : WIn w A n c bs t0 t1 t2 os) (hb : isNm t1 = true) (hk : pickP t0 kindsCh = none) :
    Calls Tryz.prog 6 #[.slice A n c] w fun e w' => TSpecOut w t0 t1 t2 os e w' := by
  have hg : goodP t0 t1 t2 os = none := by unfold goodP; rw [hb, hk]; rfl
  unfold TSpecOut
  rw [hg]
  show Calls _ _ _ _ fun e w' => Below w.heap.size w w' ∧ e = .returned (.tuple #[.agg ⟨zL⟩, .int .i64 2])
  obtain ⟨g, rfl, hgl, hnc, hcell⟩ := h.at_
  have HC := Lib.hid hcell
  have hn3 : 3 ≤ n := by have := h.ol; omega
  have HN : Hid (∀ W, Calls Tryz.prog 10 #[.string ⟨⟨t1⟩⟩] W fun e w' => e = .returned (.bool true) ∧ Below W.heap.size W w') := Lib.hid fun W => hb ▸ named_any W h.m1
  have HP : Hid (∀ (W : World) (g : Nat), Blk W g 76 (chC kindsCh) → Calls Tryz.prog 11 #[.slice (some ⟨g, 0, none⟩) 9 9, .string ⟨⟨t0⟩⟩] W fun e w' => e = .returned (.tuple #[.int .i64 0, .bool false]) ∧ Below W.heap.size W w') := Lib.hid fun W g hW => by
    have := tpick_any hW (n := 9) (c := 9) rfl (by decide) t0
    rw [hk] at this
    exact this
  obtain ⟨hz, hzs, hz1⟩ := zL_facts
  generalize (⟨zL⟩ : Array Value) = z at *
  have HZS := Lib.hid hzs
  have HZ1 := Lib.hid hz1
  clear h hb hk hg hcell hzs hz1
  go_enter Tryz.func6, Tryz.ntmps6
  obtain ⟨q0, q1, q2, _⟩ := HC.out _ (Below.refl _ _)
  have hj0 : (0 : Int) < (n : Int) := by omega
  have hi0 : 0 < n := by omega
  have hd : decide ((n : Int) < 3) = false := decide_eq_false (by omega)
  go_wp2_with (first
    | (go_at_call 10; refine (HN.out _).mono ?_; rintro e w2 ⟨rfl, hb2⟩; have hZ2 := Lib.hid ((Blk.new w 42 z).keep hb2); have hB2 : Hid (Below w.heap.size w w2) := Lib.hid (((Below.refl _ _).alloc (Nat.le_refl _) _).trans (hb2.mono (by simp))); clear hb2; obtain ⟨r0, r1, r2, _⟩ := HC.out _ hB2.out))
  go_region_held3 (fun w' => w'.cell? ⟨g, 0, none⟩ = some (.string ⟨⟨t0⟩⟩)) (simp [*]) (first
    | (go_at_call 12; refine (kinds_any _).mono ?_; rintro e w3 ⟨rfl, hk3, hb3⟩; have hK3 := Lib.hid hk3; have hb3' : Below w2.heap.size w2 w3 := (Below.refl _ _).drew.trans hb3; have hZ3 := Lib.hid (hZ2.out.keep hb3'); have hB3 : Hid (Below w.heap.size w w3) := Lib.hid (hB2.out.trans (hb3'.mono hB2.out.size)); clear hk3 hb3 hb3'; obtain ⟨s0, s1, s2, _⟩ := HC.out _ hB3.out)
    | (go_at_call 11; refine (HP.out _ _ hK3.out).mono ?_; rintro e w4 ⟨rfl, hb4⟩; have hZ4 := Lib.hid (hZ3.out.keep hb4); have hB4 : Hid (Below w.heap.size w w4) := Lib.hid (hB3.out.trans (hb4.mono hB3.out.size)); clear hb4; obtain ⟨u0, u1, u2, _⟩ := HC.out _ hB4.out; have hst := run_storeCells_blk hZ4.out (HZS.out.symm ▸ infoSpec) rfl HZ1.out))
  all_goals go_wp2
  all_goals exact bodyPost_ret (results_row2 rfl _ _ w.heap.size z _ _ rfl (setRow_alt hZ4.out).1 Tryz.underlying42 rfl (HZS.out.symm ▸ infoSpec)) rfl ⟨setRow_below hB4.out hZ4.out (Nat.le_refl _), rfl⟩
end
end Go.Proofs.YtelehhfnomdneaaGreatDoor.Sp
