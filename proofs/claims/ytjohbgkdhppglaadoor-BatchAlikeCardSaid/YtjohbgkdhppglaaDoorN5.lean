/-
  The program's small numbers: trim, fromWords, FromBytes, Len64, Bits; the statements' Nat.
-/
import Derived.Test.YtjohbgkdhppglaaDoorN4
import Derived.RegionTactic
import Derived.BigRegion
import Derived.Test.YtjohbgkdhppglaaDoorShelf
import Derived.Lib.BitFns
namespace Go.Proofs.YtjohbgkdhppglaaDoor
open Go.RowKit

/- A number below 2^64 as the program keeps it. -/
def nv (n : Nat) : Value := .agg #[.int .u64 (n : Int), .string ⟨#[]⟩]

theorem Tryd.infoNat : (Tryd.prog.info? 26).map (·.size) = some 2 := by kernel_rfl
theorem nat_cells (n : Int) : (#[.int .u64 n, .string ⟨#[]⟩] : Array Value).all (fun x => x.oneCell') = true := by simp [Value.oneCell']
set_option maxHeartbeats 400000 in
theorem ntrim_none (A : Option Addr) (c : Nat) (w : World) :
    Calls Tryd.prog 57 #[.slice A 0 c] w fun e w' => e = .returned (.slice A 0 c) ∧ w = w' := by
  go_enter Tryd.func57, Tryd.ntmps57
  go_wp2
  refine wp_loop_rounds 1 ?_
  rw [rounds_succ]
  go_wp2
  go_ret
  exact ⟨rfl, rfl⟩
set_option maxHeartbeats 400000 in
theorem ntrim_one (b o c n : Nat) (w : World) (hn : 0 < n) (h0 : w.cell? ⟨b, o, none⟩ = some (.int .u64 (n : Int))) :
    Calls Tryd.prog 57 #[.slice (some ⟨b, o, none⟩) 1 c] w fun e w' => e = .returned (.slice (some ⟨b, o, none⟩) 1 c) ∧ w = w' := by
  have hb : ((n : Int) == 0) = false := by simp; omega
  go_enter Tryd.func57, Tryd.ntmps57
  go_wp2
  refine wp_loop_rounds 1 ?_
  rw [rounds_succ]
  go_wp2
  go_ret
  exact ⟨rfl, rfl⟩
set_option maxHeartbeats 400000 in
theorem fromWords_none (A : Option Addr) (c : Nat) (w : World) :
    Calls Tryd.prog 45 #[.slice A 0 c] w fun e w' => e = .returned (.agg #[.int .u64 0, .string ⟨#[]⟩]) ∧ Below w.heap.size w w' := by
  go_enter Tryd.func45, Tryd.ntmps45
  go_wp2_with (go_at_call 57; refine (ntrim_none _ _ _).mono ?_; rintro e w' ⟨rfl, rfl⟩)
  exact bodyPost_ret (v := .agg #[.int .u64 0, .string ⟨#[]⟩]) (by simp [results, Tryd.results45, go_sem]) rfl ⟨rfl, (Below.refl _ _).alloc (Nat.le_refl _) _⟩
set_option maxHeartbeats 400000 in
theorem fromWords_one (b o c n : Nat) (w : World) (hn : 0 < n) (hlt : b < w.heap.size) (h0 : w.cell? ⟨b, o, none⟩ = some (.int .u64 (n : Int))) :
    Calls Tryd.prog 45 #[.slice (some ⟨b, o, none⟩) 1 c] w fun e w' => e = .returned (.agg #[.int .u64 (n : Int), .string ⟨#[]⟩]) ∧ Below w.heap.size w w' := by
  have hcw : ∀ o' : Obj, (w.alloc o').cell? ⟨b, o, none⟩ = some (.int .u64 (n : Int)) := fun o' => by rw [World.cell?_alloc_lt _ _ _ hlt]; exact h0
  go_enter Tryd.func45, Tryd.ntmps45
  go_wp2_with (go_at_call 57; refine (ntrim_one b o c n _ hn (hcw _)).mono ?_; rintro e w' ⟨rfl, rfl⟩)
  exact bodyPost_ret (v := .agg #[.int .u64 (n : Int), .string ⟨#[]⟩]) (by simp [results, Tryd.results45, go_sem]) rfl ⟨rfl, (Below.refl _ _).alloc (Nat.le_refl _) _⟩

theorem cell_new2 (w : World) (A : Obj) (x : Value) (t : TypeId) : ((w.alloc A).alloc (.cells #[x] t)).drew.cell? ⟨w.heap.size + 1, 0, none⟩ = some x := by
  have h : Blk ((w.alloc A).alloc (.cells #[x] t)) (w.heap.size + 1) t #[x] := by
    have := Blk.new (w.alloc A) t #[x]; simpa using this
  exact h.cell 0
set_option maxHeartbeats 1000000 in
theorem fromBytes_any (v : Value) (n : Nat) (w : World) (hv : RB w v n) :
    Calls Tryd.prog 33 #[v] w fun e w' => e = .returned (.agg #[.int .u64 (n : Int), .string ⟨#[]⟩]) ∧ Below w.heap.size w w' := by
  have hmk : ∀ W, (Instr.makeSlice 86 (.int .i64 1) (.int .i64 1)).run Tryd.prog W = .ok (.slice (some ⟨W.heap.size, 0, none⟩) 1 1) (W.alloc (.cells #[.int .u64 0] 24)) := fun W => by kernel_rfl
  have hmk0 : ∀ W, (Instr.makeSlice 86 (.int .i64 0) (.int .i64 0)).run Tryd.prog W = .ok (.slice (some ⟨W.heap.size, 0, none⟩) 0 0) (W.alloc (.cells #[] 24)) := fun W => by kernel_rfl
  obtain ⟨hn, ⟨e0, A, c, rfl⟩ | ⟨hp, b, o, c, rfl, _, hlt, hc⟩⟩ := hv
  · subst e0
    go_enter Tryd.func33, Tryd.ntmps33
    go_wp2
    refine wp_loop_rounds 1 ?_
    rw [rounds_succ]
    go_wp2_with (first
      | (go_at_call 45; refine (fromWords_none _ _ _).mono ?_; rintro e w2 ⟨rfl, hb2⟩; have HBk : Hid (Blk w2 w.heap.size 26 #[.int .u64 0, .string ⟨#[]⟩]) := Blk.below ((Blk.new w _ _).alloc _) hb2 (by simp; omega); have HB2 := Lib.hid hb2; clear hb2)
      | (refine wpList_store_row rfl 26 (.tmp 2) (.tmp 37) rfl w.heap.size #[.int .u64 0, .string ⟨#[]⟩] rfl rfl 26 _ HBk.out Tryd.infoNat rfl (nat_cells _) ?_))
    refine bodyPost_ret (v := .agg #[.int .u64 0, .string ⟨#[]⟩]) ?_ rfl ⟨rfl, ?_⟩
    · exact results_cell_row (p := 2) rfl _ _ w.heap.size 26 #[.int .u64 0, .string ⟨#[]⟩] (0, 0) _ rfl (setRow_heap _ _ _ _ _ _ HBk.out) Tryd.underlying26 rfl Tryd.infoNat
    · have hb := ((Below.refl w.heap.size w).alloc (Nat.le_refl _) (.cells #[.int .u64 0, .string ⟨#[]⟩] 26)).alloc (by simp) (.cells #[] 24)
      exact below_setRow (hb.trans (HB2.out.mono (by simp; omega))) (Nat.le_refl _) _
  · have hcw : ∀ o1 o2 : Obj, ((w.alloc o1).alloc o2).cell? ⟨b, o, none⟩ = some (.int .u8 (n : Int)) := fun o1 o2 => by rw [World.cell?_alloc_lt _ _ _ (by simp; omega), World.cell?_alloc_lt _ _ _ hlt]; exact hc
    have hbo : bits .or .u64 0 (n : Int) = (n : Int) := or_zero n (by omega)
    have h256 : (n : Int) < 256 := by omega
    go_enter Tryd.func33, Tryd.ntmps33
    go_wp2
    refine wp_loop_rounds 2 ?_
    rw [rounds_succ]
    go_wp2
    go_region
    go_wp2
    rw [rounds_succ]
    have HCN := Lib.hid (cell_new2 w (.cells #[.int .u64 0, .string ⟨#[]⟩] 26) (.int .u64 (n : Int)) 24)
    have HBN : Hid (Blk ((w.alloc (.cells #[.int .u64 0, .string ⟨#[]⟩] 26)).alloc (.cells #[.int .u64 (n : Int)] 24)).drew w.heap.size 26 #[.int .u64 0, .string ⟨#[]⟩]) := Blk.alloc (Blk.new w _ _) _
    go_wp2_with (first
      | (go_at_call 45; refine (fromWords_one (w.heap.size + 1) 0 1 n _ hp (by simp) HCN.out).mono ?_; rintro e w2 ⟨rfl, hb2⟩; have HBk : Hid (Blk w2 w.heap.size 26 #[.int .u64 0, .string ⟨#[]⟩]) := Blk.below HBN.out hb2 (by simp; omega); have HB2 := Lib.hid hb2; clear hb2)
      | (refine wpList_store_row rfl 26 (.tmp 2) (.tmp 37) rfl w.heap.size #[.int .u64 (n : Int), .string ⟨#[]⟩] rfl rfl 26 _ HBk.out Tryd.infoNat rfl (nat_cells _) ?_))
    refine bodyPost_ret (v := .agg #[.int .u64 (n : Int), .string ⟨#[]⟩]) ?_ rfl ⟨rfl, ?_⟩
    · exact results_cell_row (p := 2) rfl _ _ w.heap.size 26 #[.int .u64 (n : Int), .string ⟨#[]⟩] (0, 0) _ rfl (setRow_heap _ _ _ _ _ _ HBk.out) Tryd.underlying26 rfl Tryd.infoNat
    · have hb := (((Below.refl w.heap.size w).alloc (Nat.le_refl _) (.cells #[.int .u64 0, .string ⟨#[]⟩] 26)).alloc (by simp) (.cells #[.int .u64 (n : Int)] 24)).drew
      exact below_setRow (hb.trans (HB2.out.mono (by simp; omega))) (Nat.le_refl _) _

theorem bl_eq : ∀ n : Nat, n < 18446744073709551616 → Lib.bitLen n = bl n := by
  intro n
  induction n using Nat.strongRecOn with
  | _ n ih =>
    intro h
    by_cases h0 : n = 0
    · subst h0; rfl
    · rw [Lib.bitLen_half n h0 h, bl_half (by omega), ih (n / 2) (by omega) (by omega)]; omega
theorem len64_any (n : Nat) (w : World) (hn : n < 18446744073709551616) :
    Calls Tryd.prog 37 #[.int .u64 (n : Int)] w fun e w' => e = .returned (.int .i64 (bl n : Int)) ∧ w = w' := by
  refine (Tryd.bits_Len64 (n : Int) w (by omega) (by omega)).mono ?_
  rintro e w' ⟨rfl, rfl⟩
  rw [Int.toNat_natCast, bl_eq n hn]
  exact ⟨rfl, rfl⟩

set_option maxHeartbeats 400000 in
theorem handNat_any (v : Value) (n : Nat) (w : World) (hv : RN w v n) (h256 : n < 256) :
    Calls Tryd.prog 22 #[v] w fun e w' => e = .returned (.agg #[.int .u64 (n : Int), .string ⟨#[]⟩]) ∧ Below w.heap.size w w' := by
  have R := Lib.hid (hv.alloc (.cells #[.int .u64 0, .string ⟨#[]⟩] 26))
  clear hv
  go_enter Tryd.func22, Tryd.ntmps22
  go_wp2_with (first
    | (go_at_call 34; refine (natBytes_any v n _ R.out h256).mono ?_; rintro e w2 ⟨r, rfl, hr, hb2⟩; have HR := Lib.hid hr; have HB2 := Lib.hid hb2; have HBk2 : Hid (Blk w2 w.heap.size 26 #[.int .u64 0, .string ⟨#[]⟩]) := Blk.below (Blk.new w _ _) hb2 (by simp); clear hr hb2)
    | (go_at_call 33; refine (fromBytes_any r n _ HR.out).mono ?_; rintro e w3 ⟨rfl, hb3⟩; have HB3 := Lib.hid hb3; have HBk := Lib.hid (HBk2.out.below hb3 HBk2.out.lt); clear hb3)
    | (refine wpList_store_row rfl 26 (.tmp 2) (.tmp 5) rfl w.heap.size #[.int .u64 (n : Int), .string ⟨#[]⟩] rfl rfl 26 _ HBk.out Tryd.infoNat rfl (nat_cells _) ?_))
  refine bodyPost_ret (v := .agg #[.int .u64 (n : Int), .string ⟨#[]⟩]) ?_ rfl ⟨rfl, ?_⟩
  · exact results_cell_row (p := 2) rfl _ _ w.heap.size 26 #[.int .u64 (n : Int), .string ⟨#[]⟩] (0, 0) _ rfl (setRow_heap _ _ _ _ _ _ HBk.out) Tryd.underlying26 rfl Tryd.infoNat
  · have hb := ((Below.refl w.heap.size w).alloc (Nat.le_refl _) (.cells #[.int .u64 0, .string ⟨#[]⟩] 26)).trans (HB2.out.mono (by simp))
    exact below_setRow (hb.trans (HB3.out.mono hb.size)) (Nat.le_refl _) _
end Go.Proofs.YtjohbgkdhppglaaDoor
