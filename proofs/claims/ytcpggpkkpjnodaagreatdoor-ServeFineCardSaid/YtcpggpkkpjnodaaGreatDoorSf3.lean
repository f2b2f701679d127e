/-
  The plain Fine: its contract.
-/
import Derived.Test.YtcpggpkkpjnodaaGreatDoorSf2
namespace Go.Proofs.YtcpggpkkpjnodaaGreatDoor
open Go.RowKit

set_option maxHeartbeats 4000000 in
theorem shelfFine_l0 (kind id version time : Int) (name : ByteArray) (A : Option Addr) (n c : Nat) (k word : Int) (hk : k = 0) (w : World) (hr : CellsIn w A n (cellsL true k word n))
    (HS : Hid (∀ W, Calls Tryz.prog 16 #[.agg ⟨[.bool false, .int .u64 k, .string ⟨#[]⟩, .int .u64 0, .string ⟨#[]⟩]⟩] W fun e w' => e = .returned (.int .i64 0) ∧ Below W.heap.size W w')) :
    Calls Tryz.prog 8 #[.agg ⟨[.int .i64 kind, .int .i64 id, .int .i64 version, .int .i64 time, .string name, .slice none 0 0, .slice A n c]⟩] w fun e w' => e = .returned (.bool (fineB kind id version time name.size n true k word)) ∧ Below w.heap.size w w' := by
  have HR := Lib.hid hr
  have HK := Lib.hid hk
  clear hr hk
  go_enter Tryz.func8, Tryz.ntmps8
  go_wp2_with fail
  all_goals first
    | (go_ret; refine ⟨ret_bool ?_, (Below.refl _ _).alloc (Nat.le_refl _) _⟩; symm; rw [Bool.eq_false_iff]; intro hh; simp only [fineB, Bool.and_eq_true, Bool.or_eq_true, decide_eq_true_eq] at hh; (try simp only [Bool.not_eq_true', decide_eq_false_iff_not, bne_iff_ne] at *); omega)
    | skip
  go_loopw [3] (fun i wr => ∃ j : Nat, j ≤ n ∧ i = .int .i64 j ∧ Below (w.heap.size + 1) (w.alloc (.cells ⟨[.int .i64 kind, .int .i64 id, .int .i64 version, .int .i64 time, .string name, .slice none 0 0, .slice A n c]⟩ 25)) wr ∧ (0 < j → cellOk true k word = true)) (fun i _ => n - (intOf i).toNat)
  case atStart => exact ⟨0, Nat.zero_le _, rfl, Below.refl _ _, fun h => by omega⟩
  case round =>
    obtain ⟨j, hj, rfl, hbel, hok⟩ := hrel
    have KB := Blk.below (Blk.new w _ _) hbel (by omega)
    have d0 := KB.cell 0; have d5 := KB.cell 5; have d6 := KB.cell 6
    simp only [List.getElem?_toArray, List.getElem?_cons_zero, List.getElem?_cons_succ] at d0 d5 d6
    clear KB
    have HBel := Lib.hid hbel
    clear hbel
    by_cases hlt : j < n
    · obtain ⟨b, o, hA, hblk, c0, c1, c2, c3, c4, c5, c6⟩ := HR.out.at7 hlt (wr := wr) (fun p hp => by rw [HBel.out.cell (Nat.lt_succ_of_lt hp), World.cell?_alloc_lt w _ _ hp])
      subst hA
      have k1 : Hid (Below w.heap.size w wr) := ((Below.refl _ _).alloc (Nat.le_refl _) _).trans (HBel.out.mono (by omega))
      go_wp2_with (go_at_call 16; refine (HS.out _).mono ?_; rintro e w2 ⟨rfl, hb⟩; have e0 := (Blk.below (Blk.new wr _ _) hb (Blk.new wr _ _).lt).cell 0; have e6 := (Blk.below (Blk.new wr _ _) hb (Blk.new wr _ _).lt).cell 6; simp only [List.getElem?_toArray, List.getElem?_cons_zero, List.getElem?_cons_succ] at e0 e6; have HB := Lib.hid hb; clear hb)
      all_goals first
        | (go_ret
           refine ⟨ret_bool ?_, (k1.out.alloc k1.out.size _).trans (HB.out.mono (by have := k1.out.size; simp; omega))⟩
           have hc : cellOk true k word = false := by
             have hk := HK.out
             (try simp only [bne_iff_ne] at *)
             rw [Bool.eq_false_iff]; intro hcc
             simp [cellOk, hk] at hcc <;> omega
           symm; rw [Bool.eq_false_iff]; intro hh
           simp only [fineB, Bool.and_eq_true, Bool.or_eq_true, decide_eq_true_eq, hc] at hh
           obtain ⟨_, h⟩ := hh
           rcases h with h | h
           · omega
           · exact absurd h.2 (by decide))
        | skip
      all_goals (
        have hyes : cellOk true k word = true := by
          have hk := HK.out
          (try simp only [bne_eq_false_iff_eq] at *)
          simp [cellOk, hk] <;> omega
        have k2 := (HBel.out.alloc (by have := HBel.out.size; simpa using this) (.cells #[.bool true, .bool false, .int .u64 k, .string ⟨#[]⟩, .int .u64 0, .string ⟨#[]⟩, .int .i64 word] 36)).trans (HB.out.mono (by have := HBel.out.size; simp at this ⊢; omega))
        go_roundw
        case rel => exact ⟨j + 1, by omega, by go_num, k2, fun _ => hyes⟩
        case measure => simp [intOf]; omega)
    · go_wp2_with fail
      all_goals (
        go_ret
        refine ⟨ret_bool ?_, ((Below.refl _ _).alloc (Nat.le_refl _) _).trans (HBel.out.mono (by omega))⟩)
      · symm
        simp only [fineB, Bool.and_eq_true, Bool.or_eq_true, decide_eq_true_eq]
        exact ⟨⟨⟨⟨⟨⟨by omega, by omega⟩, by omega⟩, by omega⟩, by omega⟩, by omega⟩, .inl (by omega)⟩
      · have hc := hok (by omega)
        rw [Bool.eq_iff_iff]
        simp only [fineB, Bool.and_eq_true, Bool.or_eq_true, decide_eq_true_eq, beq_iff_eq, hc]
        constructor
        · intro h
          exact ⟨⟨⟨⟨⟨⟨by omega, by omega⟩, by omega⟩, by omega⟩, by omega⟩, by omega⟩, .inr ⟨by omega, trivial⟩⟩
        · rintro ⟨_, h | h⟩
          · omega
          · exact .inr h.1
set_option maxHeartbeats 4000000 in
theorem shelfFine_l1 (kind id version time : Int) (name : ByteArray) (A : Option Addr) (n c : Nat) (k word : Int) (hk : ¬ k = 0) (w : World) (hr : CellsIn w A n (cellsL true k word n))
    (HS : Hid (∀ W, Calls Tryz.prog 16 #[.agg ⟨[.bool false, .int .u64 k, .string ⟨#[]⟩, .int .u64 0, .string ⟨#[]⟩]⟩] W fun e w' => e = .returned (.int .i64 1) ∧ Below W.heap.size W w')) :
    Calls Tryz.prog 8 #[.agg ⟨[.int .i64 kind, .int .i64 id, .int .i64 version, .int .i64 time, .string name, .slice none 0 0, .slice A n c]⟩] w fun e w' => e = .returned (.bool (fineB kind id version time name.size n true k word)) ∧ Below w.heap.size w w' := by
  have HR := Lib.hid hr
  have HK := Lib.hid hk
  clear hr hk
  go_enter Tryz.func8, Tryz.ntmps8
  go_wp2_with fail
  all_goals first
    | (go_ret; refine ⟨ret_bool ?_, (Below.refl _ _).alloc (Nat.le_refl _) _⟩; symm; rw [Bool.eq_false_iff]; intro hh; simp only [fineB, Bool.and_eq_true, Bool.or_eq_true, decide_eq_true_eq] at hh; (try simp only [Bool.not_eq_true', decide_eq_false_iff_not, bne_iff_ne] at *); omega)
    | skip
  go_loopw [3] (fun i wr => ∃ j : Nat, j ≤ n ∧ i = .int .i64 j ∧ Below (w.heap.size + 1) (w.alloc (.cells ⟨[.int .i64 kind, .int .i64 id, .int .i64 version, .int .i64 time, .string name, .slice none 0 0, .slice A n c]⟩ 25)) wr ∧ (0 < j → cellOk true k word = true)) (fun i _ => n - (intOf i).toNat)
  case atStart => exact ⟨0, Nat.zero_le _, rfl, Below.refl _ _, fun h => by omega⟩
  case round =>
    obtain ⟨j, hj, rfl, hbel, hok⟩ := hrel
    have KB := Blk.below (Blk.new w _ _) hbel (by omega)
    have d0 := KB.cell 0; have d5 := KB.cell 5; have d6 := KB.cell 6
    simp only [List.getElem?_toArray, List.getElem?_cons_zero, List.getElem?_cons_succ] at d0 d5 d6
    clear KB
    have HBel := Lib.hid hbel
    clear hbel
    by_cases hlt : j < n
    · obtain ⟨b, o, hA, hblk, c0, c1, c2, c3, c4, c5, c6⟩ := HR.out.at7 hlt (wr := wr) (fun p hp => by rw [HBel.out.cell (Nat.lt_succ_of_lt hp), World.cell?_alloc_lt w _ _ hp])
      subst hA
      have k1 : Hid (Below w.heap.size w wr) := ((Below.refl _ _).alloc (Nat.le_refl _) _).trans (HBel.out.mono (by omega))
      go_wp2_with (go_at_call 16; refine (HS.out _).mono ?_; rintro e w2 ⟨rfl, hb⟩; have e0 := (Blk.below (Blk.new wr _ _) hb (Blk.new wr _ _).lt).cell 0; have e6 := (Blk.below (Blk.new wr _ _) hb (Blk.new wr _ _).lt).cell 6; simp only [List.getElem?_toArray, List.getElem?_cons_zero, List.getElem?_cons_succ] at e0 e6; have HB := Lib.hid hb; clear hb)
      all_goals first
        | (go_ret
           refine ⟨ret_bool ?_, (k1.out.alloc k1.out.size _).trans (HB.out.mono (by have := k1.out.size; simp; omega))⟩
           have hc : cellOk true k word = false := by
             have hk := HK.out
             (try simp only [bne_iff_ne] at *)
             rw [Bool.eq_false_iff]; intro hcc
             simp [cellOk, hk] at hcc <;> omega
           symm; rw [Bool.eq_false_iff]; intro hh
           simp only [fineB, Bool.and_eq_true, Bool.or_eq_true, decide_eq_true_eq, hc] at hh
           obtain ⟨_, h⟩ := hh
           rcases h with h | h
           · omega
           · exact absurd h.2 (by decide))
        | skip
      all_goals (
        have hyes : cellOk true k word = true := by
          have hk := HK.out
          (try simp only [bne_eq_false_iff_eq] at *)
          simp [cellOk, hk] <;> omega
        have k2 := (HBel.out.alloc (by have := HBel.out.size; simpa using this) (.cells #[.bool true, .bool false, .int .u64 k, .string ⟨#[]⟩, .int .u64 0, .string ⟨#[]⟩, .int .i64 word] 36)).trans (HB.out.mono (by have := HBel.out.size; simp at this ⊢; omega))
        go_roundw
        case rel => exact ⟨j + 1, by omega, by go_num, k2, fun _ => hyes⟩
        case measure => simp [intOf]; omega)
    · go_wp2_with fail
      all_goals (
        go_ret
        refine ⟨ret_bool ?_, ((Below.refl _ _).alloc (Nat.le_refl _) _).trans (HBel.out.mono (by omega))⟩)
      · symm
        simp only [fineB, Bool.and_eq_true, Bool.or_eq_true, decide_eq_true_eq]
        exact ⟨⟨⟨⟨⟨⟨by omega, by omega⟩, by omega⟩, by omega⟩, by omega⟩, by omega⟩, .inl (by omega)⟩
      · have hc := hok (by omega)
        rw [Bool.eq_iff_iff]
        simp only [fineB, Bool.and_eq_true, Bool.or_eq_true, decide_eq_true_eq, beq_iff_eq, hc]
        constructor
        · intro h
          exact ⟨⟨⟨⟨⟨⟨by omega, by omega⟩, by omega⟩, by omega⟩, by omega⟩, by omega⟩, .inr ⟨by omega, trivial⟩⟩
        · rintro ⟨_, h | h⟩
          · omega
          · exact .inr h.1
set_option maxHeartbeats 4000000 in
theorem shelfFine_n0 (kind id version time : Int) (name : ByteArray) (A : Option Addr) (n c : Nat) (k word : Int) (hk : k = 0) (w : World) (hr : CellsIn w A n (cellsL false k word n))
    (HS : Hid (∀ W, Calls Tryz.prog 16 #[.agg ⟨[.bool false, .int .u64 k, .string ⟨#[]⟩, .int .u64 0, .string ⟨#[]⟩]⟩] W fun e w' => e = .returned (.int .i64 0) ∧ Below W.heap.size W w')) :
    Calls Tryz.prog 8 #[.agg ⟨[.int .i64 kind, .int .i64 id, .int .i64 version, .int .i64 time, .string name, .slice none 0 0, .slice A n c]⟩] w fun e w' => e = .returned (.bool (fineB kind id version time name.size n false k word)) ∧ Below w.heap.size w w' := by
  have HR := Lib.hid hr
  have HK := Lib.hid hk
  clear hr hk
  go_enter Tryz.func8, Tryz.ntmps8
  go_wp2_with fail
  all_goals first
    | (go_ret; refine ⟨ret_bool ?_, (Below.refl _ _).alloc (Nat.le_refl _) _⟩; symm; rw [Bool.eq_false_iff]; intro hh; simp only [fineB, Bool.and_eq_true, Bool.or_eq_true, decide_eq_true_eq] at hh; (try simp only [Bool.not_eq_true', decide_eq_false_iff_not, bne_iff_ne] at *); omega)
    | skip
  go_loopw [3] (fun i wr => ∃ j : Nat, j ≤ n ∧ i = .int .i64 j ∧ Below (w.heap.size + 1) (w.alloc (.cells ⟨[.int .i64 kind, .int .i64 id, .int .i64 version, .int .i64 time, .string name, .slice none 0 0, .slice A n c]⟩ 25)) wr ∧ (0 < j → cellOk false k word = true)) (fun i _ => n - (intOf i).toNat)
  case atStart => exact ⟨0, Nat.zero_le _, rfl, Below.refl _ _, fun h => by omega⟩
  case round =>
    obtain ⟨j, hj, rfl, hbel, hok⟩ := hrel
    have KB := Blk.below (Blk.new w _ _) hbel (by omega)
    have d0 := KB.cell 0; have d5 := KB.cell 5; have d6 := KB.cell 6
    simp only [List.getElem?_toArray, List.getElem?_cons_zero, List.getElem?_cons_succ] at d0 d5 d6
    clear KB
    have HBel := Lib.hid hbel
    clear hbel
    by_cases hlt : j < n
    · obtain ⟨b, o, hA, hblk, c0, c1, c2, c3, c4, c5, c6⟩ := HR.out.at7 hlt (wr := wr) (fun p hp => by rw [HBel.out.cell (Nat.lt_succ_of_lt hp), World.cell?_alloc_lt w _ _ hp])
      subst hA
      have k1 : Hid (Below w.heap.size w wr) := ((Below.refl _ _).alloc (Nat.le_refl _) _).trans (HBel.out.mono (by omega))
      go_wp2_with (go_at_call 16; refine (HS.out _).mono ?_; rintro e w2 ⟨rfl, hb⟩; have e0 := (Blk.below (Blk.new wr _ _) hb (Blk.new wr _ _).lt).cell 0; have e6 := (Blk.below (Blk.new wr _ _) hb (Blk.new wr _ _).lt).cell 6; simp only [List.getElem?_toArray, List.getElem?_cons_zero, List.getElem?_cons_succ] at e0 e6; have HB := Lib.hid hb; clear hb)
      all_goals first
        | (go_ret
           refine ⟨ret_bool ?_, (k1.out.alloc k1.out.size _).trans (HB.out.mono (by have := k1.out.size; simp; omega))⟩
           have hc : cellOk false k word = false := by
             have hk := HK.out
             (try simp only [bne_iff_ne] at *)
             rw [Bool.eq_false_iff]; intro hcc
             simp [cellOk, hk] at hcc <;> omega
           symm; rw [Bool.eq_false_iff]; intro hh
           simp only [fineB, Bool.and_eq_true, Bool.or_eq_true, decide_eq_true_eq, hc] at hh
           obtain ⟨_, h⟩ := hh
           rcases h with h | h
           · omega
           · exact absurd h.2 (by decide))
        | skip
      all_goals (
        have hyes : cellOk false k word = true := by
          have hk := HK.out
          (try simp only [bne_eq_false_iff_eq] at *)
          simp [cellOk, hk] <;> omega
        have k2 := (HBel.out.alloc (by have := HBel.out.size; simpa using this) (.cells #[.bool false, .bool false, .int .u64 k, .string ⟨#[]⟩, .int .u64 0, .string ⟨#[]⟩, .int .i64 word] 36)).trans (HB.out.mono (by have := HBel.out.size; simp at this ⊢; omega))
        go_roundw
        case rel => exact ⟨j + 1, by omega, by go_num, k2, fun _ => hyes⟩
        case measure => simp [intOf]; omega)
    · go_wp2_with fail
      all_goals (
        go_ret
        refine ⟨ret_bool ?_, ((Below.refl _ _).alloc (Nat.le_refl _) _).trans (HBel.out.mono (by omega))⟩)
      · symm
        simp only [fineB, Bool.and_eq_true, Bool.or_eq_true, decide_eq_true_eq]
        exact ⟨⟨⟨⟨⟨⟨by omega, by omega⟩, by omega⟩, by omega⟩, by omega⟩, by omega⟩, .inl (by omega)⟩
      · have hc := hok (by omega)
        rw [Bool.eq_iff_iff]
        simp only [fineB, Bool.and_eq_true, Bool.or_eq_true, decide_eq_true_eq, beq_iff_eq, hc]
        constructor
        · intro h
          exact ⟨⟨⟨⟨⟨⟨by omega, by omega⟩, by omega⟩, by omega⟩, by omega⟩, by omega⟩, .inr ⟨by omega, trivial⟩⟩
        · rintro ⟨_, h | h⟩
          · omega
          · exact .inr h.1
set_option maxHeartbeats 4000000 in
theorem shelfFine_n1 (kind id version time : Int) (name : ByteArray) (A : Option Addr) (n c : Nat) (k word : Int) (hk : ¬ k = 0) (w : World) (hr : CellsIn w A n (cellsL false k word n))
    (HS : Hid (∀ W, Calls Tryz.prog 16 #[.agg ⟨[.bool false, .int .u64 k, .string ⟨#[]⟩, .int .u64 0, .string ⟨#[]⟩]⟩] W fun e w' => e = .returned (.int .i64 1) ∧ Below W.heap.size W w')) :
    Calls Tryz.prog 8 #[.agg ⟨[.int .i64 kind, .int .i64 id, .int .i64 version, .int .i64 time, .string name, .slice none 0 0, .slice A n c]⟩] w fun e w' => e = .returned (.bool (fineB kind id version time name.size n false k word)) ∧ Below w.heap.size w w' := by
  have HR := Lib.hid hr
  have HK := Lib.hid hk
  clear hr hk
  go_enter Tryz.func8, Tryz.ntmps8
  go_wp2_with fail
  all_goals first
    | (go_ret; refine ⟨ret_bool ?_, (Below.refl _ _).alloc (Nat.le_refl _) _⟩; symm; rw [Bool.eq_false_iff]; intro hh; simp only [fineB, Bool.and_eq_true, Bool.or_eq_true, decide_eq_true_eq] at hh; (try simp only [Bool.not_eq_true', decide_eq_false_iff_not, bne_iff_ne] at *); omega)
    | skip
  go_loopw [3] (fun i wr => ∃ j : Nat, j ≤ n ∧ i = .int .i64 j ∧ Below (w.heap.size + 1) (w.alloc (.cells ⟨[.int .i64 kind, .int .i64 id, .int .i64 version, .int .i64 time, .string name, .slice none 0 0, .slice A n c]⟩ 25)) wr ∧ (0 < j → cellOk false k word = true)) (fun i _ => n - (intOf i).toNat)
  case atStart => exact ⟨0, Nat.zero_le _, rfl, Below.refl _ _, fun h => by omega⟩
  case round =>
    obtain ⟨j, hj, rfl, hbel, hok⟩ := hrel
    have KB := Blk.below (Blk.new w _ _) hbel (by omega)
    have d0 := KB.cell 0; have d5 := KB.cell 5; have d6 := KB.cell 6
    simp only [List.getElem?_toArray, List.getElem?_cons_zero, List.getElem?_cons_succ] at d0 d5 d6
    clear KB
    have HBel := Lib.hid hbel
    clear hbel
    by_cases hlt : j < n
    · obtain ⟨b, o, hA, hblk, c0, c1, c2, c3, c4, c5, c6⟩ := HR.out.at7 hlt (wr := wr) (fun p hp => by rw [HBel.out.cell (Nat.lt_succ_of_lt hp), World.cell?_alloc_lt w _ _ hp])
      subst hA
      have k1 : Hid (Below w.heap.size w wr) := ((Below.refl _ _).alloc (Nat.le_refl _) _).trans (HBel.out.mono (by omega))
      go_wp2_with (go_at_call 16; refine (HS.out _).mono ?_; rintro e w2 ⟨rfl, hb⟩; have e0 := (Blk.below (Blk.new wr _ _) hb (Blk.new wr _ _).lt).cell 0; have e6 := (Blk.below (Blk.new wr _ _) hb (Blk.new wr _ _).lt).cell 6; simp only [List.getElem?_toArray, List.getElem?_cons_zero, List.getElem?_cons_succ] at e0 e6; have HB := Lib.hid hb; clear hb)
      all_goals first
        | (go_ret
           refine ⟨ret_bool ?_, (k1.out.alloc k1.out.size _).trans (HB.out.mono (by have := k1.out.size; simp; omega))⟩
           have hc : cellOk false k word = false := by
             have hk := HK.out
             (try simp only [bne_iff_ne] at *)
             rw [Bool.eq_false_iff]; intro hcc
             simp [cellOk, hk] at hcc <;> omega
           symm; rw [Bool.eq_false_iff]; intro hh
           simp only [fineB, Bool.and_eq_true, Bool.or_eq_true, decide_eq_true_eq, hc] at hh
           obtain ⟨_, h⟩ := hh
           rcases h with h | h
           · omega
           · exact absurd h.2 (by decide))
        | skip
      all_goals (
        have hyes : cellOk false k word = true := by
          have hk := HK.out
          (try simp only [bne_eq_false_iff_eq] at *)
          simp [cellOk, hk] <;> omega
        have k2 := (HBel.out.alloc (by have := HBel.out.size; simpa using this) (.cells #[.bool false, .bool false, .int .u64 k, .string ⟨#[]⟩, .int .u64 0, .string ⟨#[]⟩, .int .i64 word] 36)).trans (HB.out.mono (by have := HBel.out.size; simp at this ⊢; omega))
        go_roundw
        case rel => exact ⟨j + 1, by omega, by go_num, k2, fun _ => hyes⟩
        case measure => simp [intOf]; omega)
    · go_wp2_with fail
      all_goals (
        go_ret
        refine ⟨ret_bool ?_, ((Below.refl _ _).alloc (Nat.le_refl _) _).trans (HBel.out.mono (by omega))⟩)
      · symm
        simp only [fineB, Bool.and_eq_true, Bool.or_eq_true, decide_eq_true_eq]
        exact ⟨⟨⟨⟨⟨⟨by omega, by omega⟩, by omega⟩, by omega⟩, by omega⟩, by omega⟩, .inl (by omega)⟩
      · have hc := hok (by omega)
        rw [Bool.eq_iff_iff]
        simp only [fineB, Bool.and_eq_true, Bool.or_eq_true, decide_eq_true_eq, beq_iff_eq, hc]
        constructor
        · intro h
          exact ⟨⟨⟨⟨⟨⟨by omega, by omega⟩, by omega⟩, by omega⟩, by omega⟩, by omega⟩, .inr ⟨by omega, trivial⟩⟩
        · rintro ⟨_, h | h⟩
          · omega
          · exact .inr h.1
theorem shelfFine_any (kind id version time : Int) (name : ByteArray) (A : Option Addr) (n c : Nat) (lacks : Bool) (k word : Int) (h0 : 0 ≤ k) (h1 : k < 3) (w : World) (hr : CellsIn w A n (cellsL lacks k word n)) :
    Calls Tryz.prog 8 #[.agg ⟨[.int .i64 kind, .int .i64 id, .int .i64 version, .int .i64 time, .string name, .slice none 0 0, .slice A n c]⟩] w fun e w' => e = .returned (.bool (fineB kind id version time name.size n lacks k word)) ∧ Below w.heap.size w w' := by
  have HS := fun W => sign_any k h0 h1 W
  by_cases hk : k = 0
  · have e : sgn k = 0 := if_pos hk
    rw [e] at HS
    cases lacks with
    | true => exact shelfFine_l0 kind id version time name A n c k word hk w hr HS
    | false => exact shelfFine_n0 kind id version time name A n c k word hk w hr HS
  · have e : sgn k = 1 := if_neg hk
    rw [e] at HS
    cases lacks with
    | true => exact shelfFine_l1 kind id version time name A n c k word hk w hr HS
    | false => exact shelfFine_n1 kind id version time name A n c k word hk w hr HS
end Go.Proofs.YtcpggpkkpjnodaaGreatDoor
