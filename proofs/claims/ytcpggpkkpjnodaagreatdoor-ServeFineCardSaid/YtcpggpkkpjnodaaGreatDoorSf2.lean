/-
  Fine, the program's and the plain one's: contracts.
-/
import Derived.Test.YtcpggpkkpjnodaaGreatDoorSf1
namespace Go.Proofs.YtcpggpkkpjnodaaGreatDoor
open Go.RowKit

def cellL (lacks : Bool) (k word : Int) : List Value := [.bool lacks, .bool false, .int .u64 k, .string ⟨#[]⟩, .int .u64 0, .string ⟨#[]⟩, .int .i64 word]
def cellOk (lacks : Bool) (k word : Int) : Bool := if lacks then decide (word = 0 ∧ k = 0) else if k = 0 then decide (0 ≤ word ∧ word ≤ 12) else decide (word = 0)

set_option maxHeartbeats 400000 in
theorem counts_any (n : Int) (w : World) : Calls Tryz.prog 14 #[.int .i64 n] w fun e w' => e = .returned (.bool (decide (0 ≤ n ∧ n ≤ 1073741824))) ∧ w' = w := by
  go_enter Tryz.func14, Tryz.ntmps14
  go_wp2
  all_goals (go_ret; refine ⟨ret_bool ?_, rfl⟩)
  all_goals (rw [Bool.eq_iff_iff]; simp; try omega)

set_option maxHeartbeats 1000000 in
theorem cellFine_l0 (k word : Int) (hk : k = 0) (w : World) (HS : Hid (∀ W, Calls Tryz.prog 16 #[.agg ⟨[.bool false, .int .u64 k, .string ⟨#[]⟩, .int .u64 0, .string ⟨#[]⟩]⟩] W fun e w' => e = .returned (.int .i64 0) ∧ Below W.heap.size W w')) :
    Calls Tryz.prog 15 #[.agg ⟨[.bool true, .bool false, .int .u64 k, .string ⟨#[]⟩, .int .u64 0, .string ⟨#[]⟩, .int .i64 word]⟩] w fun e w' => e = .returned (.bool (cellOk true k word)) ∧ Below w.heap.size w w' := by
  have HK := Lib.hid hk
  clear hk
  go_enter Tryz.func15, Tryz.ntmps15
  go_wp2_with (go_at_call 16; refine (HS.out _).mono ?_; rintro e w2 ⟨rfl, hb⟩; have d6 := (Blk.below (Blk.new w _ _) hb (Blk.new w _ _).lt).cell 6; simp only [List.getElem?_toArray, List.getElem?_cons_zero, List.getElem?_cons_succ] at d6; have HB := Lib.hid hb; clear hb)
  all_goals (go_ret; refine ⟨ret_bool ?_, ?_⟩)
  all_goals first | exact (Below.refl _ _).alloc (Nat.le_refl _) _ | exact ((Below.refl _ _).alloc (Nat.le_refl _) _).trans (HB.out.mono (by simp)) | skip
  all_goals (have hk := HK.out; unfold cellOk; simp [*] <;> first | omega | rfl)
set_option maxHeartbeats 1000000 in
theorem cellFine_l1 (k word : Int) (hk : ¬ k = 0) (w : World) (HS : Hid (∀ W, Calls Tryz.prog 16 #[.agg ⟨[.bool false, .int .u64 k, .string ⟨#[]⟩, .int .u64 0, .string ⟨#[]⟩]⟩] W fun e w' => e = .returned (.int .i64 1) ∧ Below W.heap.size W w')) :
    Calls Tryz.prog 15 #[.agg ⟨[.bool true, .bool false, .int .u64 k, .string ⟨#[]⟩, .int .u64 0, .string ⟨#[]⟩, .int .i64 word]⟩] w fun e w' => e = .returned (.bool (cellOk true k word)) ∧ Below w.heap.size w w' := by
  have HK := Lib.hid hk
  clear hk
  go_enter Tryz.func15, Tryz.ntmps15
  go_wp2_with (go_at_call 16; refine (HS.out _).mono ?_; rintro e w2 ⟨rfl, hb⟩; have d6 := (Blk.below (Blk.new w _ _) hb (Blk.new w _ _).lt).cell 6; simp only [List.getElem?_toArray, List.getElem?_cons_zero, List.getElem?_cons_succ] at d6; have HB := Lib.hid hb; clear hb)
  all_goals (go_ret; refine ⟨ret_bool ?_, ?_⟩)
  all_goals first | exact (Below.refl _ _).alloc (Nat.le_refl _) _ | exact ((Below.refl _ _).alloc (Nat.le_refl _) _).trans (HB.out.mono (by simp)) | skip
  all_goals (have hk := HK.out; unfold cellOk; simp [*] <;> first | omega | rfl)
set_option maxHeartbeats 1000000 in
theorem cellFine_n0 (k word : Int) (hk : k = 0) (w : World) (HS : Hid (∀ W, Calls Tryz.prog 16 #[.agg ⟨[.bool false, .int .u64 k, .string ⟨#[]⟩, .int .u64 0, .string ⟨#[]⟩]⟩] W fun e w' => e = .returned (.int .i64 0) ∧ Below W.heap.size W w')) :
    Calls Tryz.prog 15 #[.agg ⟨[.bool false, .bool false, .int .u64 k, .string ⟨#[]⟩, .int .u64 0, .string ⟨#[]⟩, .int .i64 word]⟩] w fun e w' => e = .returned (.bool (cellOk false k word)) ∧ Below w.heap.size w w' := by
  have HK := Lib.hid hk
  clear hk
  go_enter Tryz.func15, Tryz.ntmps15
  go_wp2_with (go_at_call 16; refine (HS.out _).mono ?_; rintro e w2 ⟨rfl, hb⟩; have d6 := (Blk.below (Blk.new w _ _) hb (Blk.new w _ _).lt).cell 6; simp only [List.getElem?_toArray, List.getElem?_cons_zero, List.getElem?_cons_succ] at d6; have HB := Lib.hid hb; clear hb)
  all_goals (go_ret; refine ⟨ret_bool ?_, ?_⟩)
  all_goals first | exact (Below.refl _ _).alloc (Nat.le_refl _) _ | exact ((Below.refl _ _).alloc (Nat.le_refl _) _).trans (HB.out.mono (by simp)) | skip
  all_goals (have hk := HK.out; unfold cellOk; simp [*] <;> first | omega | rfl)
set_option maxHeartbeats 1000000 in
theorem cellFine_n1 (k word : Int) (hk : ¬ k = 0) (w : World) (HS : Hid (∀ W, Calls Tryz.prog 16 #[.agg ⟨[.bool false, .int .u64 k, .string ⟨#[]⟩, .int .u64 0, .string ⟨#[]⟩]⟩] W fun e w' => e = .returned (.int .i64 1) ∧ Below W.heap.size W w')) :
    Calls Tryz.prog 15 #[.agg ⟨[.bool false, .bool false, .int .u64 k, .string ⟨#[]⟩, .int .u64 0, .string ⟨#[]⟩, .int .i64 word]⟩] w fun e w' => e = .returned (.bool (cellOk false k word)) ∧ Below w.heap.size w w' := by
  have HK := Lib.hid hk
  clear hk
  go_enter Tryz.func15, Tryz.ntmps15
  go_wp2_with (go_at_call 16; refine (HS.out _).mono ?_; rintro e w2 ⟨rfl, hb⟩; have d6 := (Blk.below (Blk.new w _ _) hb (Blk.new w _ _).lt).cell 6; simp only [List.getElem?_toArray, List.getElem?_cons_zero, List.getElem?_cons_succ] at d6; have HB := Lib.hid hb; clear hb)
  all_goals (go_ret; refine ⟨ret_bool ?_, ?_⟩)
  all_goals first | exact (Below.refl _ _).alloc (Nat.le_refl _) _ | exact ((Below.refl _ _).alloc (Nat.le_refl _) _).trans (HB.out.mono (by simp)) | skip
  all_goals (have hk := HK.out; unfold cellOk; simp [*] <;> first | omega | rfl)
theorem cellFine_any (lacks : Bool) (k word : Int) (h0 : 0 ≤ k) (h1 : k < 3) (w : World) :
    Calls Tryz.prog 15 #[.agg ⟨cellL lacks k word⟩] w fun e w' => e = .returned (.bool (cellOk lacks k word)) ∧ Below w.heap.size w w' := by
  have HS := fun W => sign_any k h0 h1 W
  by_cases hk : k = 0
  · have e : sgn k = 0 := if_pos hk
    rw [e] at HS
    cases lacks with
    | true => exact cellFine_l0 k word hk w HS
    | false => exact cellFine_n0 k word hk w HS
  · have e : sgn k = 1 := if_neg hk
    rw [e] at HS
    cases lacks with
    | true => exact cellFine_l1 k word hk w HS
    | false => exact cellFine_n1 k word hk w HS

/- n cells that are alike, in a row. -/
def cellsL (lacks : Bool) (k word : Int) : Nat → List Value
  | 0 => []
  | n + 1 => cellL lacks k word ++ cellsL lacks k word n
theorem cellsL_length (lacks : Bool) (k word : Int) : ∀ n, (cellsL lacks k word n).length = n * 7
  | 0 => rfl
  | n + 1 => by show (cellL lacks k word ++ cellsL lacks k word n).length = _; rw [List.length_append, cellsL_length lacks k word n]; simp [cellL]; omega
theorem cellsL_at (lacks : Bool) (k word : Int) (j : Nat) (hj : j < 7) : ∀ n i, i < n → (cellsL lacks k word n)[i * 7 + j]? = (cellL lacks k word)[j]?
  | 0, i, h => by omega
  | n + 1, i, h => by
    show (cellL lacks k word ++ cellsL lacks k word n)[i * 7 + j]? = _
    cases i with
    | zero => rw [Nat.zero_mul, Nat.zero_add, List.getElem?_append_left (by simpa [cellL] using hj)]
    | succ i =>
      rw [List.getElem?_append_right (by simp [cellL]; omega), ← cellsL_at lacks k word j hj n i (by omega)]
      congr 1; simp [cellL]; omega
/- They are read where a slice begins. -/
def CellsIn (w : World) (A : Option Addr) (n : Nat) (l : List Value) : Prop := 0 < n → ∃ b o, A = some ⟨b, o, none⟩ ∧ b < w.heap.size ∧ ∀ j u, l[j]? = some u → w.cell? ⟨b, o + j, none⟩ = some u
theorem CellsIn.at7 {w wr : World} {A : Option Addr} {n j : Nat} {lacks : Bool} {k word : Int} (h : CellsIn w A n (cellsL lacks k word n)) (hlt : j < n) (hk : ∀ p : Addr, p.block < w.heap.size → wr.cell? p = w.cell? p) :
    ∃ b o, A = some ⟨b, o, none⟩ ∧ b < w.heap.size ∧ wr.cell? ⟨b, o + j * 7, none⟩ = some (.bool lacks) ∧ wr.cell? ⟨b, o + j * 7 + 1, none⟩ = some (.bool false) ∧
      wr.cell? ⟨b, o + j * 7 + 2, none⟩ = some (.int .u64 k) ∧ wr.cell? ⟨b, o + j * 7 + 3, none⟩ = some (.string ⟨#[]⟩) ∧
      wr.cell? ⟨b, o + j * 7 + 4, none⟩ = some (.int .u64 0) ∧ wr.cell? ⟨b, o + j * 7 + 5, none⟩ = some (.string ⟨#[]⟩) ∧
      wr.cell? ⟨b, o + j * 7 + 6, none⟩ = some (.int .i64 word) := by
  obtain ⟨b, o, rfl, hb, hc⟩ := h (by omega)
  refine ⟨b, o, rfl, hb, ?_⟩
  have hcell2 : ∀ i, i < 7 → ∀ u, (cellL lacks k word)[i]? = some u → wr.cell? ⟨b, o + j * 7 + i, none⟩ = some u := fun i hi u hu => by
    have h1 := cellsL_at lacks k word i hi n j hlt
    rw [hu] at h1
    rw [hk _ hb, Nat.add_assoc]
    exact hc _ _ h1
  exact ⟨hcell2 0 (by omega) _ rfl, hcell2 1 (by omega) _ rfl, hcell2 2 (by omega) _ rfl, hcell2 3 (by omega) _ rfl, hcell2 4 (by omega) _ rfl, hcell2 5 (by omega) _ rfl, hcell2 6 (by omega) _ rfl⟩
def fineB (kind id version time : Int) (ln n : Nat) (lacks : Bool) (k word : Int) : Bool :=
  decide (1 ≤ kind ∧ kind ≤ 6) && decide (0 ≤ id ∧ id ≤ 1073741824) && decide (0 ≤ version ∧ version ≤ 1073741824) && decide (0 ≤ time ∧ time ≤ 1073741824) && decide (ln ≤ 20) && decide (n ≤ 20) && (decide (n = 0) || (decide (kind = 4) && cellOk lacks k word))

set_option maxHeartbeats 4000000 in
theorem fine_any (kind id version time : Int) (name : ByteArray) (A : Option Addr) (n c : Nat) (lacks : Bool) (k word : Int) (h0 : 0 ≤ k) (h1 : k < 3) (w : World) (hr : CellsIn w A n (cellsL lacks k word n)) :
    Calls Tryz.prog 7 #[.agg ⟨[.int .i64 kind, .int .i64 id, .int .i64 version, .int .i64 time, .string name, .slice none 0 0, .slice A n c]⟩] w fun e w' => e = .returned (.bool (fineB kind id version time name.size n lacks k word)) ∧ Below w.heap.size w w' := by
  have HR := Lib.hid hr
  have HC := Lib.hid (fun W => cellFine_any lacks k word h0 h1 W)
  clear hr h0 h1
  go_enter Tryz.func7, Tryz.ntmps7
  go_wp2_with (go_at_call 14; refine (counts_any _ _).mono ?_; rintro e w2 ⟨rfl, rfl⟩)
  all_goals first
    | (go_ret; refine ⟨ret_bool ?_, (Below.refl _ _).alloc (Nat.le_refl _) _⟩; symm; rw [Bool.eq_false_iff]; intro hh; simp only [fineB, Bool.and_eq_true, Bool.or_eq_true, decide_eq_true_eq] at hh; (try simp only [Bool.not_eq_true', decide_eq_false_iff_not, bne_iff_ne] at *); omega)
    | skip
  · rename_i hn4 K aK
    have hk4 : Hid (kind = 4) := by
      show kind = 4
      simpa using hn4
    clear hn4
    go_loopw [65] (fun i wr => ∃ j : Nat, j ≤ n ∧ i = .int .i64 j ∧ Below (w.heap.size + 1) (w.alloc (.cells ⟨[.int .i64 kind, .int .i64 id, .int .i64 version, .int .i64 time, .string name, .slice none 0 0, .slice A n c]⟩ 25)) wr ∧ (0 < j → cellOk lacks k word = true)) (fun i _ => n - (intOf i).toNat)
    case atStart => exact ⟨0, Nat.zero_le _, rfl, Below.refl _ _, fun h => by omega⟩
    case round =>
      obtain ⟨j, hj, rfl, hbel, hok⟩ := hrel
      by_cases hlt : j < n
      · obtain ⟨b, o, hA, hblk, c0, c1, c2, c3, c4, c5, c6⟩ := HR.out.at7 hlt (wr := wr) (fun p hp => by rw [hbel.cell (Nat.lt_succ_of_lt hp), World.cell?_alloc_lt w _ _ hp])
        subst hA
        have HBel := Lib.hid hbel
        clear hbel
        go_wp2_with (go_at_call 15; refine (HC.out _).mono ?_; rintro e w2 ⟨rfl, hb⟩; have HB := Lib.hid hb; clear hb)
        · have hno : cellOk lacks k word = false := by
            have h : (!cellOk lacks k word) = true := by assumption
            simpa using h
          go_ret
          have k1 : Below w.heap.size w wr := ((Below.refl _ _).alloc (Nat.le_refl _) _).trans (HBel.out.mono (by omega))
          refine ⟨ret_bool ?_, (k1.alloc k1.size _).trans (HB.out.mono (by have := k1.size; simp; omega))⟩
          symm; rw [Bool.eq_false_iff]; intro hh
          simp only [fineB, Bool.and_eq_true, Bool.or_eq_true, decide_eq_true_eq, hno] at hh
          obtain ⟨_, h⟩ := hh
          rcases h with h | h
          · omega
          · exact absurd h.2 (by decide)
        · have hyes : cellOk lacks k word = true := by
            have h : (!cellOk lacks k word) = false := by assumption
            simpa using h
          have k1 := HBel.out
          have k2 := (k1.alloc (by have := k1.size; simpa using this) (.cells #[.bool lacks, .bool false, .int .u64 k, .string ⟨#[]⟩, .int .u64 0, .string ⟨#[]⟩, .int .i64 word] 36)).trans (HB.out.mono (by have := k1.size; simp at this ⊢; omega))
          go_roundw
          case rel =>
            exact ⟨j + 1, by omega, by go_num, k2, fun _ => hyes⟩
          case measure => simp [intOf]; omega
      · have hc := hok (by omega)
        have HBel := Lib.hid hbel
        clear hbel
        go_wp2
        go_ret
        refine ⟨ret_bool ?_, ((Below.refl _ _).alloc (Nat.le_refl _) _).trans (HBel.out.mono (by omega))⟩
        symm
        have h4 := hk4.out
        (try simp only [Bool.not_eq_false', decide_eq_true_eq] at *)
        simp only [fineB, Bool.and_eq_true, Bool.or_eq_true, decide_eq_true_eq]
        exact ⟨⟨⟨⟨⟨⟨by omega, by omega⟩, by omega⟩, by omega⟩, by omega⟩, by omega⟩, .inr ⟨h4, hc⟩⟩
  · have hn : n = 0 := by omega
    have HN := Lib.hid hn
    refine wp_loop_rounds 1 ?_
    rw [rounds_succ]
    go_wp2
    go_ret
    refine ⟨ret_bool ?_, (Below.refl _ _).alloc (Nat.le_refl _) _⟩
    symm
    (try simp only [Bool.not_eq_false', decide_eq_true_eq] at *)
    simp only [fineB, Bool.and_eq_true, Bool.or_eq_true, decide_eq_true_eq]
    exact ⟨⟨⟨⟨⟨⟨by omega, by omega⟩, by omega⟩, by omega⟩, by omega⟩, by omega⟩, .inl HN.out⟩
end Go.Proofs.YtcpggpkkpjnodaaGreatDoor
