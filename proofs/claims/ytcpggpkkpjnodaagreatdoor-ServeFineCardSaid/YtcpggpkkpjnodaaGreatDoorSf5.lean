/-
  ServeFine: the walk.
-/
import Derived.Test.YtcpggpkkpjnodaaGreatDoorSf3
import Derived.Test.YtcpggpkkpjnodaaGreatDoorSf4
namespace Go.Proofs.YtcpggpkkpjnodaaGreatDoor
open Go.RowKit

section
variable (kind id version time : Int) (name : ByteArray) (word q many : Int) (lacks : Bool)
theorem facts_ok (b4 : Bool) (h : (kind == 4) = b4) : CX.FactsOk (symS kind id version time name word q many lacks) (factsF b4) := by
  intro op a b v hh
  unfold factsF at hh
  split at hh
  · rename_i k n i
    replace hh := CX.cond_some hh; obtain ⟨h1, hh⟩ := hh
    replace hh := CX.cond_some hh; obtain ⟨h2, hh⟩ := hh
    injection hh with hh; subst hh
    have h1 := CX.beq_eq h1; subst h1
    have h2 := CX.eqInt_eq h2; subst h2
    refine ⟨rfl, rfl, rfl, .i64, kind, .i64, 4, rfl, rfl, fun ty => ?_⟩
    show binOp .eql ty (.int .i64 kind) (.int .i64 4) = .pure (.bool b4)
    rw [← h]; rfl
  · cases hh
theorem sym_vr {E : CX.En} (hE : E.s = symS kind id version time name word q many lacks) (n : Nat) : CX.VR E (sy n) (symS kind id version time name word q many lacks n) := by
  rw [← hE]; exact .sym
theorem pickO (i j m : Nat) (a : Int) (hi : symS kind id version time name word q many lacks i = .int .i64 a) (hj : symS kind id version time name word q many lacks j = .int .i64 (a % (m : Int))) (h0 : (0 : Int) < m) (h1 : (m : Int) ≤ 4294967296) :
    CX.OrcOk Tryz.prog ⟨4, symS kind id version time name word q many lacks⟩ (CX.orcP 4 [sy i, .int .i64 (m : Int)] (sy j)) := by
  refine CX.orcP_ok rfl (fun E hE => sym_vr kind id version time name word q many lacks hE j) (fun W => ?_)
  show Calls Tryz.prog 4 #[symS kind id version time name word q many lacks i, .int .i64 (m : Int)] W _
  rw [hi, hj]
  refine (pick_any a m W h0 h1).mono ?_
  rintro e w' ⟨rfl, rfl⟩
  exact ⟨rfl, Below.refl _ _⟩
theorem orcAll_ok (n m : Nat) (ra rb : Bool) (hm : many % 24 = Int.ofNat m) (hra : fineB kind id version time name.size n lacks (q % 3) word = ra)
    (hrb : fineB (kind % 8) (id % 2147483648) (version % 2147483648) (time % 2147483648) name.size n lacks (q % 3) word = rb) :
    CX.OrcOk Tryz.prog ⟨4, symS kind id version time name word q many lacks⟩ (orcAll n m ra rb) := by
  have h0 : 0 ≤ q % 3 := Int.emod_nonneg q (by omega)
  have h1 : q % 3 < 3 := Int.emod_lt_of_pos q (by omega)
  unfold orcAll
  refine CX.orcOr_ok ?_ (CX.orcOr_ok ?_ (CX.orcOr_ok ?_ (CX.orcOr_ok ?_ (CX.orcOr_ok ?_ (CX.orcOr_ok ?_ (CX.orcOr_ok ?_ (CX.orcOr_ok ?_ (CX.orcOr_ok ?_ (CX.orcOr_ok ?_ (CX.orcOr_ok ?_ ?_))))))))))
  · refine CX.orcP_ok rfl (u0 := .int .i64 (Int.ofNat m)) (fun E hE => .plain rfl) (fun W => ?_)
    show Calls Tryz.prog 4 #[.int .i64 many, .int .i64 24] W _
    refine (pick_any many 24 W (by decide) (by decide)).mono ?_
    rintro e w' ⟨rfl, rfl⟩
    exact ⟨ret_int hm, Below.refl _ _⟩
  · exact pickO kind id version time name word q many lacks 6 12 3 q rfl rfl (by decide) (by decide)
  · exact pickO kind id version time name word q many lacks 0 8 8 kind rfl rfl (by decide) (by decide)
  · exact pickO kind id version time name word q many lacks 1 9 2147483648 id rfl rfl (by decide) (by decide)
  · exact pickO kind id version time name word q many lacks 2 10 2147483648 version rfl rfl (by decide) (by decide)
  · exact pickO kind id version time name word q many lacks 3 11 2147483648 time rfl rfl (by decide) (by decide)
  · refine CX.orcP_ok rfl (u0 := qv (q % 3)) (fun E hE => ?_) (fun W => ?_)
    · exact CX.VR.agg' (.cons (.plain rfl) (.cons (sym_vr kind id version time name word q many lacks hE 13) (.cons (.plain rfl) (.cons (.plain rfl) (.cons (.plain rfl) .nil)))))
    · exact of_any (q % 3) h0 h1 W
  · exact CX.orcP_ok rfl (u0 := .bool true) (fun E hE => .plain rfl) (fun W => known_any W)
  · refine orcFine_ok rfl (fun A c W hcell => ?_)
    rw [cellsS_conc] at hcell
    have := fine_any kind id version time name A n c lacks (q % 3) word h0 h1 W hcell
    rw [hra] at this
    exact this
  · refine orcFine_ok rfl (fun A c W hcell => ?_)
    rw [cellsS_conc] at hcell
    have := shelfFine_any kind id version time name A n c lacks (q % 3) word h0 h1 W hcell
    rw [hra] at this
    exact this
  · refine orcFine_ok rfl (fun A c W hcell => ?_)
    rw [cellsS_conc] at hcell
    have := fine_any (kind % 8) (id % 2147483648) (version % 2147483648) (time % 2147483648) name A n c lacks (q % 3) word h0 h1 W hcell
    rw [hrb] at this
    exact this
  · refine orcFine_ok rfl (fun A c W hcell => ?_)
    rw [cellsS_conc] at hcell
    have := shelfFine_any (kind % 8) (id % 2147483648) (version % 2147483648) (time % 2147483648) name A n c lacks (q % 3) word h0 h1 W hcell
    rw [hrb] at this
    exact this
theorem by_run (b4 : Bool) (m : Nat) (ra rb : Bool) (h4 : (kind == 4) = b4) (hm : many % 24 = Int.ofNat m) (hra : fineB kind id version time name.size (cond b4 m 0) lacks (q % 3) word = ra)
    (hrb : fineB (kind % 8) (id % 2147483648) (version % 2147483648) (time % 2147483648) name.size (cond b4 m 0) lacks (q % 3) word = rb) (hrun : runs (symS kind id version time name word q many lacks) b4 ra rb m = true) (w : World) :
    Calls Tryz.prog 3 #[.int .i64 kind, .int .i64 id, .int .i64 version, .int .i64 time, .string name, .int .i64 word, .int .i64 q, .int .i64 many, .bool lacks] w fun e w' => e = .returned (.bool true) ∧ Below w.heap.size w w' :=
  CX.gives1_sym (CX.X.mk'_ok _ _ _ _ _ _ _ (facts_ok kind id version time name word q many lacks b4 h4) (orcAll_ok kind id version time name word q many lacks (cond b4 m 0) m ra rb hm hra hrb) (by kernel_rfl)) (symS_one kind id version time name word q many lacks) hrun rfl rfl w
end
theorem m_mem {m : Nat} (h : m < 24) : m ∈ [0, 1, 2, 3, 4, 5, 6, 7, 8, 9, 10, 11, 12, 13, 14, 15, 16, 17, 18, 19, 20, 21, 22, 23] := by
  simp only [List.mem_cons]; omega
namespace serveFine
theorem walk (kind id version time : Int) (name : ByteArray) (word q many : Int) (lacks : Bool) (w : World) (_w0 : (Lit.int .i64 kind).wf = true) (_w1 : (Lit.int .i64 id).wf = true) (_w2 : (Lit.int .i64 version).wf = true) (_w3 : (Lit.int .i64 time).wf = true) (_w4 : name.size ≤ maxLen) (_w5 : (Lit.int .i64 word).wf = true) (_w6 : (Lit.int .i64 q).wf = true) (_w7 : (Lit.int .i64 many).wf = true) :
    Calls Tryz.prog 3 #[.int .i64 kind, .int .i64 id, .int .i64 version, .int .i64 time, .string name, .int .i64 word, .int .i64 q, .int .i64 many, .bool lacks] w fun e w' => e = .returned (.bool true) ∧ Below w.heap.size w w' := by
  obtain ⟨m, hm⟩ := Int.eq_ofNat_of_zero_le (Int.emod_nonneg many (show (24 : Int) ≠ 0 by omega))
  have hm2 : m < 24 := by have := Int.emod_lt_of_pos many (show (0 : Int) < 24 by omega); omega
  cases h4 : (kind == 4) with
  | true =>
    cases hra : fineB kind id version time name.size m lacks (q % 3) word <;> cases hrb : fineB (kind % 8) (id % 2147483648) (version % 2147483648) (time % 2147483648) name.size m lacks (q % 3) word
    · exact by_run kind id version time name word q many lacks true m false false h4 hm hra hrb ((CX.allB_all _ _).1 (runs_ff _) m (m_mem hm2)) w
    · exact by_run kind id version time name word q many lacks true m false true h4 hm hra hrb ((CX.allB_all _ _).1 (runs_ft _) m (m_mem hm2)) w
    · exact by_run kind id version time name word q many lacks true m true false h4 hm hra hrb ((CX.allB_all _ _).1 (runs_tf _) m (m_mem hm2)) w
    · exact by_run kind id version time name word q many lacks true m true true h4 hm hra hrb ((CX.allB_all _ _).1 (runs_tt _) m (m_mem hm2)) w
  | false =>
    cases hra : fineB kind id version time name.size 0 lacks (q % 3) word <;> cases hrb : fineB (kind % 8) (id % 2147483648) (version % 2147483648) (time % 2147483648) name.size 0 lacks (q % 3) word
    · exact by_run kind id version time name word q many lacks false m false false h4 hm hra hrb (runs_no_ff _ m) w
    · exact by_run kind id version time name word q many lacks false m false true h4 hm hra hrb (runs_no_ft _ m) w
    · exact by_run kind id version time name word q many lacks false m true false h4 hm hra hrb (runs_no_tf _ m) w
    · exact by_run kind id version time name word q many lacks false m true true h4 hm hra hrb (runs_no_tt _ m) w
end serveFine
end Go.Proofs.YtcpggpkkpjnodaaGreatDoor
