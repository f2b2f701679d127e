/-
  The reference's small numbers: NatDiv, NatGcd, IntOf, Make, Over.
-/
import Derived.Test.YtjohbgkdhppglaaDoorN1
import Derived.Laws.Rows
import Derived.Laws.Tables
import Derived.Laws.CopyOwn
namespace Go.Proofs.YtjohbgkdhppglaaDoor
open Go.RowKit

set_option maxHeartbeats 1000000 in
set_option maxRecDepth 100000 in
theorem natDiv_any (v1 v2 : Value) (n m : Nat) (w : World) (h1 : RN w v1 n) (h2 : RN w v2 m) (hm : 0 < m) :
    Calls Tryd.prog 48 #[v1, v2] w fun e w' => ∃ q r, e = .returned (.tuple #[q, r]) ∧ RN w' q (n / m) ∧ RN w' r (n % m) ∧ Below w.heap.size w w' := by
  have HC := Lib.hid (natCmp_any v1 v2 n m w h1 h2)
  have H1 := Lib.hid h1
  obtain ⟨hm2, ⟨e0, _⟩ | ⟨_, b, o, c, rfl, hcap, hlt, hc⟩⟩ := h2
  · omega
  clear h1
  by_cases hlt2 : n < m
  · have HV : Hid (cmpN n m = -1) := by unfold cmpN; rw [if_pos hlt2]; rfl
    go_enter Tryd.func48, Tryd.ntmps48
    go_wp2_with (go_at_call 61; refine HC.out.mono ?_; rintro e w' ⟨rfl, q, rfl⟩; rw [HV.out])
    go_ret2
    refine ⟨_, _, rfl, ?_, ?_, ⟨rfl, rfl, rfl, Nat.le_refl _, fun _ _ => rfl⟩⟩
    · rw [Nat.div_eq_of_lt hlt2]; exact ⟨by omega, .inl ⟨rfl, _, _, rfl⟩⟩
    · rw [Nat.mod_eq_of_lt hlt2]; exact H1.out.drewN q
  · have HV : Hid (cmpN n m = if m < n then 1 else 0) := by unfold cmpN; rw [if_neg hlt2]; rfl
    have hv : 0 ≤ cmpN n m := by rw [HV.out]; split <;> omega
    obtain ⟨k, HK⟩ : ∃ k, Hid (cmpN n m = k) := ⟨_, rfl⟩
    rw [HK.out] at hv
    obtain ⟨r, HR⟩ : ∃ r, Hid (n % m = r) := ⟨_, rfl⟩
    have hr : r < 4294967296 := by rw [← HR.out]; exact Nat.lt_trans (Nat.mod_lt n hm) hm2
    have HO := fun q => one_any v1 n m (w.drewN q) (H1.out.drewN q) hm hm2
    rw [HR.out] at HO ⊢
    replace HO := Lib.hid HO
    clear HV
    go_enter Tryd.func48, Tryd.ntmps48
    go_wp2_with (first
      | (go_at_call 61; refine HC.out.mono ?_; rintro e w' ⟨rfl, q, rfl⟩; rw [HK.out])
      | (go_at_call 62; refine (HO.out q).mono ?_; rintro e w2 ⟨v, rfl, hv2, hb2⟩; have HV2 := Lib.hid hv2; have HB2 := Lib.hid hb2; clear hv2 hb2)
      | (go_at_call 50; refine (natOf_any r _ hr).mono ?_; rintro e w3 ⟨v3, rfl, hv3, hb3⟩; have HV3 := Lib.hid hv3; have HB3 := Lib.hid hb3; clear hv3 hb3))
    go_ret2
    have hb : Below w.heap.size w (w.drewN q) := ⟨rfl, rfl, rfl, Nat.le_refl _, fun _ _ => rfl⟩
    have hb2 := hb.trans (HB2.out.mono hb.size)
    exact ⟨_, _, rfl, HV2.out.below HB3.out, HV3.out, hb2.trans (HB3.out.mono hb2.size)⟩

def rnOf (w : World) (v : Value) : Nat := match v with
  | .slice (some ad) 1 _ => (match w.cell? ad with | some (.int _ k) => k.toNat | _ => 0)
  | _ => 0
theorem RN.of {w : World} {v : Value} {n : Nat} (h : RN w v n) : rnOf w v = n := by
  obtain ⟨_, ⟨rfl, A, c, rfl⟩ | ⟨h2, b, o, c, rfl, _, _, hc⟩⟩ := h
  · cases A <;> rfl
  · unfold rnOf; simp only [hc]; rfl
set_option maxHeartbeats 1000000 in
theorem natGcd_any (v1 v2 : Value) (n m : Nat) (w : World) (h1 : RN w v1 n) (h2 : RN w v2 m) :
    Calls Tryd.prog 47 #[v1, v2] w fun e w' => ∃ v, e = .returned v ∧ RN w' v (Nat.gcd n m) ∧ Below w.heap.size w w' := by
  have H1 := Lib.hid h1
  have H2 := Lib.hid h2
  clear h1 h2
  go_enter Tryd.func47, Tryd.ntmps47
  go_wp2
  go_loopw [0, 1] (fun a b wr => ∃ x y : Nat, Hid (RN wr a x) ∧ Hid (RN wr b y) ∧ Hid (Nat.gcd x y = Nat.gcd n m) ∧ Below w.heap.size w wr) (fun _ b wr => rnOf wr b)
  case atStart => exact ⟨n, m, H1, H2, rfl, Below.refl _ _⟩
  case round =>
    obtain ⟨x, y, hx, hy, hg, hbel⟩ := hrel
    by_cases hz : y = 0
    · have HY : Hid (y = 0) := hz
      obtain ⟨_, ⟨_, A, c, rfl⟩ | ⟨h2, _⟩⟩ := hy.out
      · go_wp2
        go_ret
        refine ⟨_, rfl, ?_, hbel⟩
        have := hg.out
        rw [HY.out, Nat.gcd_zero_right] at this
        rw [← this]; exact hx.out
      · omega
    · have hyp : 0 < y := by omega
      have HD := Lib.hid (natDiv_any u0 u1 x y wr hx.out hy.out hyp)
      obtain ⟨_, ⟨e0, _⟩ | ⟨h2, b, o, c, rfl, hc1, hb1, hcell⟩⟩ := hy.out
      · omega
      have hsz := hbel.size
      go_wp2_with (go_at_call 48; refine HD.out.mono ?_; rintro e w2 ⟨q, r, rfl, hq, hr, hb2⟩; have HR := Lib.hid hr; have HB2 := Lib.hid hb2; clear hq hr hb2)
      have HM : Hid (rnOf w2 r < rnOf wr (.slice (some ⟨b, o, none⟩) 1 c)) := by
        show _ < _
        rw [HR.out.of, hy.out.of]; exact Nat.mod_lt _ hyp
      go_roundw
      case rel => exact ⟨y, x % y, hy.out.below HB2.out, HR, by show _ = _; rw [← hg.out, Nat.gcd_comm x y, Nat.gcd_rec y x, Nat.gcd_comm], hbel.trans (HB2.out.mono hsz)⟩
      case measure => exact HM.out

theorem RN.one {w : World} {v : Value} {n : Nat} (h : RN w v n) : v.oneCell' = true := by
  obtain ⟨A, c, rfl⟩ := h.len
  rfl
theorem two_cells {b : Bool} {v : Value} (h : v.oneCell' = true) : (#[.bool b, v] : Array Value).all (fun x => x.oneCell') = true := by
  simp only [List.all_toArray, List.all_cons, List.all_nil, h]; rfl
/- A row in which no such number lies may be written anew. -/
def noU32 (cs : Array Value) : Prop := ∀ (i : Nat) (m : Int), cs[i]? ≠ some (.int .u32 m)
theorem RN.setRow {w : World} {v : Value} {n g : Nat} {t : TypeId} {cs : Array Value} (h : RN w v n) (hB : Blk w g t cs) (hne : noU32 cs) (cs' : Array Value) : RN (w.setRow g cs') v n := by
  obtain ⟨h1, h2 | ⟨h2, b, o, c, rfl, hc, hlt, hcell⟩⟩ := h
  · exact ⟨h1, .inl h2⟩
  · refine ⟨h1, .inr ⟨h2, b, o, c, rfl, hc, by simpa using hlt, ?_⟩⟩
    rw [cell_setRow_other _ _ _ _ ?_]
    · exact hcell
    · rintro rfl
      rw [hB.cell] at hcell
      exact hne _ _ hcell
theorem noU32_int (b : Bool) (A : Option Addr) (n c : Nat) : noU32 #[.bool b, .slice A n c] := by
  intro i m
  match i with
  | 0 => simp
  | 1 => simp
  | i + 2 => simp
theorem Tryd.infoRefInt : (Tryd.prog.info? 44).map (·.size) = some 2 := by kernel_rfl
set_option maxHeartbeats 400000 in
theorem intOf_any (n : Int) (w : World) (h1 : -4294967296 < n) (h2 : n < 4294967296) :
    Calls Tryd.prog 36 #[.int .i64 n] w fun e w' => ∃ v, e = .returned (.agg #[.bool (decide (n < 0)), v]) ∧ RN w' v n.natAbs ∧ Below w.heap.size w w' := by
  obtain ⟨k, HK⟩ : ∃ k, Hid (n.natAbs = k) := ⟨_, rfl⟩
  have hk : k < 4294967296 := by have := HK.out; omega
  rw [HK.out]
  by_cases hn : n < 0
  · have hw : IntKind.u64.wrap n = 18446744073709551616 + n := by rw [IntKind.wrap_u64]; omega
    have hw2 : IntKind.u64.wrap (-(18446744073709551616 + n)) = (k : Int) := by rw [IntKind.wrap_u64]; have := HK.out; omega
    have HD : Hid (decide (n < 0) = (true && decide (0 < k))) := by show _ = _; rw [decide_eq_true hn, decide_eq_true (by have := HK.out; omega)]; rfl
    rw [HD.out]
    go_enter Tryd.func36, Tryd.ntmps36
    go_wp2_with (first
      | (go_at_call 50; refine (natOf_any k _ hk).mono ?_; rintro e w2 ⟨v, rfl, hv, hb⟩; have HV := Lib.hid hv; have HB := Lib.hid hb; have HBk : Hid (Blk w2 w.heap.size 44 #[.bool false, .slice none 0 0]) := Blk.below (Blk.new w _ _) hb (by simp); clear hv hb hw hw2)
      | (go_at_call 49; refine (i_any _ _ _ _ HV.out).mono ?_; rintro e w3 ⟨rfl, hb3⟩; have HB3 := Lib.hid hb3; have HBk3 := Lib.hid (HBk.out.below hb3 HBk.out.lt); clear hb3)
      | (refine wpList_store_row rfl 44 (.tmp 2) (.tmp 9) rfl w.heap.size #[.bool (true && decide (0 < k)), v] rfl rfl 44 _ HBk3.out Tryd.infoRefInt rfl (two_cells HV.out.one) ?_))
    refine bodyPost_ret (v := .agg #[.bool (true && decide (0 < k)), v]) ?_ rfl ⟨v, rfl, ?_, ?_⟩
    · exact results_cell_row (p := 2) rfl _ _ w.heap.size 44 #[.bool (true && decide (0 < k)), v] (0, 0) _ rfl (setRow_heap _ _ _ _ _ _ HBk3.out) Tryd.underlying44 rfl Tryd.infoRefInt
    · exact (HV.out.below HB3.out).setRow HBk3.out (noU32_int _ _ _ _) _
    · have hb := ((Below.refl w.heap.size w).alloc (Nat.le_refl _) (.cells #[.bool false, .slice none 0 0] 44)).trans (HB.out.mono (by simp))
      exact below_setRow (hb.trans (HB3.out.mono hb.size)) (Nat.le_refl _) _
  · have hw : IntKind.u64.wrap n = (k : Int) := by rw [IntKind.wrap_u64]; have := HK.out; omega
    have HD : Hid (decide (n < 0) = (false && decide (0 < k))) := by show _ = _; rw [decide_eq_false hn]; rfl
    rw [HD.out]
    have hnk : n = (k : Int) := by have := HK.out; omega
    subst hnk
    clear hw
    go_enter Tryd.func36, Tryd.ntmps36
    go_wp2_with (first
      | (go_at_call 50; refine (natOf_any k _ hk).mono ?_; rintro e w2 ⟨v, rfl, hv, hb⟩; have HV := Lib.hid hv; have HB := Lib.hid hb; have HBk : Hid (Blk w2 w.heap.size 44 #[.bool false, .slice none 0 0]) := Blk.below (Blk.new w _ _) hb (by simp); clear hv hb)
      | (go_at_call 49; refine (i_any _ _ _ _ HV.out).mono ?_; rintro e w3 ⟨rfl, hb3⟩; have HB3 := Lib.hid hb3; have HBk3 := Lib.hid (HBk.out.below hb3 HBk.out.lt); clear hb3)
      | (refine wpList_store_row rfl 44 (.tmp 2) (.tmp 13) rfl w.heap.size #[.bool (false && decide (0 < k)), v] rfl rfl 44 _ HBk3.out Tryd.infoRefInt rfl (two_cells HV.out.one) ?_))
    refine bodyPost_ret (v := .agg #[.bool (false && decide (0 < k)), v]) ?_ rfl ⟨v, rfl, ?_, ?_⟩
    · exact results_cell_row (p := 2) rfl _ _ w.heap.size 44 #[.bool (false && decide (0 < k)), v] (0, 0) _ rfl (setRow_heap _ _ _ _ _ _ HBk3.out) Tryd.underlying44 rfl Tryd.infoRefInt
    · exact (HV.out.below HB3.out).setRow HBk3.out (noU32_int _ _ _ _) _
    · have hb := ((Below.refl w.heap.size w).alloc (Nat.le_refl _) (.cells #[.bool false, .slice none 0 0] 44)).trans (HB.out.mono (by simp))
      exact below_setRow (hb.trans (HB3.out.mono hb.size)) (Nat.le_refl _) _
end Go.Proofs.YtjohbgkdhppglaaDoor
