/-
  A column's numbers.
-/
import Derived.Test.YthallgbggkgboaaGreatDoorGpe
namespace Go.Proofs.YthallgbggkgboaaGreatDoor.Gp
open Go Go.RowKit Ut

def qcells (c : PC) : List Value := [.bool c.neg, .int .u64 c.n, .string c.s, .int .u64 c.d, .string c.s']
def qflat (cs : List PC) : List Value := cs.flatMap qcells
def QRow (w : World) (base : Nat) (v : Value) (cs : List PC) : Prop := w.ownsRow base 84 5 v cs.length (qflat cs)
theorem qflat_snoc (cs : List PC) (c : PC) : qflat (cs ++ [c]) = qflat cs ++ qcells c := by unfold qflat; simp
theorem infoQ : (Tryz.prog.info? 84).map (fun i => (i.zero, i.size, i.bytes)) = some (some (.agg #[.bool false, .int .u64 0, .string ⟨#[]⟩, .int .u64 0, .string ⟨#[]⟩]), 5, 56) := by kernel_rfl
theorem infoQ5 : (Tryz.prog.info? 84).map (·.size) = some 5 := by kernel_rfl
set_option maxHeartbeats 1000000 in
set_option maxRecDepth 100000 in
theorem numbers1_any (c : PC) (w : World) : Calls Tryz.prog 56 #[cellV c] w fun e w' => e = .returned (.agg #[.bool c.neg, .int .u64 c.n, .string c.s, .int .u64 c.d, .string c.s']) ∧ Below w.heap.size w w' := by
  unfold cellV
  go_enter Tryz.func56, Tryz.ntmps56
  go_wp2
  exact bodyPost_ret (results_row rfl _ _ (w.heap.size + 1) _ _ _ rfl (Blk.new2 w _ _ _) Tryz.underlying84 rfl infoQ5) rfl ⟨rfl, ((Below.refl _ _).alloc (Nat.le_refl _) _).alloc (by simp) _⟩
set_option maxHeartbeats 4000000 in
set_option maxRecDepth 100000 in
theorem columnq_any (cu ru : Value) (cs : List CI) (b : Nat) (gs : List (List PC × Value)) (k : Nat) (w : World) (h : SheetOk w cu ru cs b gs) (hk : k < cs.length) (hkd : cs[k].kd = 0) (hg1 : 1 ≤ gs.length) :
    Calls Tryz.prog 55 #[.agg #[cu, ru], .int .i64 k, .int .i64 1, .func (.func 56) #[] #[]] w fun e w' => ∃ (v : Value) (er : Int), e = .returned (.tuple #[v, .int .i64 er]) ∧ Below w.heap.size w w' ∧ ((er = 20 ∧ v = .slice none 0 0 ∧ ∃ q ∈ gs, (pcAt q.1 k).lk = true) ∨ (er = 0 ∧ QRow w' w.heap.size v (gs.map fun q => pcAt q.1 k) ∧ (∀ q ∈ gs, QOk (pcAt q.1 k).q) ∧ ∀ q ∈ gs, (pcAt q.1 k).lk = false)) := by
  obtain ⟨g, c, A2, c2, rfl, rfl, hcc⟩ := h.form
  have H := Lib.hid h
  have h6 := h.c6
  have h12 := h.r12
  obtain ⟨i0, hi0, hz0, hz1, hz2⟩ := info_parts infoQ
  have HI := Lib.hid hi0
  have HZ0 := Lib.hid hz0
  have HZ1 := Lib.hid hz1
  have HZ2 := Lib.hid hz2
  have HMK : Hid (∀ W, (Instr.makeSlice 65 (.int .i64 0) (.int .i64 (gs.length : Int))).run Tryz.prog W = .ok (.slice (some ⟨W.heap.size, 0, none⟩) 0 gs.length) (W.alloc (.cells (madeCells #[.bool false, .int .u64 0, .string ⟨#[]⟩, .int .u64 0, .string ⟨#[]⟩] (gs.length * 5)) 84))) := fun W => by
    have hr := run_make (P := Tryz.prog) (w := W) 65 84 i0 _ Tryz.underlying65 hi0 hz0 .i64 .i64 0 (gs.length : Int) (Int.le_refl _) (by omega) (by rw [hz2]; omega) (by omega)
    rw [hr, hz1]
    simp [Value.cells]
  clear hi0 hz0 hz1 hz2
  have HBOX : Hid (∀ W, Below (w.heap.size + 1) (w.alloc (.cells #[.slice (some ⟨g, 0, none⟩) cs.length c, .slice A2 gs.length c2] 29)) W → (W.cell? ⟨w.heap.size, 0, none⟩ = some (.slice (some ⟨g, 0, none⟩) cs.length c) ∧ W.cell? ⟨w.heap.size, 1, none⟩ = some (.slice A2 gs.length c2)) ∧ Below w.heap.size w W ∧ w.heap.size + 1 ≤ W.heap.size) := fun W h => by
    have hk := (h.block w.heap.size (by omega)).trans (Blk.new w _ _)
    exact ⟨⟨Blk.cell hk 0, Blk.cell hk 1⟩, ((Below.refl _ _).alloc (Nat.le_refl _) _).trans (h.mono (by omega)), by have := h.size; rwa [World.size_alloc] at this⟩
  have HCHK : Hid (∀ o, Calls Tryz.prog _ _ (w.alloc o) _) := Lib.hid (fun o => check_any _ _ cs b gs (w.alloc o) (h.below ((Below.refl _ _).alloc (Nat.le_refl _) o)))
  have HKD := Lib.hid hkd
  clear h hkd
  have d1 : ¬ ((k : Int) < 0) := by omega
  have d2 : ¬ ((cs.length : Int) ≤ (k : Int)) := by omega
  have d3 : decide ((k : Int) < 0) = false := by simp
  have d4 : decide ((cs.length : Int) ≤ (k : Int)) = false := by simp; omega
  go_enter Tryz.func55, Tryz.ntmps55
  go_wp2_with (go_at_call 15; refine (HCHK.out _).mono ?_; rintro e w2 ⟨rfl, hb2⟩; rw [World.size_alloc] at hb2; obtain ⟨⟨r0, r1⟩, hrw, hsz⟩ := HBOX.out _ hb2; obtain ⟨nm, kd, A3, k3, hk5, p0, p1, p2, hg, hkd, _⟩ := col_step (H.out.below hrw) hk; have e1 : kindOf kd = 1 := if_pos (hkd ▸ HKD.out); rw [e1] at p1; clear hkd e1)
  clear d1 d2 d3 d4
  have ha : ∀ o, (w2.alloc o).cell? ⟨w.heap.size, 1, none⟩ = some (.slice A2 gs.length c2) := fun o => (World.cell?_alloc_lt w2 o _ (by show w.heap.size < _; omega)).trans r1
  rw [HMK.out]
  go_wp2
  clear r0 r1 p0 p1 p2 ha
  have hs2 := hrw.size
  go_loopw [11, 43] (fun ov iv wr => ∃ j : Nat, j ≤ gs.length ∧ iv = .int .i64 j ∧ Hid (wr.ownsRow w.heap.size 84 5 ov j (qflat ((gs.take j).map fun q => pcAt q.1 k))) ∧ Hid (∀ q ∈ gs.take j, (pcAt q.1 k).lk = false ∧ QOk (pcAt q.1 k).q) ∧ Hid (Below w.heap.size w wr)) (fun _ iv _ => gs.length - (intOf iv).toNat)
  case atStart => exact ⟨0, Nat.zero_le _, rfl, World.ownsRow_made w2 _ gs.length hs2 (by unfold maxLen; omega) (by rw [size_madeCells]), (fun q hq => by simp at hq), hrw.alloc hs2 _⟩
  case round =>
    obtain ⟨j, hj, rfl, hown, hlk, hbel⟩ := hrel
    have hszr := hbel.out.size
    by_cases hgo : j < gs.length
    · obtain ⟨g2, A5, k5, rfl, q0, hrow⟩ := row_step (H.out.below hbel.out) hgo
      obtain ⟨g5, pc, rfl, hpe, hpok, z0, z1, z2, z3, z4, z5, z6⟩ := hrow wr (Below.refl _ _) k hk
      have hpe' := pcAt_eq hpe
      have HM := Lib.hid (List.getElem_mem hgo)
      have HPE := Lib.hid hpe'
      have HQK := Lib.hid hpok.1
      have HTK := Lib.hid (List.take_succ_eq_append_getElem hgo)
      have HCALL := Lib.hid (fun W => numbers1_any pc W)
      unfold cellV at HCALL
      generalize gs[j] = q at *
      clear hrow hpe hpe' hpok
      by_cases hl : pc.lk = true
      · rw [hl] at z0
        go_wp2
        go_ret2
        exact ⟨_, _, rfl, hbel.out, .inl ⟨rfl, rfl, q, HM.out, by rw [HPE.out]; exact hl⟩⟩
      · have hl : pc.lk = false := by cases h : pc.lk <;> simp_all
        rw [hl] at z0 HCALL
        go_wp2_with (first
          | (go_at_call 56; refine (HCALL.out _).mono ?_; rintro e w3 ⟨rfl, hb3⟩; have hs3 := hb3.size)
          | (at_builtin; refine wpList_append_own _ rfl _ _ 65 rfl w.heap.size 84 i0 _ 5 56 Tryz.underlying65 HI.out HZ0.out HZ1.out HZ2.out rfl (by decide) _ j _ rfl ((own_below hown.out hb3).alloc _) ⟨w3.heap.size, 0, none⟩ 1 1 [.bool pc.neg, .int .u64 pc.n, .string pc.s, .int .u64 pc.d, .string pc.s'] rfl rfl (new_read w3 _ _) (all_one rfl) (by unfold maxLen; omega) (by omega) (by simp; omega) ?_; intro v' w4 hown4 hgrow _hn))
        refine ⟨⟨j + 1, by omega, by go_num, ?_, ?_, ?_⟩, by simp [intOf]; omega⟩
        · show World.ownsRow _ _ _ _ _ _ _
          rw [HTK.out, List.map_append, List.map_cons, List.map_nil, HPE.out, qflat_snoc]
          exact hown4
        · show ∀ q ∈ _, _
          intro q' hq
          rw [HTK.out] at hq
          rcases List.mem_append.1 hq with hq | hq
          · exact hlk.out q' hq
          · rw [List.mem_singleton.1 hq, HPE.out]; exact ⟨hl, HQK.out⟩
        · exact ((hbel.out.trans (hb3.mono hszr)).alloc (by omega) _).grown hgrow (by simp; omega) (fun j hj => (own_base hown.out hj).1)
    · have hjn : j = gs.length := by omega
      subst hjn
      have hown' := hown.out
      have hlk' := hlk.out
      rw [List.take_length] at hown' hlk'
      have HO := Lib.hid hown'
      clear hown' hown
      go_wp2
      go_ret2
      exact ⟨_, _, rfl, hbel.out, .inr ⟨rfl, by unfold QRow; rw [List.length_map]; exact HO.out, fun q hq => (hlk' q hq).2, fun q hq => (hlk' q hq).1⟩⟩
end Go.Proofs.YthallgbggkgboaaGreatDoor.Gp
