/-
  ToolSpecs: tool.Spec, walked.
  And: 
-/
import Derived.Test.YtelehhfnomdneaaGreatDoorMc
namespace Go.Proofs.YtelehhfnomdneaaGreatDoor.Sp
open Go Go.RowKit Ut Tc

theorem VRaw.new (W : World) : VAt ((((W.alloc (.map #[] 0)).alloc (.map #[] 0)).alloc (.map #[] 0)).alloc (.cells #[.map (some W.heap.size), .map (some (W.heap.size + 1)), .map (some (W.heap.size + 1 + 1)), .slice none 0 0] 61)) W.heap.size (W.heap.size + 1 + 1 + 1) W.heap.size (W.heap.size + 1) (W.heap.size + 1 + 1) (W.heap.size + 4) (.slice none 0 0) [] := by
  have s1 : (W.alloc (.map #[] 0)).heap.size = W.heap.size + 1 := by simp
  have s2 : ((W.alloc (.map #[] 0)).alloc (.map #[] 0)).heap.size = W.heap.size + 2 := by simp
  have s3 : (((W.alloc (.map #[] 0)).alloc (.map #[] 0)).alloc (.map #[] 0)).heap.size = W.heap.size + 3 := by simp
  have m1 := MapIs.new W
  have m2 := MapIs.new (W.alloc (.map #[] 0))
  have m3 := MapIs.new ((W.alloc (.map #[] 0)).alloc (.map #[] 0))
  rw [s1] at m2
  rw [s2] at m3
  have hb := Blk.new (((W.alloc (.map #[] 0)).alloc (.map #[] 0)).alloc (.map #[] 0)) 61 #[.map (some W.heap.size), .map (some (W.heap.size + 1)), .map (some (W.heap.size + 2)), .slice none 0 0]
  rw [s3] at hb
  have al : ∀ {w : World} {g : Nat} {m : Mp} (o : Obj), MapIs w g m → MapIs (w.alloc o) g m := fun o h => h.keep (Below.heap_alloc _ o _ h.lt)
  exact ⟨hb, al _ (al _ (al _ m1)), al _ (al _ m2), al _ m3, World.ownsRow_nil _ _ _ _, ⟨by omega, by omega, by omega, by omega⟩, ⟨by omega, by omega, by omega, by omega⟩, ⟨by omega, by omega, by omega, by omega, by omega, by omega⟩, by simp⟩
theorem pickP_mem {t : Wd} : ∀ {l : Ch} {n : Nat}, pickP t l = some n → ∃ c ∈ l, c.2 = n
  | [], _, h => by cases h
  | c :: l, n, h => by
    unfold pickP at h
    split at h
    · injection h with h; exact ⟨c, List.mem_cons_self, h⟩
    · obtain ⟨d, hd, e⟩ := pickP_mem h; exact ⟨d, List.mem_cons_of_mem _ hd, e⟩
theorem ch_small : (∀ c ∈ howCh, c.2 < 100) ∧ (∀ c ∈ bendCh, c.2 < 100) ∧ (∀ c ∈ lossCh, c.2 < 100) := by decide
theorem numT_lt {t : Wd} {n : Nat} (h : numT t = some n) : n < 100 := by
  unfold numT at h
  split at h
  · injection h; omega
  · split at h
    · injection h; omega
    · split at h
      · injection h; omega
      · split at h
        · injection h; omega
        · cases h
theorem numOf_lt {k t : Wd} {n : Nat} (h : numOf k t = some n) : n < 100 := by
  unfold numOf at h
  cases hc : chOf k with
  | some l =>
    rw [hc] at h
    obtain ⟨c, hm, rfl⟩ := pickP_mem h
    unfold chOf at hc
    split at hc
    · injection hc with hc; subst hc; exact ch_small.1 c hm
    · split at hc
      · injection hc with hc; subst hc; exact ch_small.2.1 c hm
      · split at hc
        · injection hc with hc; subst hc; exact ch_small.2.2 c hm
        · cases hc
  | none =>
    rw [hc] at h
    dsimp only at h
    split at h
    · exact numT_lt h
    · cases h
theorem nO_lt : ∀ {acc : Acc} {k : Wd} {n : Nat}, nO acc k = some n → n < 100
  | [], _, _, h => by cases h
  | p :: l, k, n, h => by
    unfold nO at h
    split at h
    · cases hn : numOf p.1 p.2 with
      | none => rw [hn] at h; exact nO_lt (acc := l) h
      | some m => rw [hn] at h; injection h with h; exact h ▸ numOf_lt hn
    · exact nO_lt (acc := l) h
theorem nL_lt (acc : Acc) (k : Wd) : nL acc k < 100 := by
  unfold nL
  cases h : nO acc k with
  | some n => exact nO_lt h
  | none =>
    show (if _ then 1 else 0) < 100
    split <;> decide
theorem nL_in {acc : Acc} (h : leastK ∈ keysOf acc) (k : Wd) : (lk (numsM acc) k).getD (.int .i64 0) = nV (nL acc k) := by
  rw [lk_getD_num _ _ _ (lk_numsM acc k)]
  unfold nL
  rw [if_neg (fun hh => hh.2 h)]
theorem nO_fresh : ∀ {acc : Acc} {k : Wd}, k ∉ keysOf acc → nO acc k = none
  | [], _, _ => rfl
  | p :: l, k, h => by
    unfold nO
    rw [if_neg (fun e => h (by rw [← e]; exact List.mem_cons_self))]
    exact nO_fresh (acc := l) (fun hm => h (List.mem_cons_of_mem _ hm))
theorem fO_fresh : ∀ {acc : Acc} {k : Wd}, k ∉ keysOf acc → fO acc k = none
  | [], _, _ => rfl
  | p :: l, k, h => by
    unfold fO
    rw [if_neg (fun e => h (by rw [← e]; exact List.mem_cons_self))]
    exact fO_fresh (acc := l) (fun hm => h (List.mem_cons_of_mem _ hm))
theorem nL_out {acc : Acc} (h : leastK ∉ keysOf acc) (k : Wd) : (lk (numsM acc ++ [(leastK, .int .i64 1)]) k).getD (.int .i64 0) = nV (nL acc k) := by
  rw [lk_append, lk_numsM]
  unfold nL
  by_cases hk : k = leastK
  · subst hk
    rw [nO_fresh h, if_pos ⟨rfl, h⟩]
    rfl
  · rw [if_neg (fun hh => hk hh.1)]
    have : lk [(leastK, Value.int .i64 1)] k = none := if_neg (fun e => hk e.symm)
    rw [this]
    cases nO acc k <;> rfl
theorem fL (acc : Acc) (k : Wd) : (lk (fracsM acc) k).getD (.agg ⟨qz⟩) = .agg ⟨qOf (fD acc k)⟩ := lk_getD_frac _ _ _ (lk_fracsM acc k)
def TMainOut (w : World) (t1 : Wd) (kd : Nat) (ts : List Wd) (os : List (Option (Wd × Wd))) (z : Array Value) (e : Ending) (w' : World) : Prop :=
  Below w.heap.size w w' ∧ match (if ts.all isNm = true then runW [] os else none) with
  | none => e = .returned (.tuple #[.agg z, .int .i64 2])
  | some acc => ∃ cols sz, e = .returned (.tuple #[.agg ⟨specL kd (.string ⟨⟨t1⟩⟩) cols sz (nL acc) (fD acc)⟩, .int .i64 0]) ∧ w'.ownsRow w.heap.size 9 1 cols ts.length (ts.map sv) ∧ w'.ownsRow w.heap.size 3 1 sz (sizesP acc).length (nat64 (sizesP acc))
theorem TMainOut.bad {w w' : World} {t1 : Wd} {kd : Nat} {ts : List Wd} {os : List (Option (Wd × Wd))} {z : Array Value} {e : Ending} (h : (if ts.all isNm = true then runW [] os else none) = none) (hb : Below w.heap.size w w') (he : e = .returned (.tuple #[.agg z, .int .i64 2])) : TMainOut w t1 kd ts os z e w' := by
  unfold TMainOut
  rw [h]
  exact ⟨hb, he⟩
theorem own_mono {w : World} {B B' : Nat} {e : TypeId} {size n : Nat} {v : Value} {xs : List Value} (h : w.ownsRow B e size v n xs) (hb : B' ≤ B) : w.ownsRow B' e size v n xs := by
  refine ⟨h.1, ?_⟩
  rcases h.2 with h2 | ⟨g, cap, cur, rfl, h3, h4⟩
  · exact .inl h2
  · exact .inr ⟨g, cap, cur, rfl, Nat.le_trans hb h3, h4⟩
theorem WRow.below {w w' : World} {B : Nat} {v : Value} {ts : List Wd} (h : WRow w B v ts) (hb : Below w.heap.size w w') : WRow w' B v ts := own_belowS h hb
section
variable {w : World} {A : Option Addr} {n c : Nat} {bs : List ByteArray} {t0 t1 t2 : Wd} {os : List (Option (Wd × Wd))}
set_option maxHeartbeats 4000000 in
set_option maxRecDepth 100000 in
theorem tspec_main (h : WIn w A n c bs t0 t1 t2 os) (hm : MaxAt w) (hb : isNm t1 = true) {kd : Nat} (hk : pickP t0 kindsCh = some kd) :
    Calls Tryz.prog 6 #[.slice A n c] w fun e w' => TSpecOut w t0 t1 t2 os e w' := by
  have hg : goodP t0 t1 t2 os = if (cuts [] t2).all isNm = true then runW [] os else none := by unfold goodP colsOk; rw [hb, hk]; simp
  have HT : (fun (e : Ending) (w' : World) => TSpecOut w t0 t1 t2 os e w') = fun e w' => TMainOut w t1 kd (cuts [] t2) os ⟨zL⟩ e w' := by
    funext e w'
    unfold TSpecOut TMainOut
    rw [hg, hk]
    rfl
  rw [HT]
  clear HT hg
  obtain ⟨g, rfl, hgl, hnc, hcell⟩ := h.at_
  have HC := Lib.hid hcell
  have hno := h.ol
  have HNO := Lib.hid hno
  have h9 := h.n9
  have hn3 : 3 ≤ n := by omega
  have HN : Hid (∀ W, Calls Tryz.prog 10 #[.string ⟨⟨t1⟩⟩] W fun e w' => e = .returned (.bool true) ∧ Below W.heap.size W w') := Lib.hid fun W => hb ▸ named_any W h.m1
  have HP : Hid (∀ (W : World) (g : Nat), Blk W g 76 (chC kindsCh) → Calls Tryz.prog 11 #[.slice (some ⟨g, 0, none⟩) 9 9, .string ⟨⟨t0⟩⟩] W fun e w' => e = .returned (.tuple #[.int .i64 (kd : Int), .bool true]) ∧ Below W.heap.size W w') := Lib.hid fun W g hW => by
    have := tpick_any hW (n := 9) (c := 9) rfl (by decide) t0
    rw [hk] at this
    exact this
  have HMX := Lib.hid hm.lt
  have HM : Hid (∀ W, Below w.heap.size w W → MaxAt W) := Lib.hid fun W hW => maxKeep hm hm.lt hW
  have HS : Hid (∀ W, MaxAt W → Calls Tryz.prog 13 #[.string ⟨⟨t2⟩⟩, .string ⟨⟨[44]⟩⟩] W fun e w' => ∃ v, e = .returned v ∧ w'.ownsRow W.heap.size 9 1 v (cuts [] t2).length ((cuts [] t2).map sv) ∧ Below W.heap.size W w') := Lib.hid fun W hW => split_names W hW (List.mem_append_left _ h.m2)
  have HCN := Lib.hid (parts_names t2 h.m2)
  have HCL := Lib.hid (parts_len t2 (List.mem_append_left _ h.m2))
  have HOS := Lib.hid h.os
  obtain ⟨hz, hzs, hz1⟩ := zL_facts
  generalize (⟨zL⟩ : Array Value) = z at *
  have HZS := Lib.hid hzs
  have HZ1 := Lib.hid hz1
  clear h hb hk hcell hzs hz1 hm hno
  generalize cuts [] t2 = ts at *
  go_enter Tryz.func6, Tryz.ntmps6
  obtain ⟨q0, q1, q2, _⟩ := HC.out _ (Below.refl _ _)
  have hd : decide ((n : Int) < 3) = false := decide_eq_false (by omega)
  have hi0 : 0 < n := by omega
  go_wp2_with (first
    | (go_at_call 10; refine (HN.out _).mono ?_; rintro e w2 ⟨rfl, hb2⟩; have hZ2 := Lib.hid ((Blk.new w 42 z).keep hb2); have hB2 : Hid (Below w.heap.size w w2) := Lib.hid (((Below.refl _ _).alloc (Nat.le_refl _) _).trans (hb2.mono (by simp))); clear hb2; obtain ⟨r0, r1, r2, _⟩ := HC.out _ hB2.out))
  clear hd
  go_region_held3 (fun w' => w'.cell? ⟨g, 0, none⟩ = some (.string ⟨⟨t0⟩⟩)) (simp [*]) (first
    | (go_at_call 12; refine (kinds_any _).mono ?_; rintro e w3 ⟨rfl, hk3, hb3⟩; have hK3 := Lib.hid hk3; have hb3' : Below w2.heap.size w2 w3 := (Below.refl _ _).drew.trans hb3; have hZ3 := Lib.hid (hZ2.out.keep hb3'); have hB3 : Hid (Below w.heap.size w w3) := Lib.hid (hB2.out.trans (hb3'.mono hB2.out.size)); clear hk3 hb3 hb3'; obtain ⟨s0, s1, s2, _⟩ := HC.out _ hB3.out)
    | (go_at_call 11; refine (HP.out _ _ hK3.out).mono ?_; rintro e w4 ⟨rfl, hb4⟩; have hZ4 := Lib.hid (hZ3.out.keep hb4); have hB4 : Hid (Below w.heap.size w w4) := Lib.hid (hB3.out.trans (hb4.mono hB3.out.size)); clear hb4; obtain ⟨u0, u1, u2, _⟩ := HC.out _ hB4.out))
  all_goals clear q0 q1 q2 r0 r1 r2
  all_goals try clear s0 s1 s2
  all_goals go_wp2_with (first
    | (go_at_call 13; refine (HS.out _ (HM.out _ hB4.out)).mono ?_; rintro e w5 ⟨v5, rfl, hrow, hb5⟩; obtain ⟨A5, c5, rfl, _⟩ := own_slice hrow; have hR5 : Hid (WRow w5 w4.heap.size (.slice A5 ts.length c5) ts) := Lib.hid hrow; have hZ5 := Lib.hid (hZ4.out.keep hb5); have hB54 : Hid (w4.heap.size ≤ w5.heap.size) := Lib.hid hb5.size; have hB5 : Hid (Below w.heap.size w w5) := Lib.hid (hB4.out.trans (hb5.mono hB4.out.size)); clear hrow hb5))
  all_goals
    have hz5 : w4.heap.size ≤ w5.heap.size := hB54.out
    go_loopw [41] (fun iv wr => ∃ j : Nat, j ≤ ts.length ∧ iv = .int .i64 (j : Int) ∧ Hid (ts.all isNm = (ts.drop j).all isNm) ∧ Hid (WRow wr w4.heap.size (.slice A5 ts.length c5) ts) ∧ Hid (Blk wr w.heap.size 42 z) ∧ Hid (Below w.heap.size w wr) ∧ w4.heap.size ≤ wr.heap.size) (fun iv _ => ts.length - (intOf iv).toNat)
    case atStart => exact ⟨0, Nat.zero_le _, rfl, rfl, hR5.out, hZ5.out, hB5.out, hz5⟩
    case round =>
      obtain ⟨j, hj, rfl, hall, hrw, hzb, hbel, hsz⟩ := hrel
      have hj3 : j ≤ 3 := Nat.le_trans hj HCL.out
      by_cases hgo : j < ts.length
      · obtain ⟨gc, rfl, hg4, hgr, hcl⟩ := hrw.out.at_ hgo
        have HNM : Hid (∀ W, Calls Tryz.prog 10 #[.string ⟨⟨ts[j]⟩⟩] W fun e w' => e = .returned (.bool (isNm ts[j])) ∧ Below W.heap.size W w') := Lib.hid fun W => named_any W (HCN.out _ (List.getElem_mem hgo))
        have hdr : Hid ((ts.drop j).all isNm = (isNm ts[j] && (ts.drop (j + 1)).all isNm)) := by
          show _ = _
          rw [List.drop_eq_getElem_cons hgo]; rfl
        cases hN : isNm ts[j] with
        | false =>
          rw [hN] at HNM hdr
          have hno : Hid ((if ts.all isNm = true then runW [] os else none) = none) := Lib.hid (by rw [hall.out, hdr.out]; rfl)
          clear hN hall hdr
          generalize ts[j] = t' at *
          go_wp2_with (first
            | (go_at_call 10; refine (HNM.out _).mono ?_; rintro e w6 ⟨rfl, hb6⟩; have hZ6 := hzb.out.keep hb6; have hst := run_storeCells_blk hZ6 (HZS.out.symm ▸ infoSpec) rfl HZ1.out))
          exact bodyPost_ret (results_row2 rfl _ _ w.heap.size z _ _ rfl (setRow_alt hZ6).1 Tryz.underlying42 rfl (HZS.out.symm ▸ infoSpec)) rfl (TMainOut.bad hno.out (setRow_below (hbel.out.trans (hb6.mono hbel.out.size)) hZ6 (Nat.le_refl _)) rfl)
        | true =>
          rw [hN] at HNM hdr
          have hall2 : Hid (ts.all isNm = (ts.drop (j + 1)).all isNm) := Lib.hid (by rw [hall.out, hdr.out]; rfl)
          clear hN hall hdr
          generalize ts[j] = t' at *
          go_wp2_with (first
            | (go_at_call 10; refine (HNM.out _).mono ?_; rintro e w6 ⟨rfl, hb6⟩; have hZ6 := Lib.hid (hzb.out.keep hb6); have hR6 := Lib.hid (hrw.out.below hb6); have hB6 : Hid (Below w.heap.size w w6) := Lib.hid (hbel.out.trans (hb6.mono hbel.out.size)); have hs6 := hb6.size; clear hb6))
          exact ⟨⟨j + 1, Nat.succ_le_of_lt hgo, by go_num, hall2.out, hR6.out, hZ6.out, hB6.out, by omega⟩, by simp [intOf]; omega⟩
      · have hjn : j = ts.length := by omega
        have hok : Hid (ts.all isNm = true) := Lib.hid (by rw [hall.out, hjn, List.drop_length]; rfl)
        clear hall
        have hnc3 : (0 : Int) ≤ 3 := by decide
        have hmk : ∀ t W, (Instr.makeMap t none).run Tryz.prog W = .ok (.map (some W.heap.size)) (W.alloc (.map #[] 0)) := fun _ _ => rfl
        go_wp2
        all_goals
          obtain ⟨wq, hwq⟩ : ∃ wq, wq = wr := ⟨wr, rfl⟩
          subst hwq
          generalize hwv : World.alloc (World.alloc (World.alloc (World.alloc wq _) _) _) _ = wv
          have HV0 : Hid (VAt wv wq.heap.size (wq.heap.size + 1 + 1 + 1) wq.heap.size (wq.heap.size + 1) (wq.heap.size + 1 + 1) (wq.heap.size + 4) (.slice none 0 0) []) := Lib.hid (by rw [← hwv]; exact VRaw.new wq)
          have hb0 : Below wq.heap.size wq wv := by rw [← hwv]; exact ((((Below.refl _ _).alloc (Nat.le_refl _) _).alloc (by simp) _).alloc (by simp; omega) _).alloc (by simp; omega) _
          have HB0 : Hid (Below wq.heap.size wq wv) := Lib.hid hb0
          have HMQ : Hid (0 < wq.heap.size) := Lib.hid (Nat.lt_of_lt_of_le HMX.out hbel.out.size)
          clear hwv hb0
          go_loopw [57] (fun iv ws => ∃ (j : Nat) (sz : Value) (acc : Acc), j ≤ os.length ∧ iv = .int .i64 (j : Int) ∧ Hid (runW [] os = runW acc (os.drop j)) ∧ Hid (VAt ws wq.heap.size (wq.heap.size + 1 + 1 + 1) wq.heap.size (wq.heap.size + 1) (wq.heap.size + 1 + 1) (wq.heap.size + 4) sz acc) ∧ Hid (Below wq.heap.size wq ws)) (fun iv _ => os.length - (intOf iv).toNat)
          case atStart => exact ⟨0, _, [], Nat.zero_le _, rfl, rfl, HV0.out, HB0.out⟩
          case round =>
            obtain ⟨j2, sz, acc, hj2, rfl, hrun, hv, hbw⟩ := hrel
            have HBw : Hid (Below w.heap.size w wr) := Lib.hid (hbel.out.trans (hbw.out.mono hbel.out.size))
            have hos3 : os.length = n - 3 := by have := HNO.out; omega
            have HO3 := Lib.hid hos3
            by_cases hgo2' : j2 < n - 3
            · first
                | (exfalso; have := HNO.out; omega; done)
                | (have hgo2 : j2 < os.length := by omega
                   clear hos3
                   obtain ⟨bj, hbj, hwd⟩ := HOS.out j2 os[j2] (List.getElem?_eq_getElem hgo2)
                   have hcj : wr.cell? ⟨g, 3 + j2, none⟩ = some (.string bj) := (HC.out _ HBw.out).2.2.2 _ _ (by rw [Nat.add_comm]; exact hbj)
                   have HTK : Hid (Calls Tryz.prog 14 #[.pointer (some ⟨wq.heap.size + 1 + 1 + 1, 0, none⟩), .string bj] wr fun e w' => TakeOut wr wq.heap.size (wq.heap.size + 1 + 1 + 1) wq.heap.size (wq.heap.size + 1) (wq.heap.size + 1 + 1) (wq.heap.size + 4) acc (okW acc os[j2]) (addW acc os[j2]) e w') := Lib.hid (take_any hv.out (HM.out _ HBw.out) hwd hbw.out.size HMQ.out)
                   have hdr : Hid (runW acc (os.drop j2) = if okW acc os[j2] = true then runW (addW acc os[j2]) (os.drop (j2 + 1)) else none) := by
                     show _ = _
                     rw [List.drop_eq_getElem_cons hgo2]; rfl
                   cases hN : okW acc os[j2] with
                   | false =>
                     rw [hN] at HTK hdr
                     have hno : Hid ((if ts.all isNm = true then runW [] os else none) = none) := Lib.hid (by rw [hok.out, hrun.out, hdr.out]; rfl)
                     clear hN hrun hdr
                     generalize os[j2] = o' at *
                     have hZw : Hid (Blk wr w.heap.size 42 z) := Lib.hid (hzb.out.keep hbw.out)
                     go_wp2_with (first
                       | (go_at_call 14; refine HTK.out.mono ?_; rintro e w6 ⟨rfl, hb6, _⟩; have hZ6 := hzb.out.keep (hbw.out.trans hb6); have hB6 := hbel.out.trans ((hbw.out.trans hb6).mono hbel.out.size); have hst := run_storeCells_blk hZ6 (HZS.out.symm ▸ infoSpec) rfl HZ1.out))
                     exact bodyPost_ret (results_row2 rfl _ _ w.heap.size z _ _ rfl (setRow_alt hZ6).1 Tryz.underlying42 rfl (HZS.out.symm ▸ infoSpec)) rfl (TMainOut.bad hno.out (setRow_below hB6 hZ6 (Nat.le_refl _)) rfl)
                   | true =>
                     rw [hN] at HTK hdr
                     have hrun2 : Hid (runW [] os = runW (addW acc os[j2]) (os.drop (j2 + 1))) := Lib.hid (by rw [hrun.out, hdr.out]; rfl)
                     clear hN hrun hdr
                     generalize os[j2] = o' at *
                     go_wp2_with (first
                       | (go_at_call 14; refine HTK.out.mono ?_; rintro e w6 ⟨rfl, hb6, hv6⟩; obtain ⟨sz6, hv6⟩ := hv6 rfl; have hV6 := Lib.hid hv6; have hB6 : Hid (Below wq.heap.size wq w6) := Lib.hid (hbw.out.trans hb6); clear hb6 hv6))
                     exact ⟨⟨j2 + 1, sz6, _, by have := HO3.out; omega, by go_num, hrun2.out, hV6.out, hB6.out⟩, by simp [intOf]; have := HO3.out; omega⟩)
            · have hle : ¬ j2 < os.length := by omega
              have hacc : Hid (runW [] os = some acc) := Lib.hid (by rw [hrun.out, List.drop_eq_nil_of_le (by omega)]; rfl)
              clear hrun hle hos3
              have HVW : Hid (VRaw wr wq.heap.size (wq.heap.size + 1 + 1 + 1) wq.heap.size (wq.heap.size + 1) (wq.heap.size + 1 + 1) (wq.heap.size + 4) sz (seenM acc) (numsM acc) (fracsM acc) (sizesP acc)) := hv
              obtain ⟨y0, y1, y2, y3⟩ := HVW.out.cells
              by_cases hls : leastK ∈ keysOf acc
              · have hrun : _ = Result.ok (Value.bool true) wr := (run_lk (P := Tryz.prog) Tryz.underlying57 Tryz.underlying9 (zB wr) HVW.out.m1 leastK).trans (by rw [lk_seen, if_pos hls]; rfl)
                have HSP0 := spec_any HVW.out (nL_in hls) (fL acc) (nL_lt acc)
                have hcz : ((⟨specL 0 (.string ⟨#[]⟩) (.slice none 0 0) sz (nL acc) (fD acc)⟩ : Array Value)).size = 70 := rfl
                have hc1 : ((⟨specL 0 (.string ⟨#[]⟩) (.slice none 0 0) sz (nL acc) (fD acc)⟩ : Array Value)).all (·.oneCell') = true := by
                  obtain ⟨_, _, rfl, _⟩ := own_slice HVW.out.own
                  rw [← Array.all_toList]; rfl
                have hfin : ((((⟨specL 0 (.string ⟨#[]⟩) (.slice none 0 0) sz (nL acc) (fD acc)⟩ : Array Value)).setIfInBounds 0 (.int .i64 (kd : Int))).setIfInBounds 4 (.string ⟨⟨t1⟩⟩)).setIfInBounds 5 (.slice A5 ts.length c5) = ⟨specL kd (.string ⟨⟨t1⟩⟩) (.slice A5 ts.length c5) sz (nL acc) (fD acc)⟩ := rfl
                have hfin1 : ((⟨specL kd (.string ⟨⟨t1⟩⟩) (.slice A5 ts.length c5) sz (nL acc) (fD acc)⟩ : Array Value)).all (·.oneCell') = true := by
                  obtain ⟨_, _, rfl, _⟩ := own_slice HVW.out.own
                  rw [← Array.all_toList]; rfl
                have hfinz : ((⟨specL kd (.string ⟨⟨t1⟩⟩) (.slice A5 ts.length c5) sz (nL acc) (fD acc)⟩ : Array Value)).size = 70 := rfl
                generalize (⟨specL 0 (.string ⟨#[]⟩) (.slice none 0 0) sz (nL acc) (fD acc)⟩ : Array Value) = cs at *
                generalize hCF : (⟨specL kd (.string ⟨⟨t1⟩⟩) (.slice A5 ts.length c5) sz (nL acc) (fD acc)⟩ : Array Value) = CF at *
                have HCF := Lib.hid hCF
                have HSP := Lib.hid HSP0
                have HCZ := Lib.hid hcz
                have HC1 := Lib.hid hc1
                have HFIN := Lib.hid hfin
                have HFIN1 := Lib.hid hfin1
                have HFINZ := Lib.hid hfinz
                clear hls HSP0 hcz hc1 hfin hfin1 hfinz hCF
                unfold leastK at hrun
                go_wp2_with (first
                  | (go_at_call 15; refine HSP.out.mono ?_; rintro e w7 ⟨rfl, hb7⟩; have hst7 := run_storeCells_new (P := Tryz.prog) w7 42 z cs (HCZ.out.symm ▸ infoSpec) (HZS.out.trans HCZ.out.symm) HC1.out; have HB7 : Hid (Below wq.heap.size wq w7) := Lib.hid (hbw.out.trans (hb7.mono hbw.out.size)); have HV7 := Lib.hid (HVW.out.below hb7); clear hb7))
                generalize hW8 : World.alloc w7 _ = W8
                have HB8 : Hid (Below wq.heap.size wq W8) := Lib.hid (by rw [← hW8]; exact HB7.out.alloc HB7.out.size _)
                have HB78 : Hid (Below w7.heap.size w7 W8) := Lib.hid (by rw [← hW8]; exact (Below.refl _ _).alloc (Nat.le_refl _) _)
                have hC8 : Blk W8 w7.heap.size 42 cs := by rw [← hW8]; exact Blk.new w7 _ _
                have HG7 : Hid (wq.heap.size + 4 ≤ w7.heap.size) := Lib.hid HV7.out.sz_
                have HGG := Lib.hid (rfl : w7.heap.size = w7.heap.size)
                have hq1 : W8.cell? ⟨g, 1, none⟩ = some (.string ⟨⟨t1⟩⟩) := (HC.out _ (hbel.out.trans (HB8.out.mono hbel.out.size))).2.1
                have hGle : w.heap.size < w7.heap.size := by have h1 := hbel.out.size; have h2 := HG7.out; omega
                generalize hG : w7.heap.size = G at HB78 HG7 hC8 hq1 hGle ⊢
                have HGe := Lib.hid hG
                clear hW8 hst7 hG HGG
                have hsz8 := HCZ.out
                have hi1 : (1 : Int) < (n : Int) := by omega
                have HC8 := Lib.hid hC8
                have b1 := hC8.set_ 0 (.int .i64 (kd : Int))
                have b2 := b1.set_ 4 (.string ⟨⟨t1⟩⟩)
                have b3 := b2.set_ 5 (.slice A5 ts.length c5)
                rw [HFIN.out] at b3
                have hx0 : cs[0]? = some cs[0] := Array.getElem?_eq_getElem (by omega)
                have hx4 : cs[4]? = some cs[4] := Array.getElem?_eq_getElem (by omega)
                have hx5 : cs[5]? = some cs[5] := Array.getElem?_eq_getElem (by omega)
                have p0 := (hC8.cell 0).trans hx0
                have p4 := (b1.cell 4).trans ((Array.getElem?_setIfInBounds_ne (by decide)).trans hx4)
                have p5 := (b2.cell 5).trans ((Array.getElem?_setIfInBounds_ne (by decide)).trans ((Array.getElem?_setIfInBounds_ne (by decide)).trans hx5))
                have f0 := hC8.frozen 0
                have f4 := b1.frozen 4
                have f5 := b2.frozen 5
                have HB3 := Lib.hid b3
                clear hx0 hx4 hx5 b1 b2 b3 hC8
                generalize cs[0] = cs0 at *
                generalize cs[4] = cs4 at *
                generalize cs[5] = cs5 at *
                have hGg : (⟨G, 0, none⟩ : Addr).block ≠ (⟨g, 1, none⟩ : Addr).block := by show G ≠ g; omega
                have e1 := (World.cell?_setCell_far W8 ⟨G, 0, none⟩ ⟨g, 1, none⟩ (.int .i64 (kd : Int)) hGg).trans hq1
                have e2 := (World.cell?_setCell_far _ ⟨G, 4, none⟩ ⟨g, 1, none⟩ (.string ⟨⟨t1⟩⟩) hGg).trans e1
                have e3 := (World.cell?_setCell_far _ ⟨G, 5, none⟩ ⟨g, 1, none⟩ (.slice A5 ts.length c5) hGg).trans e2
                have HE1 := Lib.hid e1
                have HE2 := Lib.hid e2
                have HE3 := Lib.hid e3
                clear e1 e2 e3 hGg
                refine wp_region_held_drew (S := fun w' => w'.cell? ⟨g, 1, none⟩ = some (.string ⟨⟨t1⟩⟩)) (by kernel_rfl) hq1 (fun hHeld => ?_)
                refine wpAnyH_take (i := 0) (oi := _) (v := ?_) rfl (by kernel_rfl) (by kernel_rfl) (by kernel_rfl) (fun _ _ _ h => h) (Or.inl ⟨by rfl, ?_⟩) (by assumption) ?_
                rotate_left
                · (intro w' hSw; (try dsimp only at hSw); (try simp only [List.getElem_toArray, List.getElem_cons_zero]); go_simp; try (with_reducible rfl))
                try simp only [Act.put, List.setIfInBounds_toArray, List.set_cons_zero, List.set_cons_succ, List.getElem_toArray, List.getElem_cons_zero]
                refine wpAnyH_take (i := 1) (oi := _) (v := ?_) rfl (by kernel_rfl) (by kernel_rfl) (by kernel_rfl) (fun _ _ _ h => h) (Or.inl ⟨by rfl, ?_⟩) (by assumption) ?_
                rotate_left
                · (intro w' hSw; (try dsimp only at hSw); (try simp only [List.getElem_toArray, List.getElem_cons_zero, List.getElem_cons_succ]); go_simp; try (with_reducible rfl))
                try simp only [Act.put, List.setIfInBounds_toArray, List.set_cons_zero, List.set_cons_succ, List.getElem_toArray, List.getElem_cons_zero, List.getElem_cons_succ]
                refine wpAnyH_take (i := 2) (oi := _) (v := ?_) rfl (by kernel_rfl) (by kernel_rfl) (by kernel_rfl) (fun _ _ _ h => h) (Or.inl ⟨by rfl, ?_⟩) (by assumption) ?_
                rotate_left
                · (intro w' hSw; (try dsimp only at hSw); (try simp only [List.getElem_toArray, List.getElem_cons_zero, List.getElem_cons_succ]); go_simp; try (with_reducible rfl))
                try simp only [Act.put, List.setIfInBounds_toArray, List.set_cons_zero, List.set_cons_succ, List.getElem_toArray, List.getElem_cons_zero, List.getElem_cons_succ]
                refine wpAnyH_take (i := 3) (oi := _) (v := ?_) rfl (by kernel_rfl) (by kernel_rfl) (by kernel_rfl) (fun _ _ _ h => h) (Or.inl ⟨by rfl, ?_⟩) (by assumption) ?_
                rotate_left
                · (intro w' hSw; (try dsimp only at hSw); (try simp only [List.getElem_toArray, List.getElem_cons_zero, List.getElem_cons_succ]); go_simp; try (with_reducible rfl))
                try simp only [Act.put, List.setIfInBounds_toArray, List.set_cons_zero, List.set_cons_succ, List.getElem_toArray, List.getElem_cons_zero, List.getElem_cons_succ]
                refine wpAnyH_take (i := 4) (oi := _) (v := ?_) rfl (by kernel_rfl) (by kernel_rfl) (by kernel_rfl) (fun _ _ _ h => h) (Or.inl ⟨by rfl, ?_⟩) (by assumption) ?_
                rotate_left
                · (intro w' hSw; (try dsimp only at hSw); (try simp only [List.getElem_toArray, List.getElem_cons_zero, List.getElem_cons_succ]); go_simp; try (with_reducible rfl))
                try simp only [Act.put, List.setIfInBounds_toArray, List.set_cons_zero, List.set_cons_succ, List.getElem_toArray, List.getElem_cons_zero, List.getElem_cons_succ]
                refine wpAnyH_take (i := 5) (oi := _) (v := ?_) rfl (by kernel_rfl) (by kernel_rfl) (by kernel_rfl) (fun _ _ _ h => h) (Or.inl ⟨by rfl, ?_⟩) (by assumption) ?_
                rotate_left
                · (intro w' hSw; (try dsimp only at hSw); (try simp only [List.getElem_toArray, List.getElem_cons_zero, List.getElem_cons_succ]); go_simp; try (with_reducible rfl))
                try simp only [Act.put, List.setIfInBounds_toArray, List.set_cons_zero, List.set_cons_succ, List.getElem_toArray, List.getElem_cons_zero, List.getElem_cons_succ]
                refine wpAnyH_ready (rs := [6]) (by kernel_rfl) (by simp) ?_
                refine AllReadyH.cons rfl (fun K hK => ?_) AllReadyH.nil
                try simp only [List.getElem_toArray, List.getElem_cons_zero, List.getElem_cons_succ]
                go_simp
                refine hK.out _ _ (by exact HE1.out) (fun hHeld2 => ?_)
                clear hK K
                try simp only [Act.put, List.setIfInBounds_toArray, List.set_cons_zero, List.set_cons_succ, List.getElem_toArray, List.getElem_cons_zero, List.getElem_cons_succ]
                refine wpAnyH_take (i := 7) (oi := _) (v := ?_) rfl (by kernel_rfl) (by kernel_rfl) (by kernel_rfl) (fun _ _ _ h => h) (Or.inl ⟨by rfl, ?_⟩) (by assumption) ?_
                rotate_left
                · (intro w' hSw; (try dsimp only at hSw); (try simp only [List.getElem_toArray, List.getElem_cons_zero, List.getElem_cons_succ]); go_simp; try (with_reducible rfl))
                try simp only [Act.put, List.setIfInBounds_toArray, List.set_cons_zero, List.set_cons_succ, List.getElem_toArray, List.getElem_cons_zero, List.getElem_cons_succ]
                refine wpAnyH_ready (rs := [8]) (by kernel_rfl) (by simp) ?_
                refine AllReadyH.cons rfl (fun K hK => ?_) AllReadyH.nil
                try simp only [List.getElem_toArray, List.getElem_cons_zero, List.getElem_cons_succ]
                go_simp
                refine hK.out _ _ (by exact HE2.out) (fun hHeld2 => ?_)
                clear hK K
                try simp only [Act.put, List.setIfInBounds_toArray, List.set_cons_zero, List.set_cons_succ, List.getElem_toArray, List.getElem_cons_zero, List.getElem_cons_succ]
                refine wpAnyH_take (i := 9) (oi := _) (v := ?_) rfl (by kernel_rfl) (by kernel_rfl) (by kernel_rfl) (fun _ _ _ h => h) (Or.inl ⟨by rfl, ?_⟩) (by assumption) ?_
                rotate_left
                · (intro w' hSw; (try dsimp only at hSw); (try simp only [List.getElem_toArray, List.getElem_cons_zero, List.getElem_cons_succ]); go_simp; try (with_reducible rfl))
                try simp only [Act.put, List.setIfInBounds_toArray, List.set_cons_zero, List.set_cons_succ, List.getElem_toArray, List.getElem_cons_zero, List.getElem_cons_succ]
                refine wpAnyH_ready (rs := [10]) (by kernel_rfl) (by simp) ?_
                refine AllReadyH.cons rfl (fun K hK => ?_) AllReadyH.nil
                try simp only [List.getElem_toArray, List.getElem_cons_zero, List.getElem_cons_succ]
                go_simp
                refine hK.out _ _ (by exact HE3.out) (fun hHeld2 => ?_)
                clear hK K
                try simp only [Act.put, List.setIfInBounds_toArray, List.set_cons_zero, List.set_cons_succ, List.getElem_toArray, List.getElem_cons_zero, List.getElem_cons_succ]
                refine wpAnyH_done (by kernel_rfl) ?_ _
                generalize hWf : World.drew _ = Wf
                have hBf : Below G w7 Wf := by rw [← hWf]; exact (((HB78.out.setCell (Nat.le_refl _) _).setCell (Nat.le_refl _) _).setCell (Nat.le_refl _) _).drew
                have hCf : Blk Wf G 42 CF := by rw [← hWf]; exact HB3.out
                clear hWf
                have HBf := Lib.hid hBf
                have hBq : Below wq.heap.size wq Wf := HB7.out.trans (hBf.mono (by have := HG7.out; omega))
                have hBw : Below w.heap.size w Wf := hbel.out.trans (hBq.mono hbel.out.size)
                have hZf := Lib.hid (hzb.out.keep hBq)
                have hld := run_loadCells_blk hCf HFINZ.out
                have hst := run_storeCells_blk (cs := CF) hZf.out (HFINZ.out.symm ▸ infoSpec) (HZS.out.trans HFINZ.out.symm) HFIN1.out
                have HBQ := Lib.hid hBq
                have HBW := Lib.hid hBw
                clear hBq hBw hBf p0 p4 p5 f0 f4 f5 hHeld hHeld2
                go_wp2_with (first | (refine wpList_load_row Wf rfl 42 (.tmp 12) rfl G CF 42 (0, 0) _ rfl hCf Tryz.underlying42 rfl (HFINZ.out.symm ▸ infoSpec) ?_))
                obtain ⟨hs1, hs2, _⟩ := setRow_alt (cs := CF) hZf.out
                refine bodyPost_ret (results_row2 rfl _ _ w.heap.size CF _ _ rfl hs1 Tryz.underlying42 rfl (HFINZ.out.symm ▸ infoSpec)) rfl ?_
                unfold TMainOut
                rw [hok.out, if_pos rfl, hacc.out]
                have hw4 : w.heap.size < w4.heap.size := hZ4.out.lt
                have hwq : w.heap.size ≤ wq.heap.size := hbel.out.size
                exact ⟨setRow_below HBW.out hZf.out (Nat.le_refl _), _, _, by rw [← HCF.out]; rfl, own_mono (own_alt (own_belowS hrw.out HBQ.out) hs2 (fun g hg e => by omega)) (by omega), own_mono (own_alt (own_belowS HV7.out.own (HGe.out ▸ HBf.out)) hs2 (fun g hg e => by omega)) (by omega)⟩
              · have hrun : _ = Result.ok (Value.bool false) wr := (run_lk (P := Tryz.prog) Tryz.underlying57 Tryz.underlying9 (zB wr) HVW.out.m1 leastK).trans (by rw [lk_seen, if_neg hls]; rfl)
                obtain ⟨wu, hru, hvu, hbu, hsu⟩ := HVW.out.up2 leastK (.int .i64 1) (lk_nums hls)
                have HVU := Lib.hid hvu
                have hbu2 : Hid (Below wq.heap.size wq wu) := Lib.hid (hbw.out.trans hbu)
                obtain ⟨k0, k1, k2, k3⟩ := hvu.cells
                have HSP0 := spec_any hvu (nL_out hls) (fL acc) (nL_lt acc)
                clear hvu hbu hsu
                have hcz : ((⟨specL 0 (.string ⟨#[]⟩) (.slice none 0 0) sz (nL acc) (fD acc)⟩ : Array Value)).size = 70 := rfl
                have hc1 : ((⟨specL 0 (.string ⟨#[]⟩) (.slice none 0 0) sz (nL acc) (fD acc)⟩ : Array Value)).all (·.oneCell') = true := by
                  obtain ⟨_, _, rfl, _⟩ := own_slice HVW.out.own
                  rw [← Array.all_toList]; rfl
                have hfin : ((((⟨specL 0 (.string ⟨#[]⟩) (.slice none 0 0) sz (nL acc) (fD acc)⟩ : Array Value)).setIfInBounds 0 (.int .i64 (kd : Int))).setIfInBounds 4 (.string ⟨⟨t1⟩⟩)).setIfInBounds 5 (.slice A5 ts.length c5) = ⟨specL kd (.string ⟨⟨t1⟩⟩) (.slice A5 ts.length c5) sz (nL acc) (fD acc)⟩ := rfl
                have hfin1 : ((⟨specL kd (.string ⟨⟨t1⟩⟩) (.slice A5 ts.length c5) sz (nL acc) (fD acc)⟩ : Array Value)).all (·.oneCell') = true := by
                  obtain ⟨_, _, rfl, _⟩ := own_slice HVW.out.own
                  rw [← Array.all_toList]; rfl
                have hfinz : ((⟨specL kd (.string ⟨⟨t1⟩⟩) (.slice A5 ts.length c5) sz (nL acc) (fD acc)⟩ : Array Value)).size = 70 := rfl
                generalize (⟨specL 0 (.string ⟨#[]⟩) (.slice none 0 0) sz (nL acc) (fD acc)⟩ : Array Value) = cs at *
                generalize hCF : (⟨specL kd (.string ⟨⟨t1⟩⟩) (.slice A5 ts.length c5) sz (nL acc) (fD acc)⟩ : Array Value) = CF at *
                have HCF := Lib.hid hCF
                have HSP := Lib.hid HSP0
                have HCZ := Lib.hid hcz
                have HC1 := Lib.hid hc1
                have HFIN := Lib.hid hfin
                have HFIN1 := Lib.hid hfin1
                have HFINZ := Lib.hid hfinz
                clear hls HSP0 hcz hc1 hfin hfin1 hfinz hCF
                unfold leastK at hrun
                unfold leastK at hru
                go_wp2_with (first
                  | (go_at_call 15; refine HSP.out.mono ?_; rintro e w7 ⟨rfl, hb7⟩; have hst7 := run_storeCells_new (P := Tryz.prog) w7 42 z cs (HCZ.out.symm ▸ infoSpec) (HZS.out.trans HCZ.out.symm) HC1.out; have HB7 : Hid (Below wq.heap.size wq w7) := Lib.hid (hbu2.out.trans (hb7.mono hbu2.out.size)); have HV7 := Lib.hid (HVU.out.below hb7); clear hb7))
                generalize hW8 : World.alloc w7 _ = W8
                have HB8 : Hid (Below wq.heap.size wq W8) := Lib.hid (by rw [← hW8]; exact HB7.out.alloc HB7.out.size _)
                have HB78 : Hid (Below w7.heap.size w7 W8) := Lib.hid (by rw [← hW8]; exact (Below.refl _ _).alloc (Nat.le_refl _) _)
                have hC8 : Blk W8 w7.heap.size 42 cs := by rw [← hW8]; exact Blk.new w7 _ _
                have HG7 : Hid (wq.heap.size + 4 ≤ w7.heap.size) := Lib.hid HV7.out.sz_
                have HGG := Lib.hid (rfl : w7.heap.size = w7.heap.size)
                have hq1 : W8.cell? ⟨g, 1, none⟩ = some (.string ⟨⟨t1⟩⟩) := (HC.out _ (hbel.out.trans (HB8.out.mono hbel.out.size))).2.1
                have hGle : w.heap.size < w7.heap.size := by have h1 := hbel.out.size; have h2 := HG7.out; omega
                generalize hG : w7.heap.size = G at HB78 HG7 hC8 hq1 hGle ⊢
                have HGe := Lib.hid hG
                clear hW8 hst7 hG HGG
                have hsz8 := HCZ.out
                have hi1 : (1 : Int) < (n : Int) := by omega
                have HC8 := Lib.hid hC8
                have b1 := hC8.set_ 0 (.int .i64 (kd : Int))
                have b2 := b1.set_ 4 (.string ⟨⟨t1⟩⟩)
                have b3 := b2.set_ 5 (.slice A5 ts.length c5)
                rw [HFIN.out] at b3
                have hx0 : cs[0]? = some cs[0] := Array.getElem?_eq_getElem (by omega)
                have hx4 : cs[4]? = some cs[4] := Array.getElem?_eq_getElem (by omega)
                have hx5 : cs[5]? = some cs[5] := Array.getElem?_eq_getElem (by omega)
                have p0 := (hC8.cell 0).trans hx0
                have p4 := (b1.cell 4).trans ((Array.getElem?_setIfInBounds_ne (by decide)).trans hx4)
                have p5 := (b2.cell 5).trans ((Array.getElem?_setIfInBounds_ne (by decide)).trans ((Array.getElem?_setIfInBounds_ne (by decide)).trans hx5))
                have f0 := hC8.frozen 0
                have f4 := b1.frozen 4
                have f5 := b2.frozen 5
                have HB3 := Lib.hid b3
                clear hx0 hx4 hx5 b1 b2 b3 hC8
                generalize cs[0] = cs0 at *
                generalize cs[4] = cs4 at *
                generalize cs[5] = cs5 at *
                have hGg : (⟨G, 0, none⟩ : Addr).block ≠ (⟨g, 1, none⟩ : Addr).block := by show G ≠ g; omega
                have e1 := (World.cell?_setCell_far W8 ⟨G, 0, none⟩ ⟨g, 1, none⟩ (.int .i64 (kd : Int)) hGg).trans hq1
                have e2 := (World.cell?_setCell_far _ ⟨G, 4, none⟩ ⟨g, 1, none⟩ (.string ⟨⟨t1⟩⟩) hGg).trans e1
                have e3 := (World.cell?_setCell_far _ ⟨G, 5, none⟩ ⟨g, 1, none⟩ (.slice A5 ts.length c5) hGg).trans e2
                have HE1 := Lib.hid e1
                have HE2 := Lib.hid e2
                have HE3 := Lib.hid e3
                clear e1 e2 e3 hGg
                refine wp_region_held_drew (S := fun w' => w'.cell? ⟨g, 1, none⟩ = some (.string ⟨⟨t1⟩⟩)) (by kernel_rfl) hq1 (fun hHeld => ?_)
                refine wpAnyH_take (i := 0) (oi := _) (v := ?_) rfl (by kernel_rfl) (by kernel_rfl) (by kernel_rfl) (fun _ _ _ h => h) (Or.inl ⟨by rfl, ?_⟩) (by assumption) ?_
                rotate_left
                · (intro w' hSw; (try dsimp only at hSw); (try simp only [List.getElem_toArray, List.getElem_cons_zero]); go_simp; try (with_reducible rfl))
                try simp only [Act.put, List.setIfInBounds_toArray, List.set_cons_zero, List.set_cons_succ, List.getElem_toArray, List.getElem_cons_zero]
                refine wpAnyH_take (i := 1) (oi := _) (v := ?_) rfl (by kernel_rfl) (by kernel_rfl) (by kernel_rfl) (fun _ _ _ h => h) (Or.inl ⟨by rfl, ?_⟩) (by assumption) ?_
                rotate_left
                · (intro w' hSw; (try dsimp only at hSw); (try simp only [List.getElem_toArray, List.getElem_cons_zero, List.getElem_cons_succ]); go_simp; try (with_reducible rfl))
                try simp only [Act.put, List.setIfInBounds_toArray, List.set_cons_zero, List.set_cons_succ, List.getElem_toArray, List.getElem_cons_zero, List.getElem_cons_succ]
                refine wpAnyH_take (i := 2) (oi := _) (v := ?_) rfl (by kernel_rfl) (by kernel_rfl) (by kernel_rfl) (fun _ _ _ h => h) (Or.inl ⟨by rfl, ?_⟩) (by assumption) ?_
                rotate_left
                · (intro w' hSw; (try dsimp only at hSw); (try simp only [List.getElem_toArray, List.getElem_cons_zero, List.getElem_cons_succ]); go_simp; try (with_reducible rfl))
                try simp only [Act.put, List.setIfInBounds_toArray, List.set_cons_zero, List.set_cons_succ, List.getElem_toArray, List.getElem_cons_zero, List.getElem_cons_succ]
                refine wpAnyH_take (i := 3) (oi := _) (v := ?_) rfl (by kernel_rfl) (by kernel_rfl) (by kernel_rfl) (fun _ _ _ h => h) (Or.inl ⟨by rfl, ?_⟩) (by assumption) ?_
                rotate_left
                · (intro w' hSw; (try dsimp only at hSw); (try simp only [List.getElem_toArray, List.getElem_cons_zero, List.getElem_cons_succ]); go_simp; try (with_reducible rfl))
                try simp only [Act.put, List.setIfInBounds_toArray, List.set_cons_zero, List.set_cons_succ, List.getElem_toArray, List.getElem_cons_zero, List.getElem_cons_succ]
                refine wpAnyH_take (i := 4) (oi := _) (v := ?_) rfl (by kernel_rfl) (by kernel_rfl) (by kernel_rfl) (fun _ _ _ h => h) (Or.inl ⟨by rfl, ?_⟩) (by assumption) ?_
                rotate_left
                · (intro w' hSw; (try dsimp only at hSw); (try simp only [List.getElem_toArray, List.getElem_cons_zero, List.getElem_cons_succ]); go_simp; try (with_reducible rfl))
                try simp only [Act.put, List.setIfInBounds_toArray, List.set_cons_zero, List.set_cons_succ, List.getElem_toArray, List.getElem_cons_zero, List.getElem_cons_succ]
                refine wpAnyH_take (i := 5) (oi := _) (v := ?_) rfl (by kernel_rfl) (by kernel_rfl) (by kernel_rfl) (fun _ _ _ h => h) (Or.inl ⟨by rfl, ?_⟩) (by assumption) ?_
                rotate_left
                · (intro w' hSw; (try dsimp only at hSw); (try simp only [List.getElem_toArray, List.getElem_cons_zero, List.getElem_cons_succ]); go_simp; try (with_reducible rfl))
                try simp only [Act.put, List.setIfInBounds_toArray, List.set_cons_zero, List.set_cons_succ, List.getElem_toArray, List.getElem_cons_zero, List.getElem_cons_succ]
                refine wpAnyH_ready (rs := [6]) (by kernel_rfl) (by simp) ?_
                refine AllReadyH.cons rfl (fun K hK => ?_) AllReadyH.nil
                try simp only [List.getElem_toArray, List.getElem_cons_zero, List.getElem_cons_succ]
                go_simp
                refine hK.out _ _ (by exact HE1.out) (fun hHeld2 => ?_)
                clear hK K
                try simp only [Act.put, List.setIfInBounds_toArray, List.set_cons_zero, List.set_cons_succ, List.getElem_toArray, List.getElem_cons_zero, List.getElem_cons_succ]
                refine wpAnyH_take (i := 7) (oi := _) (v := ?_) rfl (by kernel_rfl) (by kernel_rfl) (by kernel_rfl) (fun _ _ _ h => h) (Or.inl ⟨by rfl, ?_⟩) (by assumption) ?_
                rotate_left
                · (intro w' hSw; (try dsimp only at hSw); (try simp only [List.getElem_toArray, List.getElem_cons_zero, List.getElem_cons_succ]); go_simp; try (with_reducible rfl))
                try simp only [Act.put, List.setIfInBounds_toArray, List.set_cons_zero, List.set_cons_succ, List.getElem_toArray, List.getElem_cons_zero, List.getElem_cons_succ]
                refine wpAnyH_ready (rs := [8]) (by kernel_rfl) (by simp) ?_
                refine AllReadyH.cons rfl (fun K hK => ?_) AllReadyH.nil
                try simp only [List.getElem_toArray, List.getElem_cons_zero, List.getElem_cons_succ]
                go_simp
                refine hK.out _ _ (by exact HE2.out) (fun hHeld2 => ?_)
                clear hK K
                try simp only [Act.put, List.setIfInBounds_toArray, List.set_cons_zero, List.set_cons_succ, List.getElem_toArray, List.getElem_cons_zero, List.getElem_cons_succ]
                refine wpAnyH_take (i := 9) (oi := _) (v := ?_) rfl (by kernel_rfl) (by kernel_rfl) (by kernel_rfl) (fun _ _ _ h => h) (Or.inl ⟨by rfl, ?_⟩) (by assumption) ?_
                rotate_left
                · (intro w' hSw; (try dsimp only at hSw); (try simp only [List.getElem_toArray, List.getElem_cons_zero, List.getElem_cons_succ]); go_simp; try (with_reducible rfl))
                try simp only [Act.put, List.setIfInBounds_toArray, List.set_cons_zero, List.set_cons_succ, List.getElem_toArray, List.getElem_cons_zero, List.getElem_cons_succ]
                refine wpAnyH_ready (rs := [10]) (by kernel_rfl) (by simp) ?_
                refine AllReadyH.cons rfl (fun K hK => ?_) AllReadyH.nil
                try simp only [List.getElem_toArray, List.getElem_cons_zero, List.getElem_cons_succ]
                go_simp
                refine hK.out _ _ (by exact HE3.out) (fun hHeld2 => ?_)
                clear hK K
                try simp only [Act.put, List.setIfInBounds_toArray, List.set_cons_zero, List.set_cons_succ, List.getElem_toArray, List.getElem_cons_zero, List.getElem_cons_succ]
                refine wpAnyH_done (by kernel_rfl) ?_ _
                generalize hWf : World.drew _ = Wf
                have hBf : Below G w7 Wf := by rw [← hWf]; exact (((HB78.out.setCell (Nat.le_refl _) _).setCell (Nat.le_refl _) _).setCell (Nat.le_refl _) _).drew
                have hCf : Blk Wf G 42 CF := by rw [← hWf]; exact HB3.out
                clear hWf
                have HBf := Lib.hid hBf
                have hBq : Below wq.heap.size wq Wf := HB7.out.trans (hBf.mono (by have := HG7.out; omega))
                have hBw : Below w.heap.size w Wf := hbel.out.trans (hBq.mono hbel.out.size)
                have hZf := Lib.hid (hzb.out.keep hBq)
                have hld := run_loadCells_blk hCf HFINZ.out
                have hst := run_storeCells_blk (cs := CF) hZf.out (HFINZ.out.symm ▸ infoSpec) (HZS.out.trans HFINZ.out.symm) HFIN1.out
                have HBQ := Lib.hid hBq
                have HBW := Lib.hid hBw
                clear hBq hBw hBf p0 p4 p5 f0 f4 f5 hHeld hHeld2
                go_wp2_with (first | (refine wpList_load_row Wf rfl 42 (.tmp 12) rfl G CF 42 (0, 0) _ rfl hCf Tryz.underlying42 rfl (HFINZ.out.symm ▸ infoSpec) ?_))
                obtain ⟨hs1, hs2, _⟩ := setRow_alt (cs := CF) hZf.out
                refine bodyPost_ret (results_row2 rfl _ _ w.heap.size CF _ _ rfl hs1 Tryz.underlying42 rfl (HFINZ.out.symm ▸ infoSpec)) rfl ?_
                unfold TMainOut
                rw [hok.out, if_pos rfl, hacc.out]
                have hw4 : w.heap.size < w4.heap.size := hZ4.out.lt
                have hwq : w.heap.size ≤ wq.heap.size := hbel.out.size
                exact ⟨setRow_below HBW.out hZf.out (Nat.le_refl _), _, _, by rw [← HCF.out]; rfl, own_mono (own_alt (own_belowS hrw.out HBQ.out) hs2 (fun g hg e => by omega)) (by omega), own_mono (own_alt (own_belowS HV7.out.own (HGe.out ▸ HBf.out)) hs2 (fun g hg e => by omega)) (by omega)⟩
theorem tspec_any (h : WIn w A n c bs t0 t1 t2 os) (hm : MaxAt w) : Calls Tryz.prog 6 #[.slice A n c] w fun e w' => TSpecOut w t0 t1 t2 os e w' := by
  cases hb : isNm t1 with
  | false => exact tspec_name h hb
  | true =>
    cases hk : pickP t0 kindsCh with
    | none => exact tspec_kind h hb hk
    | some kd => exact tspec_main h hm hb hk
end
end Go.Proofs.YtelehhfnomdneaaGreatDoor.Sp
