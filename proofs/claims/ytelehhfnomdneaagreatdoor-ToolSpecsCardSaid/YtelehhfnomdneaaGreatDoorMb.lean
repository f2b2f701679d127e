/-
  ToolSpecs: tool.take, walked: a key with a number.
  And: ToolSpecs: tool.take, walked: a key with a fraction. ToolSpecs: tool.take, walked: a key with a choice. ToolSpecs: tool.take, walked: sizes, and keys that are none. ToolSpecs: tool.take, walked: sizes. ToolSpecs: tool.take, for every word. A whole struct stored and loaded: one step, its cells whatever. ToolSpecs: (*values).spec, walked.
-/
import Derived.Test.YtelehhfnomdneaaGreatDoorMa
import Derived.Deep.WholeRow
namespace Go.Proofs.YtelehhfnomdneaaGreatDoor.Sp
open Go Go.RowKit Ut Tc

section
variable {w : World} {B0 vb b1 b2 b3 S0 : Nat} {sz : Value} {acc : Acc} {b : ByteArray} {k t : Wd}
theorem choices_none {k : Wd} (h : chOf k = none) (w : World) : Calls Tryz.prog 28 #[.string ⟨⟨k⟩⟩] w fun e w' => e = .returned (.tuple #[.slice none 0 0, .bool false]) ∧ Below w.heap.size w w' := (choices_any k w).mono fun e w' H => by rw [h] at H; exact H
theorem vals_texts {t : Wd} (h : t ∈ valsL) : t ∈ textsL := List.mem_append_left _ h
theorem num_ch : ∀ k ∈ numKeys, chOf k = none := by decide
theorem num_frac : ∀ k ∈ numKeys, k ∉ fracKeys ∧ k ≠ sizesK := by decide
theorem take_nums (hk : k ∈ numKeys) (acc : Acc) (h : (numT t).isSome = true) : numsM (acc ++ [(k, t)]) = numsM acc ++ [(k, .int .i64 ((numT t).getD 0 : Nat))] ∧ fracsM (acc ++ [(k, t)]) = fracsM acc ∧ sizesP (acc ++ [(k, t)]) = sizesP acc := by
  obtain ⟨h1, h2⟩ := num_frac k hk
  have e1 : numOf k t = numT t := by unfold numOf; rw [num_ch k hk]; exact if_pos hk
  have e2 : fracOf k t = none := if_neg h1
  have e3 : sizesOf k t = none := if_neg h2
  rw [numsM_snoc, fracsM_snoc, sizesP_snoc, e1, e2, e3]
  obtain ⟨n, hn⟩ := Option.isSome_iff_exists.1 h
  rw [hn]
  exact ⟨rfl, by simp, by simp⟩
set_option maxHeartbeats 4000000 in
set_option maxRecDepth 100000 in
theorem take_num (hv : VAt w B0 vb b1 b2 b3 S0 sz acc) (hm : MaxAt w) (h : IsWord b (some (k, t))) (hB : B0 ≤ w.heap.size) (hk : k ∉ keysOf acc) (hn : k ∈ numKeys) :
    Calls Tryz.prog 14 #[.pointer (some ⟨vb, 0, none⟩), .string b] w fun e w' => TakeOut w B0 vb b1 b2 b3 S0 acc (numT t).isSome (acc ++ [(k, t)]) e w' := by
  have HC : Hid (Calls Tryz.prog _ _ w _) := Lib.hid (cut_some h w hm)
  have HV := Lib.hid hv
  have HL : Hid (lk (seenM acc) k = none) := (lk_seen acc k).trans (if_neg hk)
  have HLK : Hid (∀ W, VRaw W B0 vb b1 b2 b3 S0 sz (seenM acc) (numsM acc) (fracsM acc) (sizesP acc) → (Instr.lookup 57 (.map (some b1)) (.string ⟨⟨k⟩⟩) false).run Tryz.prog W = .ok (.bool false) W) := fun W hW => by
    have hrun := run_lk (P := Tryz.prog) Tryz.underlying57 Tryz.underlying9 (zB W) hW.m1 k
    rw [HL.out] at hrun
    exact hrun
  have HL2 : Hid (lk (numsM acc) k = none) := lk_nums hk
  have HCH := Lib.hid (choices_none (num_ch k hn))
  have HT := Lib.hid (vals_texts h.2.2)
  have HE := Lib.hid (take_nums (t := t) hn acc)
  have HNUM : Hid (∀ W, Calls Tryz.prog 29 #[.string ⟨⟨t⟩⟩] W fun e w' => e = .returned (.tuple #[.int .i64 ((numT t).getD 0 : Nat), .bool (numT t).isSome]) ∧ Below W.heap.size W w') := fun W => number_any W HT.out
  clear h hm hv hk
  generalize numT t = N at *
  generalize hNd : N.getD 0 = nd at *
  generalize hNs : N.isSome = ns at *
  clear hNd hNs
  simp only [numKeys, List.mem_cons, List.not_mem_nil, or_false] at hn
  rcases hn with rfl | rfl | rfl | rfl | rfl | rfl | rfl | rfl | rfl | rfl | rfl
  all_goals
    go_enter Tryz.func14, Tryz.ntmps14
    go_wp2_with (first
      | (go_at_call 27; refine HC.out.mono ?_; rintro e w2 ⟨rfl, hb2⟩; have HV2 := Lib.hid (HV.out.below hb2); obtain ⟨c0, c1, c2, c3⟩ := HV2.out.cells; have hrun := HLK.out _ HV2.out; obtain ⟨w3, hr3, hv3, hb3, hs3⟩ := HV2.out.up1 _ (.bool true) HL.out; have HV3 := Lib.hid hv3; obtain ⟨d0, d1, d2, d3⟩ := HV3.out.cells; have HB3 := Lib.hid ((hb2.mono hB).trans hb3); have hz3 : B0 ≤ w3.heap.size := Nat.le_trans hB HB3.out.size; clear hv3 hb3 hb2)
      | (go_at_call 28; refine (HCH.out _).mono ?_; rintro e w4 ⟨rfl, hb4⟩; have HV4 := Lib.hid (HV3.out.below hb4); obtain ⟨f0, f1, f2, f3⟩ := HV4.out.cells; have HB4 := Lib.hid (HB3.out.trans (hb4.mono hz3)); have hz4 : B0 ≤ w4.heap.size := Nat.le_trans hB HB4.out.size; clear hb4))
    go_region_held3 (fun w' => w'.cell? ⟨vb, 1, none⟩ = some (.map (some b2))) (simp [*]) (first
      | (go_at_call 29; refine (HNUM.out _).mono ?_; rintro e w5 ⟨rfl, hb5⟩; have HV5 := Lib.hid (HV4.out.below ((Below.refl _ _).drew.trans hb5)); obtain ⟨g0, g1, g2, g3⟩ := HV5.out.cells; obtain ⟨w6, hr6, hv6, hb6, hs6⟩ := HV5.out.up2 _ (.int .i64 (nd : Int)) HL2.out; have HV6 := Lib.hid hv6; obtain ⟨k0, k1, k2, k3⟩ := HV6.out.cells; have HB6 := Lib.hid ((HB4.out.trans (((Below.refl _ _).drew.trans hb5).mono hz4)).trans hb6); clear hv6 hb6 hb5))
    all_goals go_wp2
    all_goals go_ret
    all_goals exact ⟨rfl, HB6.out, fun h => ⟨sz, by
      obtain ⟨e1, e2, e3⟩ := HE.out h
      unfold VAt
      rw [seenM_snoc, e1, e2, e3]
      exact HV6.out⟩⟩
end
end Go.Proofs.YtelehhfnomdneaaGreatDoor.Sp
namespace Go.Proofs.YtelehhfnomdneaaGreatDoor.Sp
open Go Go.RowKit Ut Tc

section
variable {w : World} {B0 vb b1 b2 b3 S0 : Nat} {sz : Value} {acc : Acc} {b : ByteArray} {k t : Wd}
theorem frac_ch : ∀ k ∈ fracKeys, chOf k = none := by decide
theorem frac_num : ∀ k ∈ fracKeys, k ∉ numKeys ∧ k ≠ sizesK := by decide
theorem take_fracs (hk : k ∈ fracKeys) (acc : Acc) (h : (fracT t).isSome = true) : numsM (acc ++ [(k, t)]) = numsM acc ∧ fracsM (acc ++ [(k, t)]) = fracsM acc ++ [(k, .agg ⟨qOf ((fracT t).getD (false, 0, 0))⟩)] ∧ sizesP (acc ++ [(k, t)]) = sizesP acc := by
  obtain ⟨h1, h2⟩ := frac_num k hk
  have e1 : numOf k t = none := by unfold numOf; rw [frac_ch k hk]; exact if_neg h1
  have e2 : fracOf k t = fracT t := if_pos hk
  have e3 : sizesOf k t = none := if_neg h2
  rw [numsM_snoc, fracsM_snoc, sizesP_snoc, e1, e2, e3]
  obtain ⟨n, hn⟩ := Option.isSome_iff_exists.1 h
  rw [hn]
  exact ⟨by simp, rfl, by simp⟩
set_option maxHeartbeats 4000000 in
set_option maxRecDepth 100000 in
theorem take_frac (hv : VAt w B0 vb b1 b2 b3 S0 sz acc) (hm : MaxAt w) (h : IsWord b (some (k, t))) (hB : B0 ≤ w.heap.size) (hk : k ∉ keysOf acc) (hn : k ∈ fracKeys) :
    Calls Tryz.prog 14 #[.pointer (some ⟨vb, 0, none⟩), .string b] w fun e w' => TakeOut w B0 vb b1 b2 b3 S0 acc (fracT t).isSome (acc ++ [(k, t)]) e w' := by
  have HC : Hid (Calls Tryz.prog _ _ w _) := Lib.hid (cut_some h w hm)
  have HV := Lib.hid hv
  have HL : Hid (lk (seenM acc) k = none) := (lk_seen acc k).trans (if_neg hk)
  have HLK : Hid (∀ W, VRaw W B0 vb b1 b2 b3 S0 sz (seenM acc) (numsM acc) (fracsM acc) (sizesP acc) → (Instr.lookup 57 (.map (some b1)) (.string ⟨⟨k⟩⟩) false).run Tryz.prog W = .ok (.bool false) W) := fun W hW => by
    have hrun := run_lk (P := Tryz.prog) Tryz.underlying57 Tryz.underlying9 (zB W) hW.m1 k
    rw [HL.out] at hrun
    exact hrun
  have HL2 : Hid (lk (fracsM acc) k = none) := lk_fracs hk
  have HCH := Lib.hid (choices_none (frac_ch k hn))
  have HT := Lib.hid (vals_texts h.2.2)
  have HE := Lib.hid (take_fracs (t := t) hn acc)
  have HNUM : Hid (∀ W, Calls Tryz.prog 20 #[.string ⟨⟨t⟩⟩] W fun e w' => e = .returned (.tuple #[.agg ⟨qOf ((fracT t).getD (false, 0, 0))⟩, .bool (fracT t).isSome]) ∧ Below W.heap.size W w') := fun W => frac_any W HT.out
  clear h hm hv hk
  generalize fracT t = N at *
  generalize hNd : qOf (N.getD (false, 0, 0)) = nd at *
  generalize hNs : N.isSome = ns at *
  clear hNd hNs
  simp only [fracKeys, List.mem_cons, List.not_mem_nil, or_false] at hn
  rcases hn with rfl | rfl | rfl | rfl | rfl | rfl
  all_goals
    go_enter Tryz.func14, Tryz.ntmps14
    go_wp2_with (first
      | (go_at_call 27; refine HC.out.mono ?_; rintro e w2 ⟨rfl, hb2⟩; have HV2 := Lib.hid (HV.out.below hb2); obtain ⟨c0, c1, c2, c3⟩ := HV2.out.cells; have hrun := HLK.out _ HV2.out; obtain ⟨w3, hr3, hv3, hb3, hs3⟩ := HV2.out.up1 _ (.bool true) HL.out; have HV3 := Lib.hid hv3; obtain ⟨d0, d1, d2, d3⟩ := HV3.out.cells; have HB3 := Lib.hid ((hb2.mono hB).trans hb3); have hz3 : B0 ≤ w3.heap.size := Nat.le_trans hB HB3.out.size; clear hv3 hb3 hb2)
      | (go_at_call 28; refine (HCH.out _).mono ?_; rintro e w4 ⟨rfl, hb4⟩; have HV4 := Lib.hid (HV3.out.below hb4); obtain ⟨f0, f1, f2, f3⟩ := HV4.out.cells; have HB4 := Lib.hid (HB3.out.trans (hb4.mono hz3)); have hz4 : B0 ≤ w4.heap.size := Nat.le_trans hB HB4.out.size; clear hb4))
    go_region_held3 (fun w' => w'.cell? ⟨vb, 2, none⟩ = some (.map (some b3))) (simp [*]) (first
      | (go_at_call 20; refine (HNUM.out _).mono ?_; rintro e w5 ⟨rfl, hb5⟩; have HV5 := Lib.hid (HV4.out.below ((Below.refl _ _).drew.trans hb5)); obtain ⟨g0, g1, g2, g3⟩ := HV5.out.cells; obtain ⟨w6, hr6, hv6, hb6, hs6⟩ := HV5.out.up3 _ (.agg ⟨nd⟩) HL2.out; have HV6 := Lib.hid hv6; obtain ⟨k0, k1, k2, k3⟩ := HV6.out.cells; have HB6 := Lib.hid ((HB4.out.trans (((Below.refl _ _).drew.trans hb5).mono hz4)).trans hb6); clear hv6 hb6 hb5))
    all_goals go_wp2
    all_goals go_ret
    all_goals exact ⟨rfl, HB6.out, fun h => ⟨sz, by
      obtain ⟨e1, e2, e3⟩ := HE.out h
      unfold VAt
      rw [seenM_snoc, e1, e2, e3]
      exact HV6.out⟩⟩
end
end Go.Proofs.YtelehhfnomdneaaGreatDoor.Sp
namespace Go.Proofs.YtelehhfnomdneaaGreatDoor.Sp
open Go Go.RowKit Ut Tc

section
variable {w : World} {B0 vb b1 b2 b3 S0 : Nat} {sz : Value} {acc : Acc} {b : ByteArray} {k t : Wd}
theorem ch_keys {k : Wd} {l : Ch} (h : chOf k = some l) : k ∈ [[104, 111, 119], [98, 101, 110, 100], [108, 111, 115, 115]] := by
  unfold chOf at h
  split at h
  · rename_i e; rw [e]; decide
  · split at h
    · rename_i e; rw [e]; decide
    · split at h
      · rename_i e; rw [e]; decide
      · cases h
theorem ch_other : ∀ k ∈ ([[104, 111, 119], [98, 101, 110, 100], [108, 111, 115, 115]] : List Wd), k ∉ fracKeys ∧ k ≠ sizesK := by decide
theorem take_chs {l : Ch} (hk : chOf k = some l) (acc : Acc) (h : (pickP t l).isSome = true) : numsM (acc ++ [(k, t)]) = numsM acc ++ [(k, .int .i64 ((pickP t l).getD 0 : Nat))] ∧ fracsM (acc ++ [(k, t)]) = fracsM acc ∧ sizesP (acc ++ [(k, t)]) = sizesP acc := by
  obtain ⟨h1, h2⟩ := ch_other k (ch_keys hk)
  have e1 : numOf k t = pickP t l := by unfold numOf; rw [hk]
  have e2 : fracOf k t = none := if_neg h1
  have e3 : sizesOf k t = none := if_neg h2
  rw [numsM_snoc, fracsM_snoc, sizesP_snoc, e1, e2, e3]
  obtain ⟨n, hn⟩ := Option.isSome_iff_exists.1 h
  rw [hn]
  exact ⟨rfl, by simp, by simp⟩
set_option maxHeartbeats 4000000 in
set_option maxRecDepth 100000 in
theorem take_ch {l : Ch} (hv : VAt w B0 vb b1 b2 b3 S0 sz acc) (hm : MaxAt w) (h : IsWord b (some (k, t))) (hB : B0 ≤ w.heap.size) (hk : k ∉ keysOf acc) (hn : chOf k = some l) (h9 : l.length ≤ 9) :
    Calls Tryz.prog 14 #[.pointer (some ⟨vb, 0, none⟩), .string b] w fun e w' => TakeOut w B0 vb b1 b2 b3 S0 acc (pickP t l).isSome (acc ++ [(k, t)]) e w' := by
  have HC : Hid (Calls Tryz.prog _ _ w _) := Lib.hid (cut_some h w hm)
  have HV := Lib.hid hv
  have HL : Hid (lk (seenM acc) k = none) := (lk_seen acc k).trans (if_neg hk)
  have HLK : Hid (∀ W, VRaw W B0 vb b1 b2 b3 S0 sz (seenM acc) (numsM acc) (fracsM acc) (sizesP acc) → (Instr.lookup 57 (.map (some b1)) (.string ⟨⟨k⟩⟩) false).run Tryz.prog W = .ok (.bool false) W) := fun W hW => by
    have hrun := run_lk (P := Tryz.prog) Tryz.underlying57 Tryz.underlying9 (zB W) hW.m1 k
    rw [HL.out] at hrun
    exact hrun
  have HL2 : Hid (lk (numsM acc) k = none) := lk_nums hk
  have HCH : Hid (∀ W, Calls Tryz.prog 28 #[.string ⟨⟨k⟩⟩] W fun e w' => e = .returned (.tuple #[.slice (some ⟨W.heap.size, 0, none⟩) l.length l.length, .bool true]) ∧ Blk w' W.heap.size 76 (chC l) ∧ Below W.heap.size W w') := Lib.hid fun W => (choices_any k W).mono fun e w' H => by rw [hn] at H; exact H
  have HE := Lib.hid (take_chs (t := t) hn acc)
  have HNUM : Hid (∀ W g, Blk W g 76 (chC l) → Calls Tryz.prog 11 #[.slice (some ⟨g, 0, none⟩) l.length l.length, .string ⟨⟨t⟩⟩] W fun e w' => e = .returned (.tuple #[.int .i64 ((pickP t l).getD 0 : Nat), .bool (pickP t l).isSome]) ∧ Below W.heap.size W w') := fun W g hg => tpick_any hg rfl h9 t
  clear h hm hv hk hn
  generalize pickP t l = N at *
  generalize hNd : N.getD 0 = nd at *
  generalize hNs : N.isSome = ns at *
  clear hNd hNs
  go_enter Tryz.func14, Tryz.ntmps14
  go_wp2_with (first
    | (go_at_call 27; refine HC.out.mono ?_; rintro e w2 ⟨rfl, hb2⟩; have HV2 := Lib.hid (HV.out.below hb2); obtain ⟨c0, c1, c2, c3⟩ := HV2.out.cells; have hrun := HLK.out _ HV2.out; obtain ⟨w3, hr3, hv3, hb3, hs3⟩ := HV2.out.up1 _ (.bool true) HL.out; have HV3 := Lib.hid hv3; obtain ⟨d0, d1, d2, d3⟩ := HV3.out.cells; have HB3 := Lib.hid ((hb2.mono hB).trans hb3); have hz3 : B0 ≤ w3.heap.size := Nat.le_trans hB HB3.out.size; clear hv3 hb3 hb2 hs3)
    | (go_at_call 28; refine (HCH.out _).mono ?_; rintro e w4 ⟨rfl, hbk, hb4⟩; have HBK := Lib.hid hbk; clear hbk; have HV4 := Lib.hid (HV3.out.below hb4); obtain ⟨f0, f1, f2, f3⟩ := HV4.out.cells; have HB4 := Lib.hid (HB3.out.trans (hb4.mono hz3)); have hz4 : B0 ≤ w4.heap.size := Nat.le_trans hB HB4.out.size; clear hb4))
  go_region_held3 (fun w' => w'.cell? ⟨vb, 1, none⟩ = some (.map (some b2))) (simp [*]) (first
    | (go_at_call 11; refine (HNUM.out w4.drew _ HBK.out).mono ?_; rintro e w5 ⟨rfl, hb5⟩; have HV5 := Lib.hid (HV4.out.below ((Below.refl _ _).drew.trans hb5)); obtain ⟨g0, g1, g2, g3⟩ := HV5.out.cells; obtain ⟨w6, hr6, hv6, hb6, hs6⟩ := HV5.out.up2 _ (.int .i64 (nd : Int)) HL2.out; have HV6 := Lib.hid hv6; obtain ⟨k0, k1, k2, k3⟩ := HV6.out.cells; have HB6 := Lib.hid ((HB4.out.trans (((Below.refl _ _).drew.trans hb5).mono hz4)).trans hb6); clear hv6 hb6 hb5))
  all_goals go_wp2
  all_goals go_ret
  all_goals exact ⟨rfl, HB6.out, fun h => ⟨sz, by
    obtain ⟨e1, e2, e3⟩ := HE.out h
    unfold VAt
    rw [seenM_snoc, e1, e2, e3]
    exact HV6.out⟩⟩
end
end Go.Proofs.YtelehhfnomdneaaGreatDoor.Sp
namespace Go.Proofs.YtelehhfnomdneaaGreatDoor.Sp
open Go Go.RowKit Ut Tc

section
variable {w : World} {B0 vb b1 b2 b3 S0 : Nat} {sz : Value} {acc : Acc} {b : ByteArray} {k t : Wd}
def badKeys : List Wd := [[110, 111, 110, 101], []]
theorem bad_ch : ∀ k ∈ badKeys, chOf k = none := by decide
theorem maxKeep {w w' : World} {B : Nat} (h : MaxAt w) (hg : 0 < B) (hb : Below B w w') : MaxAt w' := by
  obtain ⟨m, hm⟩ := h
  exact ⟨m, (hb.cell (p := ⟨0, 0, none⟩) hg).trans hm⟩
theorem take_szs (acc : Acc) (zs : List Nat) (h : numsT (cuts [] t) = some zs) : numsM (acc ++ [(sizesK, t)]) = numsM acc ∧ fracsM (acc ++ [(sizesK, t)]) = fracsM acc ∧ sizesP (acc ++ [(sizesK, t)]) = sizesP acc ++ zs := by
  have e1 : numOf sizesK t = none := rfl
  have e2 : fracOf sizesK t = none := rfl
  have e3 : sizesOf sizesK t = some zs := (if_pos rfl).trans h
  rw [numsM_snoc, fracsM_snoc, sizesP_snoc, e1, e2, e3]
  exact ⟨by simp, by simp, rfl⟩
set_option maxHeartbeats 4000000 in
set_option maxRecDepth 100000 in
theorem take_bad (hv : VAt w B0 vb b1 b2 b3 S0 sz acc) (hm : MaxAt w) (h : IsWord b (some (k, t))) (hB : B0 ≤ w.heap.size) (hk : k ∉ keysOf acc) (hn : k ∈ badKeys) :
    Calls Tryz.prog 14 #[.pointer (some ⟨vb, 0, none⟩), .string b] w fun e w' => TakeOut w B0 vb b1 b2 b3 S0 acc false (acc ++ [(k, t)]) e w' := by
  have HC : Hid (Calls Tryz.prog _ _ w _) := Lib.hid (cut_some h w hm)
  have HV := Lib.hid hv
  have HL : Hid (lk (seenM acc) k = none) := (lk_seen acc k).trans (if_neg hk)
  have HLK : Hid (∀ W, VRaw W B0 vb b1 b2 b3 S0 sz (seenM acc) (numsM acc) (fracsM acc) (sizesP acc) → (Instr.lookup 57 (.map (some b1)) (.string ⟨⟨k⟩⟩) false).run Tryz.prog W = .ok (.bool false) W) := fun W hW => by
    have hrun := run_lk (P := Tryz.prog) Tryz.underlying57 Tryz.underlying9 (zB W) hW.m1 k
    rw [HL.out] at hrun
    exact hrun
  have HCH := Lib.hid (choices_none (bad_ch k hn))
  clear h hm hv hk
  simp only [badKeys, List.mem_cons, List.not_mem_nil, or_false] at hn
  rcases hn with rfl | rfl
  all_goals
    go_enter Tryz.func14, Tryz.ntmps14
    go_wp2_with (first
      | (go_at_call 27; refine HC.out.mono ?_; rintro e w2 ⟨rfl, hb2⟩; have HV2 := Lib.hid (HV.out.below hb2); obtain ⟨c0, c1, c2, c3⟩ := HV2.out.cells; have hrun := HLK.out _ HV2.out; obtain ⟨w3, hr3, hv3, hb3, hs3⟩ := HV2.out.up1 _ (.bool true) HL.out; have HV3 := Lib.hid hv3; obtain ⟨d0, d1, d2, d3⟩ := HV3.out.cells; have HB3 := Lib.hid ((hb2.mono hB).trans hb3); have hz3 : B0 ≤ w3.heap.size := Nat.le_trans hB HB3.out.size; clear hv3 hb3 hb2)
      | (go_at_call 28; refine (HCH.out _).mono ?_; rintro e w4 ⟨rfl, hb4⟩; have HV4 := Lib.hid (HV3.out.below hb4); obtain ⟨f0, f1, f2, f3⟩ := HV4.out.cells; have HB4 := Lib.hid (HB3.out.trans (hb4.mono hz3)); have hz4 : B0 ≤ w4.heap.size := Nat.le_trans hB HB4.out.size; clear hb4))
    go_ret
    exact ⟨rfl, HB4.out, fun h => by cases h⟩
end
end Go.Proofs.YtelehhfnomdneaaGreatDoor.Sp
namespace Go.Proofs.YtelehhfnomdneaaGreatDoor.Sp
open Go Go.RowKit Ut Tc

theorem own_slice {w : World} {base n size : Nat} {e : TypeId} {v : Value} {xs : List Value} (h : w.ownsRow base e size v n xs) : ∃ A c, v = .slice A n c ∧ n ≤ c := by
  rcases h.2 with ⟨rfl, hn⟩ | ⟨g, cap, cur, rfl, _, _, h5, _⟩
  · exact ⟨none, 0, by rw [hn], by omega⟩
  · exact ⟨_, _, rfl, h5⟩
theorem own_cell {w : World} {base n size : Nat} {e : TypeId} {A : Option Addr} {c : Nat} {xs : List Value} (h : w.ownsRow base e size (.slice A n c) n xs) (hn : 0 < n) :
    ∃ g, A = some ⟨g, 0, none⟩ ∧ base ≤ g ∧ g < w.heap.size ∧ ∀ (j : Nat) u, xs[j]? = some u → w.cell? ⟨g, j, none⟩ = some u := by
  rcases h.2 with ⟨_, h0⟩ | ⟨g, cap, cur, hv, hb, h4, h5, h6, h7, h8⟩
  · omega
  · injection hv with hA
    subst hA
    refine ⟨g, rfl, hb, lt_of_block h4, fun j u hu => ?_⟩
    unfold World.cell?
    simp only [h4]
    rw [← h8, List.getElem?_take] at hu
    split at hu
    · simpa using hu
    · cases hu
theorem own_type {w : World} {base n size : Nat} {e : TypeId} {v : Value} {xs : List Value} (h : w.ownsRow base e size v n xs) : ∀ g, v.ownBlock = some g → g < w.heap.size → ∃ cs fr, w.heap[g]? = some (.cells cs e fr) := by
  intro g hg _
  rcases h.2 with ⟨rfl, _⟩ | ⟨g', cap, cur, rfl, h1, h2, _⟩
  · cases hg
  · injection hg with hg
    subst hg
    exact ⟨_, _, h2⟩
theorem infoInt : (Tryz.prog.info? 3).map (fun i => (i.zero, i.size, i.bytes)) = some (some (.int .i64 0), 1, 8) := by kernel_rfl
/- A row of words, elsewhere. -/
def WRow (w : World) (B : Nat) (v : Value) (ts : List Wd) : Prop := w.ownsRow B 9 1 v ts.length (ts.map sv)
theorem WRow.at_ {w : World} {B c n : Nat} {A : Option Addr} {ts : List Wd} (h : WRow w B (.slice A n c) ts) {j : Nat} (hj : j < ts.length) : ∃ g, A = some ⟨g, 0, none⟩ ∧ B ≤ g ∧ g < w.heap.size ∧ w.cell? ⟨g, j, none⟩ = some (.string ⟨⟨ts[j]⟩⟩) := by
  obtain ⟨A', c', e, _⟩ := own_slice h
  injection e with e1 e2 e3
  subst e1 e2 e3
  obtain ⟨g, rfl, hb, hg, hc⟩ := own_cell h (by omega)
  exact ⟨g, rfl, hb, hg, hc j _ (by rw [List.getElem?_map, List.getElem?_eq_getElem hj]; rfl)⟩
section
variable {w : World} {B0 vb b1 b2 b3 S0 : Nat} {sz : Value} {acc : Acc} {b : ByteArray} {k t : Wd}
theorem VRaw.grow {w w1 : World} {B0 vb b1 b2 b3 S0 : Nat} {sz v' : Value} {m1 m2 m3 : Mp} {zs : List Nat} {n : Nat} {o : Obj} (h : VRaw w B0 vb b1 b2 b3 S0 sz m1 m2 m3 zs) (hg : (w.alloc o).grownBy w1 sz.ownBlock) (hown : w1.ownsRow S0 3 1 v' (zs.length + 1) (nat64 zs ++ [.int .i64 (n : Int)])) : Blk w1 vb 61 #[.map (some b1), .map (some b2), .map (some b3), sz] ∧ VRaw (w1.setCell ⟨vb, 3, none⟩ v') B0 vb b1 b2 b3 S0 v' m1 m2 m3 (zs ++ [n]) := by
  obtain ⟨l0, l1, l2, l3⟩ := h.lo
  obtain ⟨i0, i1, i2, i3⟩ := h.hi
  obtain ⟨n1, n2, n3, _⟩ := h.ne
  have hne : ∀ g, g < S0 → some g ≠ sz.ownBlock := fun g hgS e => by
    have := (own_base h.own e.symm).1
    omega
  have hk : ∀ g, g < S0 → g < w.heap.size → w1.heap[g]? = w.heap[g]? := fun g hgS hgw => (hg.block g (by simp; omega) (hne g hgS)).trans (Below.heap_alloc w o g hgw)
  have hs : ∀ g, g ≠ vb → (w1.setCell ⟨vb, 3, none⟩ v').heap[g]? = w1.heap[g]? := fun g hg => Below.heap_setCell w1 _ v' g (fun e => hg e)
  have hz := h.sz_
  have hb1 : Blk w1 vb 61 #[.map (some b1), .map (some b2), .map (some b3), sz] := (hk vb i0 h.blk.lt).trans h.blk
  refine ⟨hb1, hb1.set_ 3 v', h.m1.keep ((hs _ (Ne.symm n1)).trans (hk _ i1 (by omega))), h.m2.keep ((hs _ (Ne.symm n2)).trans (hk _ i2 (by omega))), h.m3.keep ((hs _ (Ne.symm n3)).trans (hk _ i3 (by omega))), ?_, h.lo, h.hi, h.ne, ?_⟩
  · have : w1.ownsRow S0 3 1 v' (zs ++ [n]).length (nat64 (zs ++ [n])) := by
      unfold nat64 at hown ⊢
      rw [List.length_append, List.map_append]
      exact hown
    exact own_alt this (p := fun x => x = vb) (Alt.set_ (p := fun x => x = vb) (a := ⟨vb, 3, none⟩) (Alt.refl _ _) rfl v') (fun g hg e => by omega)
  · have := hg.size
    rw [World.size_alloc] at this
    rw [World.size_setCell]
    omega
theorem sizes_fresh {acc : Acc} (h : sizesK ∉ keysOf acc) : sizesP acc = [] := by
  unfold sizesP
  rw [List.flatMap_eq_nil_iff]
  intro p hp
  have : sizesOf p.1 p.2 = none := if_neg fun e => h (by rw [← e]; exact List.mem_map_of_mem (f := (·.1)) hp)
  rw [this]; rfl
theorem numsT_map (o : Option (List Nat)) (zs : List Nat) (n : Nat) : (o.map (n :: ·)).map (zs ++ ·) = o.map (zs ++ [n] ++ ·) := by
  cases o <;> simp
theorem WRow.kept {w w1 : World} {B n S0 vb : Nat} {v sz v' : Value} {ts : List Wd} {o : Obj} {xs : List Value} (h : WRow w B v ts) (hown : w.ownsRow S0 3 1 sz n xs) (hg : (w.alloc o).grownBy w1 sz.ownBlock) (hvb : vb < B) : WRow (w1.setCell ⟨vb, 3, none⟩ v') B v ts := by
  have h1 : WRow w1 B v ts := by
    refine (h.alloc o).kept hg ?_
    rcases hv : v.ownBlock with _ | g
    · exact .inl rfl
    · refine .inr fun e => ?_
      rcases hz : sz.ownBlock with _ | g'
      · rw [hz] at e; cases e
      · rw [hz] at e
        injection e with e
        subst e
        have hlt := (own_base h hv).2
        obtain ⟨c1, f1, e1⟩ := own_type h g hv hlt
        obtain ⟨c2, f2, e2⟩ := own_type hown g hz hlt
        rw [e1] at e2
        injection e2 with e2
        injection e2 with _ e2
        exact absurd e2 (by decide)
  exact own_alt h1 (p := fun x => x = vb) (Alt.set_ (p := fun x => x = vb) (a := ⟨vb, 3, none⟩) (Alt.refl _ _) rfl v') (fun g hg e => by omega)
set_option maxHeartbeats 4000000 in
set_option maxRecDepth 100000 in
theorem take_sizes (hv : VAt w B0 vb b1 b2 b3 S0 sz acc) (hm : MaxAt w) (h : IsWord b (some (k, t))) (hB : B0 ≤ w.heap.size) (hmx : 0 < B0) (hk : k ∉ keysOf acc) (hn : k = sizesK) :
    Calls Tryz.prog 14 #[.pointer (some ⟨vb, 0, none⟩), .string b] w fun e w' => TakeOut w B0 vb b1 b2 b3 S0 acc (numsT (cuts [] t)).isSome (acc ++ [(k, t)]) e w' := by
  have HC : Hid (Calls Tryz.prog _ _ w _) := Lib.hid (cut_some h w hm)
  obtain ⟨i0, hi0, hz0, hz1, hz2⟩ := info_parts infoInt
  have HI := Lib.hid hi0
  have HZ0 := Lib.hid hz0
  have HZ1 := Lib.hid hz1
  have HZ2 := Lib.hid hz2
  clear hi0 hz0 hz1 hz2
  have hsp : sizesP acc = [] := sizes_fresh (hn ▸ hk)
  have HV : Hid (VRaw w B0 vb b1 b2 b3 S0 sz (seenM acc) (numsM acc) (fracsM acc) []) := by rw [← hsp]; exact hv
  have HL : Hid (lk (seenM acc) k = none) := (lk_seen acc k).trans (if_neg hk)
  have HLK : Hid (∀ W, VRaw W B0 vb b1 b2 b3 S0 sz (seenM acc) (numsM acc) (fracsM acc) [] → (Instr.lookup 57 (.map (some b1)) (.string ⟨⟨k⟩⟩) false).run Tryz.prog W = .ok (.bool false) W) := fun W hW => by
    have hrun := run_lk (P := Tryz.prog) Tryz.underlying57 Tryz.underlying9 (zB W) hW.m1 k
    rw [HL.out] at hrun
    exact hrun
  have HCH := Lib.hid (choices_none (show chOf k = none by rw [hn]; rfl))
  have HP : Hid (∀ W, MaxAt W → Calls Tryz.prog 13 #[.string ⟨⟨t⟩⟩, .string ⟨⟨[44]⟩⟩] W fun e w' => ∃ v, e = .returned v ∧ w'.ownsRow W.heap.size 9 1 v (cuts [] t).length ((cuts [] t).map sv) ∧ Below W.heap.size W w') := Lib.hid fun W hW => split_names W hW (List.mem_append_right _ h.2.2)
  have HPT := Lib.hid (parts_vals t h.2.2)
  have HPL := Lib.hid (parts_len t (List.mem_append_right _ h.2.2))
  have HE := Lib.hid (take_szs (t := t) acc)
  rw [hsp] at HE
  clear hsp
  have HM := Lib.hid hm
  clear h hm hv hk
  subst hn
  generalize cuts [] t = ts at *
  go_enter Tryz.func14, Tryz.ntmps14
  go_wp2_with (first
    | (go_at_call 27; refine HC.out.mono ?_; rintro e w2 ⟨rfl, hb2⟩; have HV2 := Lib.hid (HV.out.below hb2); obtain ⟨c0, c1, c2, c3⟩ := HV2.out.cells; have hrun := HLK.out _ HV2.out; obtain ⟨w3, hr3, hv3, hb3, hs3⟩ := HV2.out.up1 _ (.bool true) HL.out; have HV3 := Lib.hid hv3; obtain ⟨d0, d1, d2, d3⟩ := HV3.out.cells; have HB3 := Lib.hid ((hb2.mono hB).trans hb3); have hz3 : B0 ≤ w3.heap.size := Nat.le_trans hB HB3.out.size; clear hv3 hb3 hb2)
    | (go_at_call 28; refine (HCH.out _).mono ?_; rintro e w4 ⟨rfl, hb4⟩; have HV4 := Lib.hid (HV3.out.below hb4); obtain ⟨f0, f1, f2, f3⟩ := HV4.out.cells; have HB4 := Lib.hid (HB3.out.trans (hb4.mono hz3)); have hz4 : B0 ≤ w4.heap.size := Nat.le_trans hB HB4.out.size; clear hb4)
    | (go_at_call 13; refine (HP.out _ (maxKeep HM.out hmx HB4.out)).mono ?_; rintro e w5 ⟨v5, rfl, hrow, hb5⟩; obtain ⟨A5, c5, rfl, _⟩ := own_slice hrow; have HR5 : Hid (WRow w5 w4.heap.size (.slice A5 ts.length c5) ts) := hrow; have HV5 := Lib.hid (HV4.out.below hb5); have HB5 := Lib.hid (HB4.out.trans (hb5.mono hz4)); have hz5 : w4.heap.size ≤ w5.heap.size := hb5.size; clear hrow hb5))
  have hvb4 : vb < w4.heap.size := HV4.out.blk.lt
  have hS4 : S0 ≤ w4.heap.size := HV4.out.sz_
  have hBS : B0 ≤ S0 := by obtain ⟨h1, _⟩ := HV4.out.lo; obtain ⟨h2, _⟩ := HV4.out.hi; omega
  go_loopw [100, 11, 12, 13] (fun iv _ _ _ wr => ∃ (j : Nat) (zs : List Nat) (sz' : Value), j ≤ ts.length ∧ iv = .int .i64 (j : Int) ∧ Hid (numsT ts = (numsT (ts.drop j)).map (zs ++ ·)) ∧ Hid (zs.length = j) ∧ Hid (VRaw wr B0 vb b1 b2 b3 S0 sz' (seenM acc ++ [(sizesK, .bool true)]) (numsM acc) (fracsM acc) zs) ∧ Hid (WRow wr w4.heap.size (.slice A5 ts.length c5) ts) ∧ Hid (Below B0 w wr) ∧ w4.heap.size ≤ wr.heap.size) (fun iv _ _ _ _ => ts.length - (intOf iv).toNat)
  case atStart =>
    refine ⟨0, [], sz, Nat.zero_le _, rfl, ?_, rfl, HV5.out, HR5.out, HB5.out, hz5⟩
    · show _ = _
      cases h : numsT ts <;> simp [h]
  case round =>
    obtain ⟨j, zs, sz', hj, rfl, hnt, hzl, hvr, hrw, hbel, hsz⟩ := hrel
    have hj3 : j ≤ 3 := Nat.le_trans hj HPL.out
    by_cases hgo : j < ts.length
    · obtain ⟨g, rfl, hg4, hgr, hcell⟩ := hrw.out.at_ hgo
      have htj := Lib.hid (HPT.out _ (List.getElem_mem hgo))
      have hdr : Hid (numsT (ts.drop j) = match numT ts[j] with | some n => (numsT (ts.drop (j + 1))).map (n :: ·) | none => none) := by
        show _ = _
        rw [List.drop_eq_getElem_cons hgo]; rfl
      have HNUM : Hid (∀ W, Calls Tryz.prog 29 #[.string ⟨⟨ts[j]⟩⟩] W fun e w' => e = .returned (.tuple #[.int .i64 ((numT ts[j]).getD 0 : Nat), .bool (numT ts[j]).isSome]) ∧ Below W.heap.size W w') := fun W => number_any W htj.out
      generalize ts[j] = t' at *
      cases hN : numT t' with
      | none =>
        rw [hN] at HNUM hdr
        have hOk : Hid (numsT ts = none) := hnt.out.trans (by rw [hdr.out]; rfl)
        clear hN
        go_wp2_with (go_at_call 29; refine (HNUM.out _).mono ?_; rintro e w6 ⟨rfl, hb6⟩)
        go_ret
        exact ⟨by rw [hOk.out]; rfl, hbel.out.trans (hb6.mono (by omega)), fun h => by rw [hOk.out] at h; cases h⟩
      | some n =>
        rw [hN] at HNUM hdr
        have hnt2 : Hid (numsT ts = (numsT (ts.drop (j + 1))).map (zs ++ [n] ++ ·)) := hnt.out.trans (by rw [hdr.out]; exact numsT_map _ _ _)
        clear hN hnt hdr
        have HNUM2 : Hid (∀ W, Calls Tryz.prog 29 #[.string ⟨⟨t'⟩⟩] W fun e w' => e = .returned (.tuple #[.int .i64 (n : Int), .bool true]) ∧ Below W.heap.size W w') := HNUM
        clear HNUM
        have hzl3 : zs.length ≤ 3 := by have := HPL.out; have := hzl.out; omega
        go_wp2_with (first
          | (go_at_call 29; refine (HNUM2.out _).mono ?_; rintro e w6 ⟨rfl, hb6⟩; have HV6 := Lib.hid (hvr.out.below hb6); obtain ⟨k0, k1, k2, k3⟩ := HV6.out.cells; have HR6 : Hid (WRow w6 w4.heap.size (.slice (some ⟨g, 0, none⟩) ts.length c5) ts) := own_belowS hrw.out hb6; have HB6 := Lib.hid (hbel.out.trans (hb6.mono (by omega))); have hz6 : w4.heap.size ≤ w6.heap.size := Nat.le_trans hsz hb6.size; clear hb6)
          | (at_builtin; refine wpList_append_own _ rfl _ _ 22 rfl S0 3 i0 _ 1 8 Tryz.underlying22 HI.out HZ0.out HZ1.out HZ2.out rfl (by decide) _ _ _ rfl (HV6.out.own.alloc _) ⟨w6.heap.size, 0, none⟩ 1 1 [.int .i64 (n : Int)] rfl rfl (new_read _ _ _) (all_one rfl) (by unfold maxLen; omega) (by omega) (by simp; omega) ?_; intro v' w7 hown7 hgrow7 _hn; obtain ⟨A7, c7, rfl, _⟩ := own_slice hown7; obtain ⟨hbk7, hv8⟩ := HV6.out.grow hgrow7 hown7; have fz := hbk7.frozen 3; have y3 := hbk7.cell 3; simp only [List.getElem?_toArray, List.getElem?_cons_zero, List.getElem?_cons_succ] at y3; have hr8 := Lib.hid (HR6.out.kept HV6.out.own hgrow7 hvb4 (v' := .slice A7 (zs.length + 1) c7)); have hb7 : Below B0 w w7 := (HB6.out.alloc (by omega) _).grown hgrow7 (by simp; omega) (fun q hq => by have := (own_base HV6.out.own hq).1; omega); have hz7 : w6.heap.size + 1 ≤ w7.heap.size := by have := hgrow7.size; simpa using this))
        exact ⟨⟨j + 1, zs ++ [n], .slice A7 (zs.length + 1) c7, Nat.succ_le_of_lt hgo, by go_num, hnt2.out, by show _ = _; rw [List.length_append, hzl.out]; rfl, hv8, hr8.out, hb7.setCell (by obtain ⟨h1, _⟩ := HV6.out.lo; exact h1) _, by rw [World.size_setCell]; omega⟩, by simp [intOf]; omega⟩
    · have hjn : j = ts.length := by omega
      have hfin : Hid (numsT ts = some zs) := by
        show _ = _
        rw [hnt.out, List.drop_eq_nil_of_le (by omega)]
        simp [numsT]
      clear hnt
      go_wp2
      go_ret
      obtain ⟨e1, e2, e3⟩ := HE.out zs hfin.out
      refine ⟨by rw [hfin.out]; rfl, hbel.out, fun _ => ⟨sz', ?_⟩⟩
      unfold VAt
      rw [seenM_snoc, e1, e2, e3, List.nil_append]
      exact hvr.out
end
end Go.Proofs.YtelehhfnomdneaaGreatDoor.Sp
namespace Go.Proofs.YtelehhfnomdneaaGreatDoor.Sp
open Go Go.RowKit Ut Tc

def okW (acc : Acc) : Option (Wd × Wd) → Bool
  | none => false
  | some p => decide (p.1 ∉ keysOf acc) && fine p.1 p.2
def addW (acc : Acc) : Option (Wd × Wd) → Acc
  | none => acc
  | some p => acc ++ [p]
theorem key_cases : ∀ k ∈ keysL, (chOf k).isSome = true ∨ k ∈ numKeys ∨ k ∈ fracKeys ∨ k = sizesK ∨ k ∈ badKeys := by decide
theorem ch_len {k : Wd} {l : Ch} (h : chOf k = some l) : l.length ≤ 9 := by
  unfold chOf at h
  split at h
  · injection h with h; subst h; decide
  · split at h
    · injection h with h; subst h; decide
    · split at h
      · injection h with h; subst h; decide
      · cases h
theorem fine_num {k t : Wd} (h : k ∈ numKeys) : fine k t = (numT t).isSome := by
  obtain ⟨h1, h2⟩ := num_frac k h
  have e1 : numOf k t = numT t := by unfold numOf; rw [num_ch k h]; exact if_pos h
  have e2 : fracOf k t = none := if_neg h1
  have e3 : sizesOf k t = none := if_neg h2
  unfold fine
  rw [e1, e2, e3]; simp
theorem fine_frac {k t : Wd} (h : k ∈ fracKeys) : fine k t = (fracT t).isSome := by
  obtain ⟨h1, h2⟩ := frac_num k h
  have e1 : numOf k t = none := by unfold numOf; rw [frac_ch k h]; exact if_neg h1
  have e2 : fracOf k t = fracT t := if_pos h
  have e3 : sizesOf k t = none := if_neg h2
  unfold fine
  rw [e1, e2, e3]; simp
theorem fine_ch {k t : Wd} {l : Ch} (h : chOf k = some l) : fine k t = (pickP t l).isSome := by
  obtain ⟨h1, h2⟩ := ch_other k (ch_keys h)
  have e1 : numOf k t = pickP t l := by unfold numOf; rw [h]
  have e2 : fracOf k t = none := if_neg h1
  have e3 : sizesOf k t = none := if_neg h2
  unfold fine
  rw [e1, e2, e3]; simp
theorem fine_sizes {t : Wd} : fine sizesK t = (numsT (cuts [] t)).isSome := by
  have e1 : numOf sizesK t = none := rfl
  have e2 : fracOf sizesK t = none := rfl
  have e3 : sizesOf sizesK t = numsT (cuts [] t) := if_pos rfl
  unfold fine
  rw [e1, e2, e3]; simp
theorem bad_none : ∀ k ∈ badKeys, chOf k = none ∧ k ∉ numKeys ∧ k ∉ fracKeys ∧ k ≠ sizesK := by decide
theorem fine_bad {k t : Wd} (h : k ∈ badKeys) : fine k t = false := by
  obtain ⟨h0, h1, h2, h3⟩ := bad_none k h
  have e1 : numOf k t = none := by unfold numOf; rw [h0]; exact if_neg h1
  have e2 : fracOf k t = none := if_neg h2
  have e3 : sizesOf k t = none := if_neg h3
  unfold fine
  rw [e1, e2, e3]; rfl
theorem take_any {w : World} {B0 vb b1 b2 b3 S0 : Nat} {sz : Value} {acc : Acc} {b : ByteArray} {o : Option (Wd × Wd)} (hv : VAt w B0 vb b1 b2 b3 S0 sz acc) (hm : MaxAt w) (h : IsWord b o) (hB : B0 ≤ w.heap.size) (hmx : 0 < B0) :
    Calls Tryz.prog 14 #[.pointer (some ⟨vb, 0, none⟩), .string b] w fun e w' => TakeOut w B0 vb b1 b2 b3 S0 acc (okW acc o) (addW acc o) e w' := by
  cases o with
  | none => exact take_none hv hm h hB
  | some p =>
    obtain ⟨k, t⟩ := p
    by_cases hs : k ∈ keysOf acc
    · have e : okW acc (some (k, t)) = false := by
        show (decide (k ∉ keysOf acc) && fine k t) = false
        rw [decide_eq_false (fun hn => hn hs)]; rfl
      rw [e]
      exact (take_seen hv hm h hB hs).mono fun e w' ⟨h1, h2, h3⟩ => ⟨h1, h2, fun h => by cases h⟩
    · have e : okW acc (some (k, t)) = fine k t := by
        show (decide (k ∉ keysOf acc) && fine k t) = _
        rw [decide_eq_true hs]; rfl
      rw [e]
      rcases key_cases k h.2.1 with hk | hk | hk | hk | hk
      · obtain ⟨l, hl⟩ := Option.isSome_iff_exists.1 hk
        rw [fine_ch hl]
        exact take_ch hv hm h hB hs hl (ch_len hl)
      · rw [fine_num hk]
        exact take_num hv hm h hB hs hk
      · rw [fine_frac hk]
        exact take_frac hv hm h hB hs hk
      · rw [hk, fine_sizes, ← hk]
        exact take_sizes hv hm h hB hmx hs hk
      · rw [fine_bad hk]
        exact (take_bad hv hm h hB hs hk).mono fun e w' ⟨h1, h2, h3⟩ => ⟨h1, h2, fun h => by cases h⟩
end Go.Proofs.YtelehhfnomdneaaGreatDoor.Sp
namespace Go.Proofs.YtelehhfnomdneaaGreatDoor.Sp
open Go Go.RowKit Ut Tc

theorem setRow_alt {w : World} {g : Nat} {old cs : Array Value} {t : TypeId} (hg : w.heap[g]? = some (.cells old t (0, 0))) : Blk (w.setRow g cs) g t cs ∧ Alt w (w.setRow g cs) (fun k => k = g) ∧ (w.setRow g cs).heap.size = w.heap.size := by
  refine ⟨?_, ⟨rfl, rfl, rfl, by simp [World.setRow], fun k _ hk => ?_⟩, by simp [World.setRow]⟩
  · show (w.heap.modify g _)[g]? = _
    rw [Array.getElem?_modify, if_pos rfl, hg]
    rfl
  · show (w.heap.modify g _)[k]? = _
    rw [Array.getElem?_modify, if_neg (fun e => hk e.symm)]
section
variable {ops : Array Oper} {o : Oper} {a : Act} {K : Act → World → Prop} {Q : Exit → Act → World → Prop}
theorem wp_store_row (w : World) (t : TypeId) (p v : Operand) (ho : o.op = .store t p v) (g : Nat) (old cs : Array Value) (t' : TypeId) (hp : a.eval p = .pointer (some ⟨g, 0, none⟩)) (hv : a.eval v = .agg cs)
    (hg : w.heap[g]? = some (.cells old t' (0, 0))) (hi : (Tryz.prog.info? t).map (·.size) = some cs.size) (hs : old.size = cs.size) (h1 : cs.all (·.oneCell') = true)
    (hK : ∀ w', Blk w' g t' cs → Alt w w' (fun k => k = g) → w'.heap.size = w.heap.size → K (a.put o.dst undef) w') : Oper.wp Tryz.prog o a w K Q := by
  have hrun := run_storeVar_row (P := Tryz.prog) w g t' t old cs hg hi hs h1
  obtain ⟨h2, h3, h4⟩ := setRow_alt (cs := cs) hg
  unfold Oper.wp
  simp [execOp, ho, hp, hv, Instr.storeAt, Instr.sureAddr, hrun, Result.andThen]
  exact hK _ h2 h3 h4
theorem wp_load_row (w : World) (t : TypeId) (p : Operand) (ho : o.op = .load t p) (g : Nat) (cs : Array Value) (t' : TypeId) (fr : Nat × Nat) (d : TypeDesc) (hp : a.eval p = .pointer (some ⟨g, 0, none⟩))
    (hg : w.heap[g]? = some (.cells cs t' fr)) (hu : Tryz.prog.underlying t = some d) (hd : (match d with | .struct _ | .array _ _ => true | _ => false) = true) (hi : (Tryz.prog.info? t).map (·.size) = some cs.size)
    (hK : K (a.put o.dst (.agg cs)) w) : Oper.wp Tryz.prog o a w K Q := by
  have hrun := run_loadVar_row (P := Tryz.prog) w g t' t cs fr d hg hu (by cases d <;> first | rfl | cases hd) hi
  unfold Oper.wp
  simp [execOp, ho, hp, Instr.loadAt, Instr.sureAddr, hrun, Result.andThen]
  exact hK
theorem step_store_row {E : Prop} (w : World) (hgd : o.guard = none) (t : TypeId) (p v : Operand) (ho : o.op = .store t p v) (g : Nat) (old cs : Array Value) (t' : TypeId) (hp : a.eval p = .pointer (some ⟨g, 0, none⟩)) (hv : a.eval v = .agg cs)
    (hg : w.heap[g]? = some (.cells old t' (0, 0))) (hi : (Tryz.prog.info? t).map (·.size) = some cs.size) (hs : old.size = cs.size) (h1 : cs.all (·.oneCell') = true)
    (hK : ∀ w', Blk w' g t' cs → Alt w w' (fun k => k = g) → w'.heap.size = w.heap.size → K (a.put o.dst undef) w') : if Region.wanted o (yielded ops a.tmps) = true then Oper.wp Tryz.prog o a w K Q else E := by
  have hw : Region.wanted o (yielded ops a.tmps) = true := by simp [Region.wanted, hgd]
  rw [if_pos hw]
  exact wp_store_row w t p v ho g old cs t' hp hv hg hi hs h1 hK
theorem wpList_store_row {rest : List Oper} (w : World) (hgd : o.guard = none) (t : TypeId) (p v : Operand) (ho : o.op = .store t p v) (g : Nat) (old cs : Array Value) (t' : TypeId) (hp : a.eval p = .pointer (some ⟨g, 0, none⟩)) (hv : a.eval v = .agg cs)
    (hg : w.heap[g]? = some (.cells old t' (0, 0))) (hi : (Tryz.prog.info? t).map (·.size) = some cs.size) (hs : old.size = cs.size) (h1 : cs.all (·.oneCell') = true)
    (hK : ∀ w', Blk w' g t' cs → Alt w w' (fun k => k = g) → w'.heap.size = w.heap.size → wpList Tryz.prog ops Q rest (a.put o.dst undef) w') : wpList Tryz.prog ops Q (o :: rest) a w := by
  refine wpList_plain hgd fun K' hK' => ?_
  exact wp_store_row w t p v ho g old cs t' hp hv hg hi hs h1 fun w' h2 h3 h4 => hK' _ _ (hK w' h2 h3 h4)
theorem wpList_load_row {rest : List Oper} (w : World) (hgd : o.guard = none) (t : TypeId) (p : Operand) (ho : o.op = .load t p) (g : Nat) (cs : Array Value) (t' : TypeId) (fr : Nat × Nat) (d : TypeDesc) (hp : a.eval p = .pointer (some ⟨g, 0, none⟩))
    (hg : w.heap[g]? = some (.cells cs t' fr)) (hu : Tryz.prog.underlying t = some d) (hd : (match d with | .struct _ | .array _ _ => true | _ => false) = true) (hi : (Tryz.prog.info? t).map (·.size) = some cs.size)
    (hK : wpList Tryz.prog ops Q rest (a.put o.dst (.agg cs)) w) : wpList Tryz.prog ops Q (o :: rest) a w := by
  refine wpList_plain hgd fun K' hK' => ?_
  exact wp_load_row w t p ho g cs t' fr d hp hg hu hd hi (hK' _ _ hK)
end
theorem results_row {P : Program} {fn : Func} {t : Tmp} {ty t' : TypeId} (h : fn.results = #[.cell t ty]) (tmps : Array Value) (w : World) (g : Nat) (cs : Array Value) (fr : Nat × Nat) (d : TypeDesc) (hp : tmps.getD t undef = .pointer (some ⟨g, 0, none⟩))
    (hg : w.heap[g]? = some (.cells cs t' fr)) (hu : P.underlying ty = some d) (hd : (match d with | .struct _ | .array _ _ => true | _ => false) = true) (hi : (P.info? ty).map (·.size) = some cs.size) : (results fn tmps).run P w = .ok (.agg cs) w := by
  have := run_loadVar_row w g t' ty cs fr d hg hu hd hi
  have ha : (asAddr (.pointer (some ⟨g, 0, none⟩))).run P w = .ok ⟨g, 0, none⟩ w := rfl
  have hp' : tmps[t]?.getD undef = .pointer (some ⟨g, 0, none⟩) := by simpa using hp
  simp [results, h, hp', ha, this, Sem.run_bind]
theorem results_row2 {P : Program} {fn : Func} {t u : Tmp} {ty t' : TypeId} (h : fn.results = #[.cell t ty, .tmp u]) (tmps : Array Value) (w : World) (g : Nat) (cs : Array Value) (fr : Nat × Nat) (d : TypeDesc) (hp : tmps.getD t undef = .pointer (some ⟨g, 0, none⟩))
    (hg : w.heap[g]? = some (.cells cs t' fr)) (hu : P.underlying ty = some d) (hd : (match d with | .struct _ | .array _ _ => true | _ => false) = true) (hi : (P.info? ty).map (·.size) = some cs.size) : (results fn tmps).run P w = .ok (.tuple #[.agg cs, tmps.getD u undef]) w := by
  have := run_loadVar_row w g t' ty cs fr d hg hu hd hi
  have ha : (asAddr (.pointer (some ⟨g, 0, none⟩))).run P w = .ok ⟨g, 0, none⟩ w := rfl
  have hp' : tmps[t]?.getD undef = .pointer (some ⟨g, 0, none⟩) := by simpa using hp
  simp [results, h, hp', ha, this, Sem.run_bind]
end Go.Proofs.YtelehhfnomdneaaGreatDoor.Sp
namespace Go.Proofs.YtelehhfnomdneaaGreatDoor.Sp
open Go Go.RowKit Ut Tc

def nO (acc : Acc) (k : Wd) : Option Nat := match acc with
  | [] => none
  | p :: l => if p.1 = k then (numOf p.1 p.2).or (nO l k) else nO l k
def fO (acc : Acc) (k : Wd) : Option (Bool × Nat × Nat) := match acc with
  | [] => none
  | p :: l => if p.1 = k then (fracOf p.1 p.2).or (fO l k) else fO l k
theorem lk_numsM (acc : Acc) (k : Wd) : lk (numsM acc) k = (nO acc k).map fun (n : Nat) => Value.int .i64 (n : Int) := by
  induction acc with
  | nil => rfl
  | cons p l ih =>
    show lk (List.filterMap _ (p :: l)) k = _
    rw [List.filterMap_cons]
    unfold nO
    cases h : numOf p.1 p.2 with
    | none =>
      simp only [Option.map_none]
      refine Eq.trans ih ?_
      split <;> simp
    | some n =>
      simp only [Option.map_some]
      show (if p.1 = k then some (Value.int .i64 (n : Int)) else lk (numsM l) k) = _
      rw [ih]
      split <;> simp
theorem lk_fracsM (acc : Acc) (k : Wd) : lk (fracsM acc) k = (fO acc k).map fun q => Value.agg ⟨qOf q⟩ := by
  induction acc with
  | nil => rfl
  | cons p l ih =>
    show lk (List.filterMap _ (p :: l)) k = _
    rw [List.filterMap_cons]
    unfold fO
    cases h : fracOf p.1 p.2 with
    | none =>
      simp only [Option.map_none]
      refine Eq.trans ih ?_
      split <;> simp
    | some n =>
      simp only [Option.map_some]
      show (if p.1 = k then some (Value.agg ⟨qOf n⟩) else lk (fracsM l) k) = _
      rw [ih]
      split <;> simp
theorem nO_snoc (acc : Acc) (k t k' : Wd) : nO (acc ++ [(k, t)]) k' = (nO acc k').or (if k = k' then numOf k t else none) := by
  induction acc with
  | nil => unfold nO; unfold nO; simp
  | cons p l ih =>
    show (if p.1 = k' then (numOf p.1 p.2).or (nO (l ++ [(k, t)]) k') else nO (l ++ [(k, t)]) k') = (if p.1 = k' then (numOf p.1 p.2).or (nO l k') else nO l k').or _
    rw [ih]
    split <;> simp [Option.or_assoc]
theorem fO_snoc (acc : Acc) (k t k' : Wd) : fO (acc ++ [(k, t)]) k' = (fO acc k').or (if k = k' then fracOf k t else none) := by
  induction acc with
  | nil => unfold fO; unfold fO; simp
  | cons p l ih =>
    show (if p.1 = k' then (fracOf p.1 p.2).or (fO (l ++ [(k, t)]) k') else fO (l ++ [(k, t)]) k') = (if p.1 = k' then (fracOf p.1 p.2).or (fO l k') else fO l k').or _
    rw [ih]
    split <;> simp [Option.or_assoc]
def nD (acc : Acc) (k : Wd) : Nat := (nO acc k).getD 0
def fD (acc : Acc) (k : Wd) : Bool × Nat × Nat := (fO acc k).getD (false, 0, 0)
def nV (n : Nat) : Value := .int .i64 (n : Int)
/- A spec's cells, of its numbers and fractions. -/
def ruleL (N : Wd → Nat) (Q : Wd → Bool × Nat × Nat) : List Value := [nV (N [100, 101, 101, 112]), nV (N [108, 101, 97, 115, 116])] ++ qOf (Q [103, 97, 105, 110])
def forestL (N : Wd → Nat) (Q : Wd → Bool × Nat × Nat) : List Value := [nV (N [116, 114, 101, 101, 115]), nV (N [115, 111, 109, 101]), .int .u64 (N [115, 101, 101, 100] : Int)] ++ ruleL N Q
def boostL (N : Wd → Nat) (Q : Wd → Bool × Nat × Nat) : List Value := [nV (N [108, 111, 115, 115]), nV (N [114, 111, 117, 110, 100, 115])] ++ qOf (Q [114, 97, 116, 101]) ++ qOf (Q [97, 116]) ++ ruleL N Q
def downL (N : Wd → Nat) (Q : Wd → Bool × Nat × Nat) : List Value := qOf (Q [114, 97, 116, 101]) ++ qOf (Q [107, 101, 101, 112]) ++ [nV (N [115, 116, 101, 112, 115]), nV (N [98, 97, 116, 99, 104]), nV (N [98, 105, 116, 115]), .int .u64 (N [115, 101, 101, 100] : Int)]
def specL (kind : Nat) (goal cols sizes : Value) (N : Wd → Nat) (Q : Wd → Bool × Nat × Nat) : List Value :=
  [nV kind, nV (N [104, 111, 119]), nV (N [97, 120, 101, 115]), nV (N [99, 111, 117, 110, 116]), goal, cols, .int .u64 (N [115, 101, 101, 100] : Int)] ++ qOf (Q [98, 121]) ++ qOf (Q [115, 112, 97, 110]) ++ ruleL N Q ++ forestL N Q ++ boostL N Q ++ [sizes, nV (N [98, 101, 110, 100]), nV (N [98, 105, 116, 115])] ++ downL N Q

section
variable {w : World} {B0 vb b1 b2 b3 S0 : Nat} {sz : Value} {m1 m2 m3 : Mp} {zs : List Nat} {acc : Acc}
/- What the maps say, in whatever world they stand. -/
structure Looks (w : World) (b2 b3 : Nat) (N : Wd → Nat) (Q : Wd → Bool × Nat × Nat) : Prop where
  num : ∀ k, (Instr.lookup 58 (.map (some b2)) (.string ⟨⟨k⟩⟩) false).run Tryz.prog w = .ok (nV (N k)) w
  frac : ∀ k, (Instr.lookup 59 (.map (some b3)) (.string ⟨⟨k⟩⟩) false).run Tryz.prog w = .ok (.agg ⟨qOf (Q k)⟩) w
theorem lk_getD_num (m : Mp) (o : Option Nat) (k : Wd) (h : lk m k = o.map fun (n : Nat) => Value.int .i64 (n : Int)) : (lk m k).getD (.int .i64 0) = nV (o.getD 0) := by
  rw [h]; cases o <;> rfl
theorem lk_getD_frac (m : Mp) (o : Option (Bool × Nat × Nat)) (k : Wd) (h : lk m k = o.map fun q => Value.agg ⟨qOf q⟩) : (lk m k).getD (.agg ⟨qz⟩) = .agg ⟨qOf (o.getD (false, 0, 0))⟩ := by
  rw [h]; cases o <;> rfl
theorem VRaw.looks {N : Wd → Nat} {Q : Wd → Bool × Nat × Nat} (h : VRaw w B0 vb b1 b2 b3 S0 sz m1 m2 m3 zs) (hn : ∀ k, (lk m2 k).getD (.int .i64 0) = nV (N k)) (hq : ∀ k, (lk m3 k).getD (.agg ⟨qz⟩) = .agg ⟨qOf (Q k)⟩) : Looks w b2 b3 N Q :=
  ⟨fun k => by rw [run_lk (P := Tryz.prog) Tryz.underlying58 Tryz.underlying9 (zI w) h.m2 k, hn], fun k => by rw [run_lk (P := Tryz.prog) Tryz.underlying59 Tryz.underlying9 (zQ w) h.m3 k, hq]⟩
end
end Go.Proofs.YtelehhfnomdneaaGreatDoor.Sp
