/-
  ToolSpecs: alike of specs of the same cells, for all rows that hold them; and of two empty specs.
  And: ToolSpecs: both Specs for the law's words. ToolSpecs: the law, walked. ToolSpecs: the law's arguments, opened.
-/
import Derived.Test.YtelehhfnomdneaaGreatDoorMk
import Derived.Test.YtelehhfnomdneaaGreatDoorMe
import Derived.Test.YtelehhfnomdneaaGreatDoorMj
import Derived.Lib.SmallJoins
import Derived.ChangeSlices
import Derived.OpenShut
namespace Go.Proofs.YtelehhfnomdneaaGreatDoor.Sp
open Go Go.RowKit Ut Tc CX

theorem zalike1 (s : Nat → Value) : gets (xo s) 9 [.agg ⟨zL⟩, .agg ⟨zL⟩] (Hp.zero NG) (.bool true) = true := by kernel_rfl
theorem zalike (w : World) : Calls Tryz.prog 9 #[.agg ⟨zL⟩, .agg ⟨zL⟩] w fun e w' => e = .returned (.bool true) ∧ Below w.heap.size w w' := by
  have hp : plain (.agg ⟨zL⟩) = true := by kernel_rfl
  exact gets_run (zalike1 sN) rfl (fun p hp => tupV_eq hp) (HR.zero NG _ sN_one w) (GOk.zero NG _ sN_one) (.cons (VR.of_plain hp) (.cons (VR.of_plain hp) .nil)) zero_img
/- The cells of a row. -/
theorem lr_words {E : En} (cl : List Wd) : LR E (cl.map sv) (cl.map sv) := F2.refl _ fun a ha => by
  obtain ⟨t, _, rfl⟩ := List.mem_map.1 ha
  exact .plain rfl
theorem lr_sizes {E : En} {kd : Nat} {N : Wd → Nat} {Q : Wd → Bool × Nat × Nat} {z0 z1 : Int} (hE : E.s = symA kd N Q z0 z1) : ∀ (zs : List Nat), zs.length ≤ 2 → z0 = (zs[0]?.getD 0 : Nat) → z1 = (zs[1]?.getD 0 : Nat) → LR E (szA zs.length) (nat64 zs)
  | [], _, _, _ => .nil
  | [a], _, h0, _ => by
    have : Value.int .i64 (a : Int) = symA kd N Q z0 z1 15 := by rw [h0]; rfl
    show LR E [sy 15] [Value.int .i64 (a : Int)]
    rw [this]
    exact .cons (hE ▸ .sym) .nil
  | [a, b], _, h0, h1 => by
    have e0 : Value.int .i64 (a : Int) = symA kd N Q z0 z1 15 := by rw [h0]; rfl
    have e1 : Value.int .i64 (b : Int) = symA kd N Q z0 z1 16 := by rw [h1]; rfl
    show LR E [sy 15, sy 16] [Value.int .i64 (a : Int), Value.int .i64 (b : Int)]
    rw [e0, e1]
    exact .cons (hE ▸ .sym) (.cons (hE ▸ .sym) .nil)
  | _ :: _ :: _ :: _, h, _, _ => by simp at h
theorem szA_len (zs : List Nat) (h : zs.length ≤ 2) : (szA zs.length).length = zs.length := by
  match zs, h with
  | [], _ => rfl
  | [_], _ => rfl
  | [_, _], _ => rfl
/- One row put into the abstract world, or none. -/
theorem HRo.opt {E : En} {h : Hp} {w : World} {p : Nat → Prop} (H : HRo E h w p) {ng : Gb} (hg : GOk ng E) {b n : Nat} {t : TypeId} {v : Value} {l xs : List Value} (ho : w.ownsRow b t 1 v n xs) (hl : LR E l xs) (hn2 : l.length = n) (hp : ∀ g, v.ownBlock = some g → ¬ p g) :
    ∃ (r : Bool) (E' : En), HRo E' (cond r (h.new (.row (rowB t l))) h) w (fun k => p k ∨ v.ownBlock = some k) ∧ GOk ng E' ∧ E.le E' ∧ VR E' (cond r (.slice (some ⟨h.next, 0, none⟩) n 3) (.slice none 0 0)) v ∧ (r = false → n = 0) := by
  rcases ho.2 with ⟨rfl, hn⟩ | ⟨g, cap, cur, rfl, _, h4, h5, _, h7, h8⟩
  · exact ⟨false, E, ⟨H.hr, H.ro, fun i o e hi he => Or.inl (H.at_ i o e hi he)⟩, hg, En.le_refl E, .plain rfl, fun _ => hn⟩
  · obtain ⟨E', h1, h2, h3, h4⟩ := H.row hg h4 h5 h7 h8 hl hn2 (hp g rfl)
    exact ⟨true, E', ⟨h1.hr, h1.ro, fun i o e hi he => (h1.at_ i o e hi he).imp id fun hk => by rw [hk]; rfl⟩, h2, h3, h4, fun h => (by cases h)⟩
theorem HRo.any {E : En} {h : Hp} {w : World} {p : Nat → Prop} (H : HRo E h w p) : HRo E h w (fun _ => True) := ⟨H.hr, H.ro, fun _ _ _ _ _ => trivial⟩
theorem runA_get {s : Nat → Value} {n : Nat} {b3 b4 : Bool} (h : allA s n b3 b4 = true) {cl : List Wd} {t1 : Wd} (hc : cl ∈ colsOkL) (ht : t1 ∈ goalsL) : runA s cl t1 n b3 b4 = true :=
  List.all_eq_true.1 (List.all_eq_true.1 h cl hc) t1 ht
theorem allA_any (s : Nat → Value) : ∀ (n : Nat) (b3 b4 : Bool), n ≤ 2 → (b3 = false → n = 0) → (b4 = false → n = 0) → allA s n b3 b4 = true
  | 0, false, false, _, _, _ => all_0ff s
  | 0, false, true, _, _, _ => all_0ft s
  | 0, true, false, _, _, _ => all_0tf s
  | 0, true, true, _, _, _ => all_0tt s
  | 1, true, true, _, _, _ => all_1tt s
  | 2, true, true, _, _, _ => all_2tt s
  | n + 1, false, _, _, h, _ => absurd (h rfl) (by omega)
  | n + 1, _, false, _, _, h => absurd (h rfl) (by omega)
  | n + 3, _, _, h, _, _ => absurd h (by omega)
set_option maxRecDepth 100000 in
theorem alike_any {w : World} {kd S0 b1 b3 : Nat} {N : Wd → Nat} {Q : Wd → Bool × Nat × Nat} {t1 : Wd} {cl : List Wd} {zs : List Nat} {c1 c2 s1 s2 : Value} (ht : t1 ∈ goalsL) (hc : cl ∈ colsOkL) (hz : zs.length ≤ 2) (hq : ∀ k, qOf (Q k) ∈ qs)
    (o1 : w.ownsRow b1 9 1 c1 cl.length (cl.map sv)) (o2 : w.ownsRow S0 9 1 c2 cl.length (cl.map sv)) (o3 : w.ownsRow b3 3 1 s1 zs.length (nat64 zs)) (o4 : w.ownsRow S0 3 1 s2 zs.length (nat64 zs))
    (l1 : ∀ g, c1.ownBlock = some g → g < S0) (l3 : ∀ g, s1.ownBlock = some g → g < S0) :
    Calls Tryz.prog 9 #[.agg ⟨specL kd (sv t1) c1 s1 N Q⟩, .agg ⟨specL kd (sv t1) c2 s2 N Q⟩] w fun e w' => e = .returned (.bool true) ∧ Below w.heap.size w w' := by
  have hne : ∀ {b b' : Nat} {v v' : Value} {n n' : Nat} {xs xs' : List Value}, w.ownsRow b 9 1 v n xs → w.ownsRow b' 3 1 v' n' xs' → ∀ g, v.ownBlock = some g → v'.ownBlock = some g → False := fun h h' g e e' => by
    obtain ⟨a1, a2, a3⟩ := own_type h g e (own_base h e).2
    obtain ⟨d1, d2, d3⟩ := own_type h' g e' (own_base h' e').2
    rw [a3] at d3
    injection d3 with d3
    injection d3 with _ d3
    exact absurd d3 (by decide)
  obtain ⟨z0, hz0⟩ : ∃ z0 : Int, z0 = (zs[0]?.getD 0 : Nat) := ⟨_, rfl⟩
  obtain ⟨z1, hz1⟩ : ∃ z1 : Int, z1 = (zs[1]?.getD 0 : Nat) := ⟨_, rfl⟩
  have H0 := HRo.zero NG (symA kd N Q z0 z1) (symA_one kd N Q z0 z1) w
  have G0 := GOk.zero NG (symA kd N Q z0 z1) (symA_one kd N Q z0 z1)
  obtain ⟨r1, E1, H1, G1, L1, V1, n1⟩ := H0.opt G0 o1 (lr_words cl) (by simp) (fun g _ h => h)
  have hcl : cl.length ≠ 0 := by
    have : ∀ cl ∈ colsOkL, cl.length ≠ 0 := by decide
    exact this cl hc
  cases r1 with
  | false => exact absurd (n1 rfl) hcl
  | true =>
  obtain ⟨r2, E2, H2, G2, L2, V2, n2⟩ := H1.opt G1 o2 (lr_words cl) (by simp) (fun g e h => by
    rcases h with h | h
    · exact h
    · have := l1 g h; have := (own_base o2 e).1; omega)
  cases r2 with
  | false => exact absurd (n2 rfl) hcl
  | true =>
  obtain ⟨r3, E3, H3, G3, L3, V3, n3⟩ := H2.opt G2 o3 (lr_sizes G2.2 zs hz hz0 hz1) (szA_len zs hz) (fun g e h => by
    rcases h with (h | h) | h
    · exact h
    · exact hne o1 o3 g h e
    · exact hne o2 o3 g h e)
  obtain ⟨r4, E4, H4, G4, L4, V4, n4⟩ := H3.opt G3 o4 (lr_sizes G3.2 zs hz hz0 hz1) (szA_len zs hz) (fun g e h => by
    rcases h with ((h | h) | h) | h
    · exact h
    · exact hne o1 o4 g h e
    · exact hne o2 o4 g h e
    · have := l3 g h; have := (own_base o4 e).1; omega)
  have hrun := runA_get (allA_any (symA kd N Q z0 z1) zs.length r3 r4 hz n3 n4) hc ht
  unfold runA at hrun
  refine givesH_run (Xa_ok kd N Q z0 z1 hq) hrun rfl (E := E4) (p := fun _ => True) ?_ G4 ?_
  · cases r3 <;> cases r4 <;> exact H4.any
  · refine .cons (VR.agg' (specA_lr G4.2 rfl (VR.mono L4 (VR.mono L3 (VR.mono L2 V1))) ?_)) (.cons (VR.agg' (specA_lr G4.2 rfl (VR.mono L4 (VR.mono L3 V2)) ?_)) .nil)
    · have := VR.mono L4 V3
      cases r3 <;> exact this
    · cases r3 <;> cases r4 <;> exact V4
end Go.Proofs.YtelehhfnomdneaaGreatDoor.Sp
namespace Go.Proofs.YtelehhfnomdneaaGreatDoor.Sp
open Go Go.RowKit Ut Tc

theorem goal_in {t : Wd} (h : isNm t = true) : t ∈ goalsL := of_decide_eq_true h
theorem cols_in : ∀ t ∈ namesL, colsOk t = true → cuts [] t ∈ colsOkL := by decide
theorem fracT_in {t : Wd} {q : Bool × Nat × Nat} (h : fracT t = some q) : t ∈ textsL := by
  unfold fracT at h
  split at h
  · subst t; decide
  split at h
  · subst t; decide
  split at h
  · subst t; decide
  split at h
  · subst t; decide
  split at h
  · subst t; decide
  split at h
  · subst t; decide
  split at h
  · subst t; decide
  split at h
  · subst t; decide
  cases h
theorem frac_qs {t : Wd} {q : Bool × Nat × Nat} (h : fracT t = some q) : qOf q ∈ qs :=
  List.mem_cons_of_mem _ (List.mem_map_of_mem (List.mem_filterMap.2 ⟨t, fracT_in h, h⟩))
theorem fO_qs (k : Wd) : ∀ (acc : Acc) (q : Bool × Nat × Nat), fO acc k = some q → qOf q ∈ qs
  | [], _, h => by unfold fO at h; cases h
  | p :: l, q, h => by
    have h : (if p.1 = k then (fracOf p.1 p.2).or (fO l k) else fO l k) = some q := h
    split at h
    · cases hf : fracOf p.1 p.2 with
      | none => rw [hf] at h; exact fO_qs k l q h
      | some q' =>
        rw [hf] at h
        have h : some q' = some q := h
        injection h with h; subst h
        unfold fracOf at hf
        split at hf
        · exact frac_qs hf
        · cases hf
    · exact fO_qs k l q h
theorem fD_qs (acc : Acc) (k : Wd) : qOf (fD acc k) ∈ qs := by
  unfold fD
  cases h : fO acc k with
  | none => exact List.mem_cons_self
  | some q => exact fO_qs k acc q h
theorem sizes_two : ∀ t ∈ valsL, ((numsT (cuts [] t)).getD []).length ≤ 2 := by decide
theorem runW_sizes : ∀ (os : List (Option (Wd × Wd))) (acc acc' : Acc), (∀ o ∈ os, ∀ p, o = some p → p.2 ∈ valsL) → (sizesP acc).length ≤ 2 → runW acc os = some acc' → (sizesP acc').length ≤ 2
  | [], acc, acc', _, hI, h => by
    have h : some acc = some acc' := h
    injection h with h; subst h; exact hI
  | o :: l, acc, acc', hv, hI, h => by
    have h : (if okW acc o = true then runW (addW acc o) l else none) = some acc' := h
    split at h
    · rename_i hok
      refine runW_sizes l _ acc' (fun o ho => hv o (List.mem_cons_of_mem _ ho)) ?_ h
      cases o with
      | none => cases hok
      | some p =>
        have hok : (decide (p.1 ∉ keysOf acc) && fine p.1 p.2) = true := hok
        have hk : p.1 ∉ keysOf acc := of_decide_eq_true (Bool.and_eq_true_iff.1 hok).1
        have e : sizesP (acc ++ [p]) = sizesP acc ++ (sizesOf p.1 p.2).getD [] := by
          unfold sizesP; simp
        show (sizesP (acc ++ [p])).length ≤ 2
        rw [e, List.length_append]
        unfold sizesOf
        split
        · rename_i hs
          rw [hs] at hk
          rw [sizes_fresh hk]
          have := sizes_two p.2 (hv _ List.mem_cons_self p rfl)
          simpa using this
        · simpa using hI
    · cases h
theorem words_os : ∀ (l : List ByteArray), (∀ b ∈ l, ∃ o, IsWord b o) → ∃ os : List (Option (Wd × Wd)), os.length = l.length ∧ ∀ (i : Nat) o, os[i]? = some o → ∃ b, l[i]? = some b ∧ IsWord b o
  | [], _ => ⟨[], rfl, fun i o h => by simp at h⟩
  | b :: l, h => by
    obtain ⟨o, ho⟩ := h b List.mem_cons_self
    obtain ⟨os, h1, h2⟩ := words_os l fun b hb => h b (List.mem_cons_of_mem _ hb)
    refine ⟨o :: os, by simp [h1], fun i o' hi => ?_⟩
    cases i with
    | zero =>
      have hi : some o = some o' := hi
      injection hi with hi; subst hi
      exact ⟨b, rfl, ho⟩
    | succ i => exact h2 i o' hi
theorem win_of {w : World} {B c : Nat} {A : Option Addr} {bs : List ByteArray} (h : w.ownsRow B 9 1 (.slice A bs.length c) bs.length (bs.map Value.string)) (hok : WordsOk bs) (h3 : 3 ≤ bs.length) :
    ∃ t0 t1 t2 os, WIn w A bs.length c bs t0 t1 t2 os ∧ ∀ o ∈ os, ∀ p, o = some p → p.2 ∈ valsL := by
  obtain ⟨h9, hw⟩ := hok
  obtain ⟨t0, m0, e0⟩ : ∃ t ∈ kindsL, bs[0] = ⟨⟨t⟩⟩ := hw 0 (by omega)
  obtain ⟨t1, m1, e1⟩ : ∃ t ∈ namesL, bs[1] = ⟨⟨t⟩⟩ := hw 1 (by omega)
  obtain ⟨t2, m2, e2⟩ : ∃ t ∈ namesL, bs[2] = ⟨⟨t⟩⟩ := hw 2 (by omega)
  obtain ⟨os, h1, h2⟩ := words_os (bs.drop 3) fun b hb => by
    obtain ⟨i, hi, rfl⟩ := List.getElem_of_mem hb
    rw [List.length_drop] at hi
    have := hw (3 + i) (by omega)
    unfold WordAt at this
    rw [if_neg (by omega), if_neg (by omega)] at this
    rw [List.getElem_drop]
    exact this
  have hos : ∀ (i : Nat) o, os[i]? = some o → ∃ b, bs[i + 3]? = some b ∧ IsWord b o := fun i o hi => by
    obtain ⟨b, hb, ho⟩ := h2 i o hi
    rw [List.getElem?_drop, Nat.add_comm] at hb
    exact ⟨b, hb, ho⟩
  refine ⟨t0, t1, t2, os, ⟨⟨B, h⟩, rfl, by rw [h1, List.length_drop]; omega, h9, ?_, ?_, ?_, m0, m1, m2, hos⟩, fun o ho p hp => ?_⟩
  · rw [List.getElem?_eq_getElem (by omega), e0]
  · rw [List.getElem?_eq_getElem (by omega), e1]
  · rw [List.getElem?_eq_getElem (by omega), e2]
  · subst hp
    obtain ⟨i, hi, hio⟩ := List.getElem_of_mem ho
    obtain ⟨b, _, hb⟩ := hos i (some p) (by rw [List.getElem?_eq_getElem hi, hio])
    exact hb.2.2
theorem MaxAt.below' {w w' : World} (h : MaxAt w) (hb : Below w.heap.size w w') : MaxAt w' := by
  obtain ⟨m, hm⟩ := h
  refine ⟨m, ?_⟩
  have hl := World.block_lt_of_cell? w _ hm
  unfold World.cell? at hm ⊢
  rw [hb.block _ hl]
  exact hm
section
variable {w : World} {A : Option Addr} {n c : Nat}
set_option maxHeartbeats 4000000 in
set_option maxRecDepth 100000 in
theorem tspec_short (h : n < 3) : Calls Tryz.prog 6 #[.slice A n c] w fun e w' => e = .returned (.tuple #[.agg ⟨zL⟩, .int .i64 2]) ∧ Below w.heap.size w w' := by
  obtain ⟨hz, hzs, hz1⟩ := zL_facts
  generalize (⟨zL⟩ : Array Value) = z at *
  have HZS := Lib.hid hzs
  have HZ1 := Lib.hid hz1
  clear hzs hz1
  go_enter Tryz.func6, Tryz.ntmps6
  have hd : decide ((n : Int) < 3) = true := decide_eq_true (by omega)
  have hZ2 := Blk.new w 42 z
  have hst := run_storeCells_blk hZ2 (HZS.out.symm ▸ infoSpec) rfl HZ1.out
  go_wp2
  exact bodyPost_ret (results_row2 rfl _ _ w.heap.size z _ _ rfl (setRow_alt hZ2).1 Tryz.underlying42 rfl (HZS.out.symm ▸ infoSpec)) rfl ⟨rfl, setRow_below ((Below.refl _ _).alloc (Nat.le_refl _) _) hZ2 (Nat.le_refl _)⟩
set_option maxHeartbeats 4000000 in
set_option maxRecDepth 100000 in
theorem sspec_short (h : n < 3) : Calls Tryz.prog 7 #[.slice A n c] w fun e w' => e = .returned (.tuple #[.agg ⟨zL⟩, .bool false]) ∧ Below w.heap.size w w' := by
  obtain ⟨hz, hzs, hz1⟩ := zL_facts
  generalize (⟨zL⟩ : Array Value) = z at *
  have HZS := Lib.hid hzs
  have HZ1 := Lib.hid hz1
  clear hzs hz1
  go_enter Tryz.func7, Tryz.ntmps7
  have hd : decide ((n : Int) < 3) = true := decide_eq_true (by omega)
  have hZ2 := Blk.new w 42 z
  have hst := run_storeCells_blk hZ2 (HZS.out.symm ▸ infoSpec) rfl HZ1.out
  go_wp2
  exact bodyPost_ret (results_row2 rfl _ _ w.heap.size z _ _ rfl (setRow_alt hZ2).1 Tryz.underlying42 rfl (HZS.out.symm ▸ infoSpec)) rfl ⟨rfl, setRow_below ((Below.refl _ _).alloc (Nat.le_refl _) _) hZ2 (Nat.le_refl _)⟩
end
def RowsOf (W : World) (cl : List Wd) (zs : List Nat) (cols sz : Value) (w' : World) : Prop :=
  w'.ownsRow W.heap.size 9 1 cols cl.length (cl.map sv) ∧ w'.ownsRow W.heap.size 3 1 sz zs.length (nat64 zs) ∧ Below W.heap.size W w'
theorem specs_any {w : World} {B : Nat} {v : Value} {bs : List ByteArray} (h : w.ownsRow B 9 1 v bs.length (bs.map Value.string)) (hok : WordsOk bs) (hm : MaxAt w) :
    (∀ W, Below w.heap.size w W → (Calls Tryz.prog 6 #[v] W fun e w' => e = .returned (.tuple #[.agg ⟨zL⟩, .int .i64 2]) ∧ Below W.heap.size W w') ∧ (Calls Tryz.prog 7 #[v] W fun e w' => e = .returned (.tuple #[.agg ⟨zL⟩, .bool false]) ∧ Below W.heap.size W w')) ∨
    (∃ kd t1 cl zs N Q, t1 ∈ goalsL ∧ cl ∈ colsOkL ∧ zs.length ≤ 2 ∧ (∀ k, qOf (Q k) ∈ qs) ∧ ∀ W, Below w.heap.size w W →
      (Calls Tryz.prog 6 #[v] W fun e w' => ∃ cols sz, e = .returned (.tuple #[.agg ⟨specL kd (sv t1) cols sz N Q⟩, .int .i64 0]) ∧ RowsOf W cl zs cols sz w') ∧
      (Calls Tryz.prog 7 #[v] W fun e w' => ∃ cols sz, e = .returned (.tuple #[.agg ⟨specL kd (sv t1) cols sz N Q⟩, .bool true]) ∧ RowsOf W cl zs cols sz w')) := by
  obtain ⟨A, c, rfl, _⟩ := own_slice h
  by_cases h3 : bs.length < 3
  · exact Or.inl fun W _ => ⟨tspec_short h3, sspec_short h3⟩
  · obtain ⟨t0, t1, t2, os, hw, hv⟩ := win_of h hok (by omega)
    have ht : ∀ W, Below w.heap.size w W → Calls Tryz.prog 6 #[.slice A bs.length c] W fun e w' => TSpecOut W t0 t1 t2 os e w' := fun W hb => tspec_any (hw.below hb) (hm.below' hb)
    have hs : ∀ W, Below w.heap.size w W → Calls Tryz.prog 7 #[.slice A bs.length c] W fun e w' => SSpecOut W t0 t1 t2 os ⟨zL⟩ e w' := fun W hb => sspec_main (hw.below hb)
    unfold TSpecOut at ht
    unfold SSpecOut at hs
    cases hg : goodP t0 t1 t2 os with
    | none =>
      rw [hg] at ht hs
      exact Or.inl fun W hb => ⟨(ht W hb).mono fun e w' h => ⟨h.2, h.1⟩, (hs W hb).mono fun e w' h => ⟨h.2, h.1⟩⟩
    | some acc =>
      rw [hg] at ht hs
      have hg' := hg
      unfold goodP at hg'
      split at hg'
      · rename_i hc
        have hc1 := Bool.and_eq_true_iff.1 hc
        have hc2 := Bool.and_eq_true_iff.1 hc1.1
        refine Or.inr ⟨(pickP t0 kindsCh).getD 0, t1, cuts [] t2, sizesP acc, nL acc, fD acc, goal_in hc2.1, cols_in t2 hw.m2 hc1.2, runW_sizes os [] acc hv (by decide) hg', fD_qs acc, fun W hb => ⟨(ht W hb).mono ?_, (hs W hb).mono ?_⟩⟩
        · rintro e w' ⟨hb', cols, sz, he, r1, r2⟩
          exact ⟨cols, sz, he, r1, r2, hb'⟩
        · rintro e w' ⟨hb', cols, sz, he, r1, r2⟩
          exact ⟨cols, sz, he, r1, r2, hb'⟩
      · cases hg'
end Go.Proofs.YtelehhfnomdneaaGreatDoor.Sp
namespace Go.Proofs.YtelehhfnomdneaaGreatDoor.Sp
open Go Go.RowKit Ut Tc

theorem laid_new (w : World) {z S : Array Value} (hz : z.size = 70) (hS : S.size = 70) (h1 : S.all (·.oneCell') = true) :
    (storeCells ⟨w.heap.size, 0, none⟩ S.toList 0).run Tryz.prog (w.alloc (.cells z 42)) = .ok () ((w.alloc (.cells z 42)).setRow w.heap.size S) ∧ Blk ((w.alloc (.cells z 42)).setRow w.heap.size S) w.heap.size 42 S ∧ Below w.heap.size w ((w.alloc (.cells z 42)).setRow w.heap.size S) ∧ ((w.alloc (.cells z 42)).setRow w.heap.size S).heap.size = w.heap.size + 1 := by
  have hb := Blk.new w 42 z
  obtain ⟨h2, h3, h4⟩ := setRow_alt (cs := S) hb
  exact ⟨run_storeCells_blk hb (hS.symm ▸ infoSpec) (hz.trans hS.symm) h1, h2, setRow_below ((Below.refl _ _).alloc (Nat.le_refl _) _) hb (Nat.le_refl _), h4.trans (World.size_alloc _ _)⟩
theorem spec_arr (kd : Nat) (t1 : Wd) (A1 : Option Addr) (n1 c1 : Nat) (A2 : Option Addr) (n2 c2 : Nat) (N : Wd → Nat) (Q : Wd → Bool × Nat × Nat) : ∃ S : Array Value, (⟨specL kd (sv t1) (.slice A1 n1 c1) (.slice A2 n2 c2) N Q⟩ : Array Value) = S ∧ S.size = 70 ∧ S.all (·.oneCell') = true :=
  ⟨_, rfl, rfl, by rw [← Array.all_toList]; exact List.all_eq_true.2 oneSp⟩
theorem wpList_load_rowG {ops : Array Oper} {o : Oper} {a : Act} {Q : Exit → Act → World → Prop} {rest : List Oper} (w : World) (hgd : Region.wanted o (yielded ops a.tmps) = true) (t : TypeId) (p : Operand) (ho : o.op = .load t p) (g : Nat) (cs : Array Value) (t' : TypeId) (fr : Nat × Nat) (d : TypeDesc) (hp : a.eval p = .pointer (some ⟨g, 0, none⟩))
    (hg : w.heap[g]? = some (.cells cs t' fr)) (hu : Tryz.prog.underlying t = some d) (hd : (match d with | .struct _ | .array _ _ => true | _ => false) = true) (hi : (Tryz.prog.info? t).map (·.size) = some cs.size)
    (hK : wpList Tryz.prog ops Q rest (a.put o.dst (.agg cs)) w) : wpList Tryz.prog ops Q (o :: rest) a w := by
  refine wpList_step fun K' hK' => ?_
  rw [if_pos hgd]
  exact wp_load_row w t p ho g cs t' fr d hp hg hu hd hi (hK' _ _ hK)
set_option maxHeartbeats 60000000 in
set_option maxRecDepth 100000 in
theorem law_any (A : Option Addr) (c : Nat) (xs : List Int) (k : Int) (w : World) (hx : IntsIn w w.heap.size A xs) (hl : xs.length ≤ 9223372036854775807) (hm : MaxAt w)
    (hkn : ∀ W : World, Calls Tryz.prog 8 #[] W fun e w' => e = .returned (.bool true) ∧ Below W.heap.size W w') :
    Calls Tryz.prog 3 #[.slice A xs.length c, .int .i64 k] w fun e w' => e = .returned (.bool true) ∧ Below w.heap.size w w' := by
  have HX := Lib.hid hx
  have HM := Lib.hid hm
  have HK := Lib.hid hkn
  obtain ⟨hz, hzs, hz1⟩ := zL_facts
  have HZA : Hid (∀ W, Calls Tryz.prog 9 #[.agg ⟨zL⟩, .agg ⟨zL⟩] W fun e w' => e = .returned (.bool true) ∧ Below W.heap.size W w') := Lib.hid zalike
  have HSP : Hid (∀ {W : World} {B : Nat} {v : Value} {bs : List ByteArray}, W.ownsRow B 9 1 v bs.length (bs.map Value.string) → WordsOk bs → MaxAt W → _) := Lib.hid (fun h hok hm => specs_any h hok hm)
  clear hx hm hkn
  go_enter Tryz.func3, Tryz.ntmps3
  go_upto_region 1 with fail
  go_cut [5] from 10 to 15 (fun v5 wx => ∃ bs : List ByteArray, Hid (wx.ownsRow (w.heap.size + 4) 9 1 v5 bs.length (bs.map Value.string) ∧ WordsOk bs ∧ Below w.heap.size w wx))
  case first =>
    go_wp2_with (first
      | (go_at_call 5; refine (pick_some k 9 _ (by decide) (by decide)).mono ?_; rintro e w1 ⟨r, hr, rfl, rfl⟩; have hr9 : r + 1 ≤ 9 := by omega)
      | (go_at_call 4; refine (words_any A c xs (r + 1) _ HX.out hl hr9).mono ?_; rintro e w2 ⟨v, bs, rfl, hown, hok, hb⟩))
    go_meet
    exact ⟨bs, hown, hok, hb⟩
  case rest =>
    obtain ⟨bs, hcut⟩ := hcut
    obtain ⟨k1, k2, k3⟩ := hcut.out
    have hsp := HSP.out k1 k2 (HM.out.below' k3)
    clear HSP
    have KB := Lib.hid k3
    clear hcut k1 k2 k3
    have HZ := Lib.hid (⟨hzs, hz1⟩ : (⟨zL⟩ : Array Value).size = 70 ∧ (⟨zL⟩ : Array Value).all (·.oneCell') = true)
    clear hzs hz1
    generalize (⟨zL⟩ : Array Value) = z at *
    rcases hsp with hbad | ⟨kd, t1, cl, zs, N, Q, m1, m2, m3, m4, hgood⟩
    · have HB := Lib.hid hbad
      clear hbad
      have hz70 := HZ.out.1
      go_wp2_with (first
        | (go_at_call 6; refine (HB.out _ (Below.refl _ _)).1.mono ?_; rintro e w3 ⟨rfl, hb3⟩; obtain ⟨hst3, hk3, hB3, hs3⟩ := laid_new w3 HZ.out.1 HZ.out.1 HZ.out.2; have HK3 := Lib.hid hk3; have HB3 := Lib.hid hB3; have HB3' := Lib.hid hb3; clear hk3 hB3 hb3)
        | (go_at_call 7; refine (HB.out _ (HB3'.out.trans (HB3.out.mono HB3'.out.size))).2.mono ?_; rintro e w5 ⟨rfl, hb5⟩; obtain ⟨hst5, hk5, hB5, hs5⟩ := laid_new w5 HZ.out.1 HZ.out.1 HZ.out.2; have HK5 := Lib.hid (HK3.out.keep hb5); have HB5 := Lib.hid hB5; have HB5' := Lib.hid hb5; clear hk5 hB5 hb5)
        | (go_at_call 8; refine (HK.out _).mono ?_; rintro e w7 ⟨rfl, hb7⟩; have HB7 := Lib.hid hb7; have HK7 := Lib.hid ((HK5.out.keep HB5.out).keep hb7); clear hb7)
        | (refine wpList_load_rowG _ (by rfl) 42 (.tmp 6) rfl w3.heap.size z 42 (0, 0) _ rfl HK7.out Tryz.underlying42 rfl (HZ.out.1.symm ▸ infoSpec) ?_)
        | (go_at_call 9; refine (HZA.out _).mono ?_; rintro e w8 ⟨rfl, hb8⟩; have HB8 := Lib.hid hb8; clear hb8))
      go_ret
      refine ⟨rfl, KB.out.trans (Below.mono (Below.trans HB3'.out (Below.mono (HB3.out.trans (Below.mono (HB5'.out.trans (Below.mono (HB5.out.trans (Below.mono (HB7.out.trans (HB8.out.mono HB7.out.size)) HB5.out.size)) HB5'.out.size)) HB3.out.size)) HB3'.out.size)) KB.out.size)⟩
    · have HG := Lib.hid hgood
      have HM4 := Lib.hid m4
      clear hgood m4
      go_wp2_with (first
        | (go_at_call 6; refine (HG.out _ (Below.refl _ _)).1.mono ?_; rintro e w3 ⟨cols1, sz1, rfl, r1, r2, hb3⟩; have R1 := Lib.hid r1; have R2 := Lib.hid r2; obtain ⟨A1, d1, e1, _⟩ := own_slice r1; obtain ⟨A2, d2, e2, _⟩ := own_slice r2; obtain ⟨S1, hS1, z1, q1⟩ := spec_arr kd t1 A1 cl.length d1 A2 zs.length d2 N Q; have HS1 : Hid ((⟨specL kd (sv t1) cols1 sz1 N Q⟩ : Array Value) = S1) := Lib.hid (by rw [e1, e2]; exact hS1); clear r1 r2 e1 e2 hS1; rw [HS1.out]; obtain ⟨hst3, hk3, hB3, hs3⟩ := laid_new w3 HZ.out.1 z1 q1; have HK3 := Lib.hid hk3; have HB3 := Lib.hid hB3; have HB3' := Lib.hid hb3; clear hk3 hB3 hb3)
        | (go_at_call 7; refine (HG.out _ (HB3'.out.trans (HB3.out.mono HB3'.out.size))).2.mono ?_; rintro e w5 ⟨cols2, sz2, rfl, r3, r4, hb5⟩; have R3 := Lib.hid r3; have R4 := Lib.hid r4; obtain ⟨A3, d3, e3, _⟩ := own_slice r3; obtain ⟨A4, d4, e4, _⟩ := own_slice r4; obtain ⟨S2, hS2, z2, q2⟩ := spec_arr kd t1 A3 cl.length d3 A4 zs.length d4 N Q; have HS2 : Hid ((⟨specL kd (sv t1) cols2 sz2 N Q⟩ : Array Value) = S2) := Lib.hid (by rw [e3, e4]; exact hS2); clear r3 r4 e3 e4 hS2; rw [HS2.out]; obtain ⟨hst5, hk5, hB5, hs5⟩ := laid_new w5 HZ.out.1 z2 q2; have HK5 := Lib.hid (HK3.out.keep hb5); have HK5' := Lib.hid hk5; have HB5 := Lib.hid hB5; have HB5' := Lib.hid hb5; clear hk5 hB5 hb5)
        | (go_at_call 8; refine (HK.out _).mono ?_; rintro e w7 ⟨rfl, hb7⟩; have HB7 := Lib.hid hb7; have HK7 := Lib.hid ((HK5.out.keep HB5.out).keep hb7); have HK7' := Lib.hid (HK5'.out.keep hb7); clear hb7)
        | (refine wpList_load_rowG _ (by rfl) 42 (.tmp 6) rfl w3.heap.size S1 42 (0, 0) _ rfl HK7.out Tryz.underlying42 rfl (z1.symm ▸ infoSpec) ?_)
        | (refine wpList_load_rowG _ (by rfl) 42 (.tmp 8) rfl w5.heap.size S2 42 (0, 0) _ rfl HK7'.out Tryz.underlying42 rfl (z2.symm ▸ infoSpec) ?_)
        | (go_at_call 9; (rw [← HS1.out, ← HS2.out]; refine (alike_any m1 m2 m3 HM4.out (own_belowS (own_belowS (own_belowS (own_belowS R1.out HB3.out) HB5'.out) HB5.out) HB7.out) (own_belowS (own_belowS R3.out HB5.out) HB7.out) (own_belowS (own_belowS (own_belowS (own_belowS R2.out HB3.out) HB5'.out) HB5.out) HB7.out) (own_belowS (own_belowS R4.out HB5.out) HB7.out) (fun g e => Nat.lt_of_lt_of_le (Ut.own_base R1.out e).2 HB3.out.size) (fun g e => Nat.lt_of_lt_of_le (Ut.own_base R2.out e).2 HB3.out.size)).mono ?_; rintro e w8 ⟨rfl, hb8⟩; have HB8 := Lib.hid hb8; clear hb8)))
      go_ret
      refine ⟨rfl, KB.out.trans (Below.mono (Below.trans HB3'.out (Below.mono (HB3.out.trans (Below.mono (HB5'.out.trans (Below.mono (HB5.out.trans (Below.mono (HB7.out.trans (HB8.out.mono HB7.out.size)) HB5.out.size)) HB5'.out.size)) HB3.out.size)) HB3'.out.size)) KB.out.size)⟩
end Go.Proofs.YtelehhfnomdneaaGreatDoor.Sp
namespace Go.Proofs.YtelehhfnomdneaaGreatDoor.Sp
open Go Go.RowKit Ut Go.Joins Go.ChangeShapes Go.WideShapes Go.ChangeAt Go.ChangeMaps

section
variable {H : Type} {enc : TypeId × Value → H} {w : World}
def IsInts (w : World) (v : Value) : Prop := ∃ (A : Option Addr) (c : Nat) (xs : List Int), v = .slice A xs.length c ∧ xs.length ≤ 9223372036854775807 ∧ IntsIn w w.heap.size A xs
theorem ints_of {fuel : Nat} {v : Value} {x : DataW H × List MemPlace} (h : DataW.trod enc Tryz.prog w 0 (fun _ => true) true fuel 22 [v] = some x) : IsInts w v := by
  rcases open_ints Tryz.underlying22 Tryz.underlying3 (by kernel_rfl) h with ⟨hcs, _⟩ | ⟨a, l, c, zs, hcs, _, hl, hm, hz, _, hcell, _⟩
  · simp at hcs
    subst hcs
    exact ⟨none, 0, [], rfl, by simp, rfl, fun hn => by simp at hn⟩
  · simp at hcs
    subst hcs
    have hz' : zs.length = c := by simpa using hz
    have e : (zs.take l).length = l := by rw [List.length_take]; omega
    refine ⟨some a, c, zs.take l, by rw [e], by rw [e]; unfold maxLen at hm; omega, by simp, fun hn => ⟨a, rfl, ?_, fun j u hu => ?_⟩⟩
    · have := hcell 0 (by omega)
      have := World.block_lt_of_cell? w _ this
      simpa [Addr.add] using this
    · have hj : j < l := by
        have := (List.getElem?_eq_some_iff.1 hu).1
        simp at this; omega
      rw [hcell j (by omega)]
      rw [List.getElem?_map, List.getElem?_take, if_pos hj, List.getElem?_eq_getElem (by omega)] at hu
      injection hu with hu
      rw [← hu]; simp [show j < zs.length by omega]
theorem ints_open {v : Value} {d : DataW H} {p : List MemPlace} {A : Option Addr} {n c : Nat} (he : v = .slice A n c) (h : DataW.Trod enc Tryz.prog w 0 (fun _ => true) true 22 v d p) : IsInts w v := by
  subst he
  obtain ⟨fuel, hf⟩ := h
  exact ints_of (by simpa [Value.cells] using hf)
end
end Go.Proofs.YtelehhfnomdneaaGreatDoor.Sp
