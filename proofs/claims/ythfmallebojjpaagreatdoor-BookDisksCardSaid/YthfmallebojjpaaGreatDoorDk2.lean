/-
  Bytes appended; Few, Clone, Bytes.
-/
import Derived.Test.YthfmallebojjpaaGreatDoorDk1
import Derived.Deep.AppendSrc
namespace Go.Proofs.YthfmallebojjpaaGreatDoor.Dk
open Go Go.RowKit

theorem infoByte : (Tryz.prog.info? 5).map (fun i => (i.zero, i.size, i.bytes)) = some (some (.int .u8 0), 1, 1) := by kernel_rfl

/- A slice that reads as bytes. -/
def Rb (w : World) (A : Option Addr) (ys : List Int) : Prop := 0 < ys.length → ∃ ad, A = some ad ∧ ad.block < w.heap.size ∧ ∀ j u, (ys.map (Value.int .u8))[j]? = some u → w.cell? (ad.add j) = some u
theorem Rb.keep {w w' : World} {A : Option Addr} {ys : List Int} {p : Nat → Prop} (h : Rb w A ys) (hk : Alt w w' p) (hp : ∀ ad, A = some ad → ¬ p ad.block) : Rb w' A ys := fun hn => by
  obtain ⟨ad, e, hb, hc⟩ := h hn
  exact ⟨ad, e, Nat.lt_of_lt_of_le hb hk.size, fun j u hu => (World.cell?_of_block (by rw [block_of_add]; exact hk.block _ hb (hp ad e))).trans (hc j u hu)⟩
theorem Rb.take_ {w : World} {A : Option Addr} {ys : List Int} (h : Rb w A ys) (k : Nat) : Rb w A (ys.take k) := fun hn => by
  obtain ⟨ad, e, hb, hc⟩ := h (by simp at hn; omega)
  refine ⟨ad, e, hb, fun j u hu => hc j u ?_⟩
  rw [List.map_take] at hu
  rw [List.getElem?_take] at hu
  split at hu
  · exact hu
  · cases hu
theorem Rb.of_own {w : World} {b0 : Nat} {A : Option Addr} {n c : Nat} {xs : List Int} (h : Own w b0 (.slice A n c) xs) : Rb w A xs := fun hn => by
  obtain ⟨g, cap, hv, _, hlt⟩ := World.ownsRow.form h hn
  injection hv with hA
  subst hA
  exact ⟨_, rfl, hlt, World.ownsRow.cells h (g := g) rfl⟩
theorem Rb.nil (w : World) (A : Option Addr) : Rb w A [] := fun h => by simp at h

theorem bytes_one (ys : List Int) : ∀ u ∈ ys.map (Value.int .u8), u.oneCell' = true := by
  intro u hu
  obtain ⟨x, _, rfl⟩ := List.mem_map.1 hu
  rfl

theorem app_run (w : World) {b0 : Nat} {v : Value} {xs : List Int} (hown : Own w b0 v xs) {A : Option Addr} {c : Nat} {ys : List Int} (hy : Rb w A ys) (ty : TypeId) (hb : xs.length + ys.length ≤ 100000000) (hbase : b0 ≤ w.heap.size) :
    ∃ A' c' w', (Builtin.append_ #[23, 23] ty #[v, .slice A ys.length c]).run Tryz.prog w = .ok (.slice A' (xs.length + ys.length) c') w' ∧
      Own w' b0 (.slice A' (xs.length + ys.length) c') (xs ++ ys) ∧ w.grownBy w' v.ownBlock ∧ ((Value.slice A' (xs.length + ys.length) c').ownBlock = v.ownBlock ∨ (Value.slice A' (xs.length + ys.length) c').ownBlock = some w.heap.size) := by
  obtain ⟨i0, hi0, hz0, hz1, hz2⟩ := info_parts infoByte
  have fin : ∀ v' w', (Builtin.append_ #[23, 23] ty #[v, .slice A ys.length c]).run Tryz.prog w = .ok v' w' → Own w' b0 v' (xs ++ ys) → w.grownBy w' v.ownBlock → (v'.ownBlock = v.ownBlock ∨ v'.ownBlock = some w.heap.size) →
      ∃ A' c' w', (Builtin.append_ #[23, 23] ty #[v, .slice A ys.length c]).run Tryz.prog w = .ok (.slice A' (xs.length + ys.length) c') w' ∧
      Own w' b0 (.slice A' (xs.length + ys.length) c') (xs ++ ys) ∧ w.grownBy w' v.ownBlock ∧ ((Value.slice A' (xs.length + ys.length) c').ownBlock = v.ownBlock ∨ (Value.slice A' (xs.length + ys.length) c').ownBlock = some w.heap.size) := by
    intro v' w' h1 h2 h3 h4
    obtain ⟨A', c', rfl, _⟩ := h2.slice
    rw [List.length_append] at h1 h2 h4
    exact ⟨A', c', w', h1, h2, h3, h4⟩
  rcases A with _ | ad
  · have h0 : ys = [] := by
      rcases ys with _ | ⟨y, ys⟩
      · rfl
      · obtain ⟨_, h, _⟩ := hy (by simp)
        cases h
    subst h0
    refine fin v w ?_ (by simpa using hown) ⟨rfl, rfl, rfl, Nat.le_refl _, fun _ _ _ => rfl⟩ (.inl rfl)
    rcases hown.2 with ⟨rfl, hn⟩ | ⟨g, cap, cur, rfl, _, hg, hcap, _, hsz, _⟩
    · simp [Builtin.append_, run_underlying Tryz.underlying23, sizeOf, typeInfo, hi0, Builtin.lenOf, Builtin.firstCells]
    · have := run_append_room_src (P := Tryz.prog) w 23 23 ty 5 i0 Tryz.underlying23 hi0 g 0 xs.length cap (.slice none 0 c) 0 [] (Src.ofNil w Tryz.underlying23 c) hcap (fun j hj => by simp at hj) (fun j hj => by simp at hj)
      simpa [World.setCells] using this
  · by_cases h0 : ys.length = 0
    · have h0 : ys = [] := List.eq_nil_of_length_eq_zero h0
      subst h0
      obtain ⟨v', w', h1, h2, h3, _, h5⟩ := run_append_own_at (P := Tryz.prog) w b0 23 ty 5 i0 _ 1 1 Tryz.underlying23 hi0 hz0 hz1 hz2 rfl (by decide) v xs.length (xs.map (Value.int .u8)) hown ad 0 c [] rfl (fun j u h => by simp at h) (fun u h => by simp at h) (by unfold maxLen; simp at hb; omega) (by simp at hb; omega) hbase
      refine fin v' w' h1 ?_ h3 h5
      simpa [Own] using h2
    · obtain ⟨ad', e, _, hc⟩ := hy (by omega)
      cases e
      obtain ⟨v', w', h1, h2, h3, _, h5⟩ := run_append_own_at (P := Tryz.prog) w b0 23 ty 5 i0 _ 1 1 Tryz.underlying23 hi0 hz0 hz1 hz2 rfl (by decide) v xs.length (xs.map (Value.int .u8)) hown ad ys.length c (ys.map (Value.int .u8)) (by simp) hc (bytes_one ys) (by unfold maxLen; omega) (by omega) hbase
      refine fin v' w' h1 ?_ h3 h5
      unfold Own
      rw [List.length_append, List.map_append]; exact h2

theorem wp_app {o : Oper} {a : Act} {K : Act → World → Prop} {Q : Exit → Act → World → Prop} (w : World) (s x : Operand)
    (ho : o.op = .call { callee := .builtin .append, args := #[s, x], argTypes := #[23, 23] })
    {b0 : Nat} {v : Value} {xs : List Int} (hs : a.eval s = v) (hown : Own w b0 v xs) {A : Option Addr} {c : Nat} {ys : List Int} (hx : a.eval x = .slice A ys.length c) (hy : Rb w A ys) (hb : xs.length + ys.length ≤ 100000000) (hbase : b0 ≤ w.heap.size)
    (h : ∀ A' c' w', Own w' b0 (.slice A' (xs.length + ys.length) c') (xs ++ ys) → w.grownBy w' v.ownBlock → ((Value.slice A' (xs.length + ys.length) c').ownBlock = v.ownBlock ∨ (Value.slice A' (xs.length + ys.length) c').ownBlock = some w.heap.size) → K (a.put o.dst (.slice A' (xs.length + ys.length) c')) w') : o.wp Tryz.prog a w K Q := by
  obtain ⟨A', c', w', hr, h2, h3, h4⟩ := app_run w hown hy (c := c) o.type hb hbase
  unfold Oper.wp execOp
  simp only [ho, resolve, invoke, builtin, Sem.run_bind, Sem.run_pure, Result.andThen_ok, List.map_toArray, List.map_cons, List.map_nil, hs, hx, hr]
  exact h A' c' w' h2 h3 h4
theorem wpList_app {ops : Array Oper} {rest : List Oper} {o : Oper} {a : Act} {Q : Exit → Act → World → Prop} (w : World) (hgd : o.guard = none) (s x : Operand)
    (ho : o.op = .call { callee := .builtin .append, args := #[s, x], argTypes := #[23, 23] })
    {b0 : Nat} {v : Value} {xs : List Int} (hs : a.eval s = v) (hown : Own w b0 v xs) {A : Option Addr} {c : Nat} {ys : List Int} (hx : a.eval x = .slice A ys.length c) (hy : Rb w A ys) (hb : xs.length + ys.length ≤ 100000000) (hbase : b0 ≤ w.heap.size)
    (h : ∀ A' c' w', Own w' b0 (.slice A' (xs.length + ys.length) c') (xs ++ ys) → w.grownBy w' v.ownBlock → ((Value.slice A' (xs.length + ys.length) c').ownBlock = v.ownBlock ∨ (Value.slice A' (xs.length + ys.length) c').ownBlock = some w.heap.size) → wpList Tryz.prog ops Q rest (a.put o.dst (.slice A' (xs.length + ys.length) c')) w') : wpList Tryz.prog ops Q (o :: rest) a w :=
  wpList_plain hgd fun _ hK => wp_app w s x ho hs hown hx hy hb hbase fun A' c' w' h2 h3 h4 => hK _ _ (h A' c' w' h2 h3 h4)
theorem step_app {ops : Array Oper} {o : Oper} {a : Act} {K : Act → World → Prop} {Q : Exit → Act → World → Prop} {E : Prop} (w : World) (hgd : o.guard = none) (s x : Operand)
    (ho : o.op = .call { callee := .builtin .append, args := #[s, x], argTypes := #[23, 23] })
    {b0 : Nat} {v : Value} {xs : List Int} (hs : a.eval s = v) (hown : Own w b0 v xs) {A : Option Addr} {c : Nat} {ys : List Int} (hx : a.eval x = .slice A ys.length c) (hy : Rb w A ys) (hb : xs.length + ys.length ≤ 100000000) (hbase : b0 ≤ w.heap.size)
    (h : ∀ A' c' w', Own w' b0 (.slice A' (xs.length + ys.length) c') (xs ++ ys) → w.grownBy w' v.ownBlock → ((Value.slice A' (xs.length + ys.length) c').ownBlock = v.ownBlock ∨ (Value.slice A' (xs.length + ys.length) c').ownBlock = some w.heap.size) → K (a.put o.dst (.slice A' (xs.length + ys.length) c')) w') :
    if Region.wanted o (yielded ops a.tmps) = true then Oper.wp Tryz.prog o a w K Q else E := by
  have hw : Region.wanted o (yielded ops a.tmps) = true := by simp [Region.wanted, hgd]
  rw [if_pos hw]
  exact wp_app w s x ho hs hown hx hy hb hbase h

/- New bytes: those of an empty literal. -/
theorem own_empty (w : World) : Own (w.alloc (.cells #[] 5)) w.heap.size (.slice (some ⟨w.heap.size, 0, none⟩) 0 0) [] :=
  World.ownsRow_made w #[] 0 (Nat.le_refl _) (by unfold maxLen; omega) rfl

set_option maxHeartbeats 400000 in
set_option maxRecDepth 100000 in
theorem clone_any (A : Option Addr) (c : Nat) (ys : List Int) (w : World) (hy : Rb w A ys) (hl : ys.length ≤ 10000000) (hA : A = none → ys.length = 0 ∧ c = 0) :
    Calls Tryz.prog 22 #[.slice A ys.length c] w fun e w' => ∃ A' c', e = .returned (.slice A' ys.length c') ∧ Own w' w.heap.size (.slice A' ys.length c') ys ∧ Alt w w' (fun _ => False) := by
  have HY := Lib.hid hy
  clear hy
  have q : ∀ W a n c n' c', (binOp .eql 23 (.slice a n c) (.slice none n' c')).run Tryz.prog W = .ok (.bool a.isNone) W := fun W a n c n' c' => Lib.run_eql_slice_nil W _ _ a n c n' c' Tryz.underlying23
  rcases A with _ | ad
  · obtain ⟨h0, rfl⟩ := hA rfl
    obtain rfl : ys = [] := List.eq_nil_of_length_eq_zero h0
    clear hA h0
    go_enter Tryz.func22, Tryz.ntmps22
    go_wp2
    go_ret
    exact ⟨none, 0, rfl, World.ownsRow_nil _ _ _ _, Alt.refl _ _⟩
  · clear hA
    go_enter Tryz.func22, Tryz.ntmps22
    go_wp2_with (at_builtin; refine wpList_app _ rfl _ _ rfl rfl (own_empty w) (ys := ys) rfl (HY.out.keep (Alt.alloc (Alt.refl w (fun _ => False)) _) (fun _ _ h => h)) (by simp; omega) (by simp) ?_; intro A' c' w1 hown hgrow _)
    go_ret
    simp only [List.nil_append, List.length_nil, Nat.zero_add] at hown
    refine ⟨A', c', by simp, hown, ?_⟩
    refine (Alt.alloc (Alt.refl w (fun _ => False)) _).grown hgrow (fun g hg hlt => ?_)
    have e : w.heap.size = g := by injection (show some w.heap.size = some g from hg)
    omega

theorem Own.none_ {w : World} {b0 n c : Nat} {xs : List Int} (h : Own w b0 (.slice none n c) xs) : xs.length = 0 ∧ c = 0 := by
  rcases h.2 with ⟨e, h0⟩ | ⟨g, cap, cur, e, _⟩
  · injection e with _ _ e3
    exact ⟨h0, e3⟩
  · injection e with e; cases e

set_option maxHeartbeats 400000 in
set_option maxRecDepth 100000 in
theorem bytes_any (g : Nat) (A : Option Addr) (c b0 : Nat) (S : St) (f : Int) (w : World) (h : Blk w g 44 (pc (.slice A S.xs.length c) S f)) (ho : Own w b0 (.slice A S.xs.length c) S.xs) (hl : S.xs.length ≤ 10000000) :
    Calls Tryz.prog 17 #[.pointer (some ⟨g, 0, none⟩)] w fun e w' => ∃ A' c', e = .returned (.slice A' S.xs.length c') ∧ Own w' w.heap.size (.slice A' S.xs.length c') S.xs ∧ Alt w w' (fun _ => False) := by
  obtain ⟨⟨c0, c1, c2, c3, c4, c5⟩, fz⟩ := cells6 h
  have HO := Lib.hid ho
  clear h ho
  go_enter Tryz.func17, Tryz.ntmps17
  go_wp2_with (go_at_call 22; refine (clone_any A c S.xs w (Rb.of_own HO.out) hl (fun e => by subst e; exact HO.out.none_)).mono ?_; rintro e w1 ⟨A', c', rfl, h1, h2⟩)
  go_ret
  exact ⟨A', c', rfl, h1, h2⟩

theorem own_more {w : World} {b0 b1 : Nat} {v : Value} {xs : List Int} (h : Own w b1 v xs) (hb : b0 ≤ b1) : Own w b0 v xs := by
  refine ⟨h.1, ?_⟩
  rcases h.2 with h0 | ⟨g', cap, cur, h1, h2, h3⟩
  · exact .inl h0
  · exact .inr ⟨g', cap, cur, h1, by omega, h3⟩

set_option maxHeartbeats 400000 in
set_option maxRecDepth 100000 in
theorem few_any (A : Option Addr) (c : Nat) (ys : List Int) (n : Nat) (w : World) (hy : Rb w A ys) (hl : ys.length ≤ 9223372036854775807) (hc : ys.length ≤ c) (hn : n ≤ 1000) (hA : A = none → ys.length = 0 ∧ c = 0) :
    Calls Tryz.prog 7 #[.slice A ys.length c, .int .i64 n] w fun e w' => ∃ A' c', e = .returned (.slice A' (ys.take n).length c') ∧ Own w' w.heap.size (.slice A' (ys.take n).length c') (ys.take n) ∧ Alt w w' (fun _ => False) := by
  obtain ⟨k, hk⟩ : ∃ k, k = (ys.take n).length := ⟨_, rfl⟩
  have HK := Lib.hid (show k = min n ys.length by rw [hk]; simp)
  have HE := Lib.hid hk
  have HY := Lib.hid (Rb.take_ hy n)
  clear hy hk
  have hkn : k ≤ ys.length := by have := HK.out; omega
  have hk2 : k ≤ n := by have := HK.out; omega
  rw [← HE.out]
  have hcat := fun (ad : Addr) (hl2 : Hid True) => hl2
  rcases A with _ | ad
  · obtain ⟨h0, rfl⟩ := hA rfl
    obtain rfl : ys = [] := List.eq_nil_of_length_eq_zero h0
    have : k = 0 := by simpa using hkn
    subst this
    clear hA h0 hcat
    go_enter Tryz.func7, Tryz.ntmps7
    go_wp2_with (at_builtin; refine wpList_app _ rfl _ _ rfl rfl (own_empty w) (ys := []) rfl (Rb.nil _ _) (by simp) (by simp) ?_; intro A' c' w1 hown hgrow _)
    go_ret
    refine ⟨A', c', by simp, by simpa using hown, ?_⟩
    refine (Alt.alloc (Alt.refl w (fun _ => False)) _).grown hgrow (fun g hg hlt => ?_)
    have e : w.heap.size = g := by injection (show some w.heap.size = some g from hg)
    omega
  · clear hA hcat
    rcases (show (ys.length ≤ n ∧ k = ys.length) ∨ (n < ys.length ∧ n = k) by have := HK.out; omega) with ⟨h1, h2⟩ | ⟨h1, h2⟩
    all_goals
      subst h2
      go_enter Tryz.func7, Tryz.ntmps7
      go_wp2_with (at_builtin; (refine wpList_app _ rfl _ _ rfl rfl (own_empty w) (ys := ys.take n) (by rw [← HE.out]; rfl) (HY.out.keep (Alt.alloc (Alt.refl w (fun _ => False)) _) (fun _ _ h => h)) (by simp; omega) (by simp) ?_); intro A' c' w1 hown hgrow _)
      go_ret
      simp only [List.nil_append, List.length_nil, Nat.zero_add, ← HE.out] at hown
      refine ⟨A', c', by first | (simp; done) | simp [← HE.out], hown, ?_⟩
      refine (Alt.alloc (Alt.refl w (fun _ => False)) _).grown hgrow (fun g hg hlt => ?_)
      have e : w.heap.size = g := by injection (show some w.heap.size = some g from hg)
      omega
end Go.Proofs.YthfmallebojjpaaGreatDoor.Dk
