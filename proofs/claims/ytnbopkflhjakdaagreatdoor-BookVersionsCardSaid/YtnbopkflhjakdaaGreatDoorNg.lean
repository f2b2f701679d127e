/-
  What a book keeps after so many notes; a book with its journal.
  And: One more note: what is kept stays within bounds; the journal goes on. A book with its journal: Drop, Point. A book with its journal: Put, Next; the disk falls and is opened again. Pick, few; what comes in. BookVersions: the walk. What comes in: acts.
-/
import Derived.Test.YtnbopkflhjakdaaGreatDoorNf
import Derived.Deep.DeepCutAuto
import Derived.Deep.CutRange
import Derived.Deep.CutBlock
import Derived.Deep.Slices
import Derived.Deep.Fields
import Derived.ChangeSlices
namespace Go.Proofs.YtnbopkflhjakdaaGreatDoor.Oc
open Go Go.RowKit Dk

/- What may be kept after k notes. -/
structure Wk (k : Nat) (C : Con) : Prop where
  len : C.length ≤ k
  nd : (C.map Sh.name).Nodup
  sh : ∀ s ∈ C, s.vs.length ≤ k ∧ 1 ≤ s.next ∧ s.next ≤ k + 1 ∧ s.live ≤ k ∧ (∀ p ∈ s.vs, p.1 < s.next) ∧ (s.vs.length = 0 → s.live = 0) ∧ (0 < s.vs.length → hasV s s.live = true ∧ s.vs.length ≤ 40)
  num : (C.filter (fun s => decide (0 < s.vs.length))).length ≤ 20
theorem Wk.wf {k : Nat} {C : Con} (h : Wk k C) (hk : k ≤ 900) : WF C :=
  ⟨by have := h.len; omega, fun s hs => by obtain ⟨h1, h2, h3, h4, h5, h6, h7⟩ := h.sh s hs; exact ⟨by omega, by omega, by omega, h5, h6, h7⟩, h.num⟩
theorem Wk.nil : Wk 0 [] := ⟨Nat.le_refl _, List.nodup_nil, (fun _ h => by cases h), by simp⟩
theorem Wk.mono {k k' : Nat} {C : Con} (h : Wk k C) (hk : k ≤ k') : Wk k' C :=
  ⟨Nat.le_trans h.len hk, h.nd, fun s hs => by obtain ⟨h1, h2, h3, h4, h5, h6, h7⟩ := h.sh s hs; exact ⟨by omega, h2, by omega, by omega, h5, h6, h7⟩, h.num⟩
theorem fndC_mem {C : Con} {name : ByteArray} {s : Sh} (h : fndC C name = some s) : s ∈ C ∧ s.name = name := ⟨List.mem_of_find?_eq_some h, by simpa using List.find?_some h⟩
theorem fndC_none {C : Con} {name : ByteArray} (h : fndC C name = none) : ∀ s ∈ C, s.name ≠ name := fun s hs => by simpa using List.find?_eq_none.1 h s hs
theorem updC_names (C : Con) (name : ByteArray) (s' : Sh) (h : s'.name = name) : (updC C name s').map Sh.name = C.map Sh.name := by
  unfold updC
  rw [List.map_map]
  refine List.map_congr_left fun s _ => ?_
  show (if s.name = name then s' else s).name = s.name
  split
  · next e => rw [h, e]
  · rfl
theorem updC_mem {C : Con} {name : ByteArray} {s' x : Sh} (h : x ∈ updC C name s') : x = s' ∨ (x ∈ C ∧ x.name ≠ name) := by
  obtain ⟨s, hs, e⟩ := List.mem_map.1 h
  split at e
  · exact .inl e.symm
  · next hne => exact .inr ⟨by rw [← e]; exact hs, by rw [← e]; exact hne⟩
theorem ba_loop (bs : ByteArray) : ∀ (n i : Nat) (r : List UInt8), n = bs.size - i → ByteArray.toList.loop bs i r = r.reverse ++ bs.data.toList.drop i := by
  intro n
  induction n with
  | zero =>
    intro i r h
    rw [ByteArray.toList.loop, if_neg (by omega), List.drop_of_length_le (by show bs.data.size ≤ i; have : bs.size = bs.data.size := rfl; omega), List.append_nil]
  | succ n ih =>
    intro i r h
    have hi : i < bs.data.size := by have : bs.size = bs.data.size := rfl; omega
    rw [ByteArray.toList.loop, if_pos (by omega), ih (i + 1) _ (by omega), List.drop_eq_getElem_cons (l := bs.data.toList) (i := i) (by simpa using hi)]
    have : bs.get! i = bs.data.toList[i]'(by simpa using hi) := by
      show bs.data[i]! = _
      rw [getElem!_pos bs.data i hi]; rfl
    rw [this]
    simp
theorem ba_toList (bs : ByteArray) : bs.toList = bs.data.toList := by
  unfold ByteArray.toList
  rw [ba_loop bs _ 0 [] rfl]; simp
theorem ba_inj {a b : ByteArray} (h : a.toList = b.toList) : a = b := by
  rw [ba_toList, ba_toList] at h
  exact ByteArray.ext (Array.toList_inj.1 h)
theorem cnt_upd (p : Sh → Bool) : ∀ (C : Con) (name : ByteArray) (s s' : Sh), (C.map Sh.name).Nodup → s ∈ C → s.name = name → s'.name = name →
    ((updC C name s').filter p).length + (if p s = true then 1 else 0) = (C.filter p).length + (if p s' = true then 1 else 0) := by
  intro C
  induction C with
  | nil => intro _ _ _ _ h; cases h
  | cons x C ih =>
    intro name s s' hn hs e1 e2
    rw [List.map_cons, List.nodup_cons] at hn
    rcases List.mem_cons.1 hs with rfl | hs'
    · have hrest : updC C name s' = C := by
        unfold updC
        conv => rhs; rw [← List.map_id C]
        refine List.map_congr_left fun y hy => ?_
        rw [if_neg]; rfl
        intro e
        exact hn.1 (List.mem_map.2 ⟨y, hy, by rw [e, e1]⟩)
      have : updC (s :: C) name s' = s' :: C := by
        show (if s.name = name then s' else s) :: updC C name s' = _
        rw [if_pos e1, hrest]
      rw [this, List.filter_cons, List.filter_cons]
      cases p s <;> cases p s' <;> simp
    · have hx : x.name ≠ name := fun e => hn.1 (List.mem_map.2 ⟨s, hs', by rw [e1, e]⟩)
      have : updC (x :: C) name s' = x :: updC C name s' := by
        show (if x.name = name then s' else x) :: updC C name s' = _
        rw [if_neg hx]
      have := ih name s s' hn.2 hs' e1 e2
      rw [‹updC (x :: C) name s' = _›, List.filter_cons, List.filter_cons]
      cases p x <;> simp only [if_true, if_false, List.length_cons, Bool.false_eq_true] <;> omega
theorem oth_le (C : Con) (name : ByteArray) (hn : (C.map Sh.name).Nodup) : (C.filter (fun s => decide (0 < s.vs.length))).length ≤ (C.filter (othC name)).length + 1 := by
  induction C with
  | nil => simp
  | cons x C ih =>
    rw [List.map_cons, List.nodup_cons] at hn
    by_cases hx : x.name = name
    · have h1 : ∀ s ∈ C, othC name s = decide (0 < s.vs.length) := fun s hs => by
        have : s.name ≠ name := fun e => hn.1 (List.mem_map.2 ⟨s, hs, by rw [e, hx]⟩)
        have h2 : (s.name.toList == name.toList) = false := by
          rw [beq_eq_false_iff_ne]
          intro e
          exact this (ba_inj e)
        unfold othC
        rw [h2]; rfl
      rw [List.filter_cons, List.filter_cons]
      have h3 : C.filter (othC name) = C.filter (fun s => decide (0 < s.vs.length)) := List.filter_congr h1
      rw [h3]
      split <;> split <;> simp <;> omega
    · have := ih hn.2
      rw [List.filter_cons, List.filter_cons]
      have h2 : (x.name.toList == name.toList) = false := by
        rw [beq_eq_false_iff_ne]
        intro e
        exact hx (ba_inj e)
      have h4 : othC name x = decide (0 < x.vs.length) := by unfold othC; rw [h2]; rfl
      rw [h4]
      split <;> simp <;> omega
end Go.Proofs.YtnbopkflhjakdaaGreatDoor.Oc
namespace Go.Proofs.YtnbopkflhjakdaaGreatDoor.Oc
open Go Go.RowKit Dk

theorem upd_num {C : Con} {name : ByteArray} {s s' : Sh} (hn : (C.map Sh.name).Nodup) (hs : fndC C name = some s) (hs' : s'.name = name) (h : (C.filter (fun s => decide (0 < s.vs.length))).length ≤ 20) (h2 : 0 < s'.vs.length → 0 < s.vs.length ∨ (C.filter (othC name)).length < 20) :
    ((updC C name s').filter (fun s => decide (0 < s.vs.length))).length ≤ 20 := by
  obtain ⟨h3, h4⟩ := fndC_mem hs
  have h5 := cnt_upd (fun s => decide (0 < s.vs.length)) C name s s' hn h3 h4 hs'
  have h6 := oth_le C name hn
  simp only [decide_eq_true_eq] at h5
  by_cases h7 : 0 < s'.vs.length
  · rcases h2 h7 with h8 | h8
    · rw [if_pos h7, if_pos h8] at h5
      omega
    · rw [if_pos h7] at h5
      by_cases h9 : 0 < s.vs.length
      · rw [if_pos h9] at h5; omega
      · rw [if_neg h9] at h5
        -- those with versions are among the others
        have h10 : (C.filter (fun s => decide (0 < s.vs.length))).length ≤ (C.filter (othC name)).length := by
          have : C.filter (fun s => decide (0 < s.vs.length)) = C.filter (othC name) := by
            refine List.filter_congr fun x hx => ?_
            by_cases hxn : x.name = name
            · have hxs : x = s := by
                have : ∀ (C : Con), (C.map Sh.name).Nodup → x ∈ C → s ∈ C → x.name = s.name → x = s := by
                  intro C
                  induction C with
                  | nil => intro _ h; cases h
                  | cons y C ih =>
                    intro hn hx hs e
                    rw [List.map_cons, List.nodup_cons] at hn
                    rcases List.mem_cons.1 hx with rfl | hx
                    · rcases List.mem_cons.1 hs with rfl | hs
                      · rfl
                      · exact absurd (List.mem_map.2 ⟨s, hs, e.symm⟩) hn.1
                    · rcases List.mem_cons.1 hs with hsy | hs
                      · exact absurd (List.mem_map.2 ⟨x, hx, by rw [e, hsy]⟩) hn.1
                      · exact ih hn.2 hx hs e
                exact this C hn hx h3 (by rw [hxn, h4])
              subst hxs
              have e1 : decide (0 < x.vs.length) = false := by simpa using h9
              unfold othC
              rw [e1, Bool.and_false]
            · have h2 : (x.name.toList == name.toList) = false := by
                rw [beq_eq_false_iff_ne]
                intro e
                exact hxn (ba_inj e)
              unfold othC
              rw [h2]; rfl
          rw [this]
          exact Nat.le_refl _
        omega
  · rw [if_neg h7] at h5
    omega
theorem hasV_mem {s : Sh} {v : Nat} : hasV s v = true ↔ ∃ p ∈ s.vs, p.1 = v := by
  unfold hasV
  rw [List.any_eq_true]
  simp
theorem wk_pf {k : Nat} {C : Con} (h : Wk k C) {n : Nt} (hm : mayC C n) (_hk : k ≤ 900) : Wk (k + 1) (pfC C n) := by
  have h' := h.mono (Nat.le_succ k)
  rcases hm with ⟨h1, h2, h3⟩ | ⟨h1, h2⟩
  · have hfull : (C.filter (othC n.name)).length < 20 ∧ numC C n.name < 40 := by
      unfold fullC at h3
      simp only [Bool.or_eq_false_iff, decide_eq_false_iff_not] at h3
      omega
    unfold pfC
    rw [if_pos h1]
    rcases hf : fndC C n.name with _ | s
    · have hnx : n.version = 1 := by rw [h2]; unfold nextC; rw [hf]
      simp only
      refine ⟨by have := h.len; simp; omega, ?_, ?_, ?_⟩
      · rw [List.map_append, List.nodup_append]
        refine ⟨h.nd, by simp, ?_⟩
        intro a ha b hb
        rw [List.map_cons, List.map_nil, List.mem_singleton] at hb
        subst hb
        obtain ⟨s, hs, rfl⟩ := List.mem_map.1 ha
        exact fndC_none hf s hs
      · intro s hs
        rcases List.mem_append.1 hs with hs | hs
        · exact h'.sh s hs
        · rw [List.mem_singleton] at hs
          subst hs
          simp [hasV, hnx] <;> omega
      · rw [List.filter_append, List.length_append]
        have : C.filter (fun s => decide (0 < s.vs.length)) = C.filter (othC n.name) := by
          refine List.filter_congr fun x hx => ?_
          have h2 : (x.name.toList == n.name.toList) = false := by
            rw [beq_eq_false_iff_ne]
            intro e
            exact fndC_none hf x hx (ba_inj e)
          unfold othC
          rw [h2]; rfl
        rw [this]
        have := hfull.1
        simp <;> omega
    · obtain ⟨hsm, hsn⟩ := fndC_mem hf
      have hnx : n.version = s.next := by rw [h2]; unfold nextC; rw [hf]
      obtain ⟨s1, s2, s3, s4, s5, s6, s7⟩ := h.sh s hsm
      have hnum : s.vs.length < 40 := by have := hfull.2; unfold numC at this; rw [hf] at this; exact this
      simp only
      refine ⟨by unfold updC; rw [List.length_map]; exact h'.len, by rw [updC_names C n.name _ (by exact hsn)]; exact h.nd, ?_, upd_num h.nd hf hsn h.num (fun _ => .inr hfull.1)⟩
      intro x hx
      rcases updC_mem hx with rfl | ⟨hx, _⟩
      · unfold putS
        simp only [List.length_append, List.length_singleton]
        refine ⟨by omega, by omega, by omega, ?_, ?_, fun h => by omega, fun _ => ⟨?_, by omega⟩⟩
        · split <;> omega
        · intro p hp
          rcases List.mem_append.1 hp with hp | hp
          · have := s5 p hp; omega
          · rw [List.mem_singleton] at hp
            subst hp
            exact Nat.lt_succ_self _
        · rw [hasV_mem]
          split
          · exact ⟨(n.version, n.ms), List.mem_append.2 (.inr (List.mem_singleton.2 rfl)), rfl⟩
          · next hne =>
            obtain ⟨p, hp, e⟩ := hasV_mem.1 (s7 (by omega)).1
            exact ⟨p, List.mem_append.2 (.inl hp), e⟩
      · exact h'.sh x hx
  · have hk1 : ¬ n.kind = 1 := by rcases h1 with h | h <;> rw [h] <;> decide
    unfold pfC
    rw [if_neg hk1]
    unfold refC at h2
    rcases hf : fndC C n.name with _ | s
    · rw [hf] at h2; cases h2
    · rw [hf] at h2
      simp only at h2 ⊢
      obtain ⟨hsm, hsn⟩ := fndC_mem hf
      obtain ⟨s1, s2, s3, s4, s5, s6, s7⟩ := h.sh s hsm
      split at h2
      · cases h2
      · next hlen =>
        split at h2
        · cases h2
        · next hhas =>
          have hhas : hasV s n.version = true := by cases hh : hasV s n.version <;> simp_all
          obtain ⟨p0, hp0, ep0⟩ := hasV_mem.1 hhas
          split at h2
          · cases h2
          · next hdrop =>
            split
            · refine ⟨by unfold updC; rw [List.length_map]; exact h'.len, by rw [updC_names C n.name _ (by exact hsn)]; exact h.nd, ?_, upd_num h.nd hf hsn h.num (fun h => .inl h)⟩
              intro x hx
              rcases updC_mem hx with rfl | ⟨hx, _⟩
              · have h9 := s5 p0 hp0
                refine ⟨by show s.vs.length ≤ _; omega, s2, by show s.next ≤ _; omega, by show n.version ≤ _; omega, s5, fun h => absurd h hlen, fun h => ⟨?_, (s7 h).2⟩⟩
                rw [hasV_mem]
                exact ⟨p0, hp0, ep0⟩
              · exact h'.sh x hx
            · next hk2 =>
              have hk3 : n.kind = 3 := by rcases h1 with h | h; exact absurd h hk2; exact h
              have hle : (s.vs.filter (fun p => decide (p.1 ≠ n.version))).length ≤ s.vs.length := List.length_filter_le _ _
              refine ⟨by unfold updC; rw [List.length_map]; exact h'.len, by rw [updC_names C n.name _ (by exact hsn)]; exact h.nd, ?_, upd_num h.nd hf hsn h.num (fun h => .inl (by unfold dropS at h; simp only at h; omega))⟩
              intro x hx
              rcases updC_mem hx with rfl | ⟨hx, _⟩
              · unfold dropS
                simp only
                refine ⟨by omega, s2, by omega, by split <;> omega, fun p hp => s5 p ((List.mem_filter.1 hp).1), fun h => by rw [if_pos h], fun h => ⟨?_, by have := (s7 (by omega)).2; omega⟩⟩
                rw [if_neg (by omega), hasV_mem]
                obtain ⟨p, hp, e⟩ := hasV_mem.1 (s7 (by omega)).1
                refine ⟨p, List.mem_filter.2 ⟨hp, ?_⟩, e⟩
                rw [e]
                simp only [decide_eq_true_eq]
                intro e2
                refine hdrop ⟨hk3, e2.symm, ?_⟩
                have : (s.vs.filter (fun p => decide (p.1 ≠ n.version))).length < s.vs.length := by
                  rw [List.length_filter_lt_length_iff_exists]
                  exact ⟨p0, hp0, by simp [ep0]⟩
                omega
              · exact h'.sh x hx
theorem ch_snoc : ∀ (ns : List Nt) (C : Con) (n : Nt), Ch C ns → mayC (ns.foldl pfC C) n → NtOk n → WF (pfC (ns.foldl pfC C) n) → Ch C (ns ++ [n]) := by
  intro ns
  induction ns with
  | nil => intro C n h hm hn hw; exact ⟨h, hm, hn, hw⟩
  | cons m ns ih => intro C n h hm hn hw; exact ⟨h.1, h.2.1, h.2.2.1, ih _ n h.2.2.2 hm hn hw⟩
end Go.Proofs.YtnbopkflhjakdaaGreatDoor.Oc
namespace Go.Proofs.YtnbopkflhjakdaaGreatDoor.Oc
open Go Go.RowKit Dk

abbrev con (ns : List Nt) : Con := ns.foldl pfC []
/- A book whose journal is these notes. -/
def BS (w : World) (B g gd room k : Nat) (ns : List Nt) : Prop := ∃ (bm : Nat) (A : Option Addr) (c : Nat) (S : St) (f : Int) (L : List Ly), Bz w B g gd bm A c S f L ∧ S.xs = jl ns ∧ S.room = room ∧ L.map Ly.s = con ns ∧ Ch [] ns ∧ Wk k (con ns) ∧ S.xs.length ≤ k * 20000
theorem BS.below {w w' : World} {B g gd room k : Nat} {ns : List Nt} (h : BS w B g gd room k ns) (hb : Below w.heap.size w w') : BS w' B g gd room k ns := by
  obtain ⟨bm, A, c, S, f, L, h1, h2⟩ := h
  exact ⟨bm, A, c, S, f, L, h1.below hb, h2⟩
theorem BS.more {w : World} {B g gd room k : Nat} {ns : List Nt} (h : BS w B g gd room k ns) : BS w B g gd room (k + 1) ns := by
  obtain ⟨bm, A, c, S, f, L, h1, h2, h3, h4, h5, h6, h7⟩ := h
  exact ⟨bm, A, c, S, f, L, h1, h2, h3, h4, h5, h6.mono (Nat.le_succ k), Nat.le_trans h7 (Nat.mul_le_mul_right _ (Nat.le_succ k))⟩
theorem BS.wk {w : World} {B g gd room k : Nat} {ns : List Nt} (h : BS w B g gd room k ns) : Wk k (con ns) := by
  obtain ⟨bm, A, c, S, f, L, h1, h2, h3, h4, h5, h6, h7⟩ := h
  exact h6
theorem con_snoc (ns : List Nt) (n : Nt) : con (ns ++ [n]) = pfC (con ns) n := by
  show (ns ++ [n]).foldl pfC [] = _
  rw [List.foldl_append]; rfl
def stepC (ns : List Nt) (n : Nt) : List Nt := if refC (con ns) n.kind n.name n.version = 0 then ns ++ [n] else ns
theorem change_bs {w : World} {B g gd room k : Nat} {ns : List Nt} (h : BS w B g gd room k ns) (hk : k ≤ 100) (hroom : (k + 1) * 20000 ≤ room) {n : Nt} (hn : NtOk n) (hkd : n.kind = 2 ∨ n.kind = 3) :
    Calls Tryz.prog 17 #[.pointer (some ⟨g, 0, none⟩), .agg (noteV n.kind n.name n.version 0 (.slice none 0 0))] w fun e w' => e = .returned (.int .i64 (refC (con ns) n.kind n.name n.version)) ∧ BS w' B g gd room (k + 1) (stepC ns n) ∧ Below B w w' := by
  have hB : B ≤ w.heap.size := by
    obtain ⟨bm, A, c, S, f, L, h1, _⟩ := h
    exact h1.bw.b0l
  have h0 := h
  obtain ⟨bm, A, c, S, f, L, h1, h2, h3, h4, h5, h6, h7⟩ := h
  by_cases hr : refC (con ns) n.kind n.name n.version = 0
  · rw [stepC, if_pos hr, hr]
    have hl := (rec_len hn).1
    refine (change_done h1 (by rw [h4]; exact h6.wf (by omega)) hn hkd (by rw [h4]; exact hr) (by rw [h3]; omega)).mono ?_
    rintro e w' ⟨rfl, A', c', f', L', hz, hc, hb⟩
    have hmay : mayC (con ns) n := .inr ⟨hkd, hr⟩
    have hwk := wk_pf h6 hmay (by omega)
    refine ⟨rfl, ⟨bm, A', c', addS S (recN n), f', L', hz, ?_, h3, ?_, ch_snoc ns [] n h5 hmay hn (hwk.wf (by omega)), ?_, ?_⟩, hb⟩
    · show S.xs ++ recN n = _
      rw [h2, jl_append, jl_cons]; simp [jl]
    · rw [hc, h4, con_snoc]
    · rw [con_snoc]; exact hwk
    · show (S.xs ++ recN n).length ≤ _
      rw [List.length_append]; omega
  · rw [stepC, if_neg hr]
    refine (change_ref h1 n.kind n.name n.version hkd (by have := hn.ver; omega) (by rw [h4]) (by simpa using hr)).mono ?_
    rintro e w' ⟨rfl, hb⟩
    exact ⟨rfl, (h0.below hb).more, hb.mono hB⟩
set_option maxHeartbeats 4000000 in
set_option maxRecDepth 100000 in
theorem drop_bs {w : World} {B g gd room k : Nat} {ns : List Nt} (h : BS w B g gd room k ns) (hk : k ≤ 100) (hroom : (k + 1) * 20000 ≤ room) {name : ByteArray} {v : Nat} (hn : NtOk ⟨3, name, v, []⟩) :
    Calls Tryz.prog 8 #[.pointer (some ⟨g, 0, none⟩), .string name, .int .i64 (v : Int)] w fun e w' => e = .returned (.int .i64 (refC (con ns) 3 name v)) ∧ BS w' B g gd room (k + 1) (stepC ns ⟨3, name, v, []⟩) ∧ Below B w w' := by
  have HC := Lib.hid (fun W (hW : BS W B g gd room k ns) => change_bs hW hk hroom hn (.inr rfl))
  have H := Lib.hid h
  clear h hn
  go_enter Tryz.func8, Tryz.ntmps8
  go_wp2_with (first
    | (go_at_call 17; refine (HC.out _ (by exact H.out)).mono ?_; rintro e w' ⟨rfl, h1, h2⟩; have H1 := Lib.hid h1; have H2 := Lib.hid h2; clear h1 h2))
  go_ret
  exact ⟨rfl, H1.out, H2.out⟩
set_option maxHeartbeats 4000000 in
set_option maxRecDepth 100000 in
theorem point_bs {w : World} {B g gd room k : Nat} {ns : List Nt} (h : BS w B g gd room k ns) (hk : k ≤ 100) (hroom : (k + 1) * 20000 ≤ room) {name : ByteArray} {v : Nat} (hn : NtOk ⟨2, name, v, []⟩) :
    Calls Tryz.prog 9 #[.pointer (some ⟨g, 0, none⟩), .string name, .int .i64 (v : Int)] w fun e w' => e = .returned (.int .i64 (refC (con ns) 2 name v)) ∧ BS w' B g gd room (k + 1) (stepC ns ⟨2, name, v, []⟩) ∧ Below B w w' := by
  have HC := Lib.hid (fun W (hW : BS W B g gd room k ns) => change_bs hW hk hroom hn (.inl rfl))
  have H := Lib.hid h
  clear h hn
  go_enter Tryz.func9, Tryz.ntmps9
  go_wp2_with (first
    | (go_at_call 17; refine (HC.out _ (by exact H.out)).mono ?_; rintro e w' ⟨rfl, h1, h2⟩; have H1 := Lib.hid h1; have H2 := Lib.hid h2; clear h1 h2))
  go_ret
  exact ⟨rfl, H1.out, H2.out⟩
end Go.Proofs.YtnbopkflhjakdaaGreatDoor.Oc
namespace Go.Proofs.YtnbopkflhjakdaaGreatDoor.Oc
open Go Go.RowKit Dk

theorem put_bs {w : World} {B g gd room k : Nat} {ns : List Nt} (h : BS w B g gd room k ns) (hk : k ≤ 100) (hroom : (k + 1) * 20000 ≤ room) {name : ByteArray} {v : Nat} {ms : List Int} {cs : Array Value} (hn : NtOk ⟨1, name, v, ms⟩) (hv : v = nextC (con ns) name) (hfu : fullC (con ns) name = false) (hm : MOk w cs ms) :
    Calls Tryz.prog 11 #[.pointer (some ⟨g, 0, none⟩), .string name, .agg cs] w fun e w' => e = .returned (.tuple #[.int .i64 (v : Int), .int .i64 0]) ∧ BS w' B g gd room (k + 1) (ns ++ [⟨1, name, v, ms⟩]) ∧ Below B w w' := by
  obtain ⟨bm, A, c, S, f, L, h1, h2, h3, h4, h5, h6, h7⟩ := h
  have hl := (rec_len hn).1
  refine (put_done h1 (by rw [h4]; exact h6.wf (by omega)) hn (by rw [h4]; exact hv) (by rw [h4]; exact hfu) hm (by rw [h3]; omega)).mono ?_
  rintro e w' ⟨rfl, A', c', f', L', hz, hc, hb⟩
  have hmay : mayC (con ns) ⟨1, name, v, ms⟩ := .inl ⟨rfl, hv, hfu⟩
  have hwk := wk_pf h6 hmay (by omega)
  refine ⟨rfl, ⟨bm, A', c', addS S (recN ⟨1, name, v, ms⟩), f', L', hz, ?_, h3, ?_, ch_snoc ns [] _ h5 hmay hn (hwk.wf (by omega)), ?_, ?_⟩, hb⟩
  · show S.xs ++ recN _ = _
    rw [h2, jl_append, jl_cons]; simp [jl]
  · rw [hc, h4, con_snoc]
  · rw [con_snoc]; exact hwk
  · show (S.xs ++ recN _).length ≤ _
    rw [List.length_append]; omega
theorem next_bs {w : World} {B g gd room k : Nat} {ns : List Nt} (h : BS w B g gd room k ns) (name : ByteArray) :
    Calls Tryz.prog 13 #[.pointer (some ⟨g, 0, none⟩), .string name] w fun e w' => e = .returned (.int .i64 (nextC (con ns) name : Int)) ∧ Below w.heap.size w w' := by
  obtain ⟨bm, A, c, S, f, L, h1, h2, h3, h4, _⟩ := h
  rw [← h4, next_con]
  exact bnext_any h1.bw.bk name
/- A disk that holds these notes, all of them safe. -/
def DS (w : World) (B gd room k : Nat) (ns : List Nt) : Prop := ∃ (A : Option Addr) (c : Nat) (S : St) (f : Int), Blk w gd 84 (pc (.slice A S.xs.length c) S f) ∧ Own w B (.slice A S.xs.length c) S.xs ∧ Ok S ∧ S.fuse = none ∧ S.dead = false ∧ S.safe = S.xs.length ∧ (B ≤ gd ∧ B ≤ w.heap.size) ∧ S.xs = jl ns ∧ S.room = room ∧ Ch [] ns ∧ Wk k (con ns) ∧ S.xs.length ≤ k * 20000
theorem DS.below {w w' : World} {B gd room k : Nat} {ns : List Nt} (h : DS w B gd room k ns) (hb : Below w.heap.size w w') : DS w' B gd room k ns := by
  obtain ⟨A, c, S, f, h1, h2, h3, h4, h5, h6, h7, h8⟩ := h
  exact ⟨A, c, S, f, blk_below h1 hb, own_below h2 hb, h3, h4, h5, h6, ⟨h7.1, Nat.le_trans h7.2 hb.size⟩, h8⟩
theorem BS.ds {w : World} {B g gd room k : Nat} {ns : List Nt} (h : BS w B g gd room k ns) : DS w B gd room k ns := by
  obtain ⟨bm, A, c, S, f, L, h1, h2, h3, h4, h5, h6, h7⟩ := h
  exact ⟨A, c, S, f, h1.bw.dk, h1.bw.own, h1.bw.ok, h1.bw.fu, h1.bw.up, h1.bw.sf, ⟨h1.hg.2.1, h1.bw.b0l⟩, h2, h3, h5, h6, h7⟩
theorem crash_ds {w : World} {B gd room k : Nat} {ns : List Nt} (h : DS w B gd room k ns) (n : Int) (h0 : -9223372036854775808 ≤ n) (h1 : n ≤ 9223372036854775807) :
    Calls Tryz.prog 10 #[.pointer (some ⟨gd, 0, none⟩), .int .i64 n] w fun e w' => e = .returned (.tuple #[]) ∧ DS w' B gd room k ns ∧ Below B w w' := by
  obtain ⟨A, c, S, f, d1, d2, d3, d4, d5, d6, d7, d8, d9, d10, d11, d12⟩ := h
  have e1 : S.safe + min n.toNat (S.xs.length - S.safe) = S.xs.length := by omega
  have e2 : cr S n.toNat = { S with safe := S.xs.length, fuse := none, dead := false } := by
    unfold cr
    rw [e1, List.take_length]
  refine (pcrash_any gd A c B S f n w d1 d2 d3 h0 h1).mono ?_
  rintro e w' ⟨rfl, A', c', hb, ho, ha, hd⟩
  have hok := cr_ok d3 n.toNat
  rw [e2] at hb ho hok
  refine ⟨rfl, ⟨A', c', _, 0, hb, ho, hok, rfl, rfl, rfl, ⟨d7.1, Nat.le_trans d7.2 ha.size⟩, d8, d9, d10, d11, d12⟩, Alt.toBelow ha (fun k _ e => by rw [e]; exact d7.1) d7.2⟩
theorem open_ds {w : World} {B gd room k : Nat} {ns : List Nt} (h : DS w B gd room k ns) :
    Calls Tryz.prog 6 #[.pointer (some ⟨gd, 0, none⟩)] w fun e w' => ∃ g, e = .returned (.tuple #[.pointer (some ⟨g, 0, none⟩), .int .i64 0]) ∧ BS w' B g gd room k ns ∧ Below w.heap.size w w' := by
  obtain ⟨A, c, S, f, d1, d2, d3, d4, d5, d6, d7, d8, d9, d10, d11, d12⟩ := h
  refine (bopen_any d1 d2 d3 d4 d5 d6 d7 ns d8 d10).mono ?_
  rintro e w' ⟨g, bm, L, rfl, hz, hc, hb⟩
  exact ⟨g, rfl, ⟨bm, A, c, S, f, L, hz, d8, d9, hc, d10, d11, d12⟩, hb⟩
/- A new disk. -/
theorem new_ds (w : World) (n : Nat) (hn : n ≤ 4194304) :
    Calls Tryz.prog 5 #[.int .i64 (n : Int)] w fun e w' => e = .returned (.pointer (some ⟨w.heap.size, 0, none⟩)) ∧ DS w' w.heap.size w.heap.size n 0 [] ∧ Below w.heap.size w w' := by
  refine (pnew_any n w (by omega) (by omega)).mono ?_
  rintro e w' ⟨rfl, rfl⟩
  refine ⟨rfl, ⟨none, 0, ⟨[], n, 0, none, false⟩, 0, Blk.new w _ _, World.ownsRow_nil _ _ _ _, ⟨Nat.zero_le _, hn, Nat.le_refl _, fun k h => by cases h⟩, rfl, rfl, rfl, ⟨Nat.le_refl _, by simp⟩, rfl, rfl, Wk.nil.wf (by omega), Wk.nil, Nat.zero_le _⟩, Below.new1 w _⟩
/- Points and drops leave the next version. -/
theorem next_step (ns : List Nt) (n : Nt) (name : ByteArray) (hk : n.kind = 2 ∨ n.kind = 3) : nextC (con (stepC ns n)) name = nextC (con ns) name := by
  unfold stepC
  split
  · rw [con_snoc]
    have hk1 : ¬ n.kind = 1 := by rcases hk with h | h <;> rw [h] <;> decide
    have upd : ∀ (C : Con) (s s' : Sh), fndC C n.name = some s → s'.name = n.name → s'.next = s.next → nextC (updC C n.name s') name = nextC C name := by
      intro C s s' hs e1 e2
      unfold nextC
      have : fndC (updC C n.name s') name = (fndC C name).map (fun s => if s.name = n.name then s' else s) := by
        unfold updC fndC
        rw [List.find?_map]
        congr 2
        funext x
        show decide ((if x.name = n.name then s' else x).name = name) = _
        split
        · next e => rw [e1, e]
        · rfl
      rw [this]
      cases hf : fndC C name with
      | none => rfl
      | some x =>
        show (if x.name = n.name then s' else x).next = x.next
        split
        · next e =>
          have hx := (fndC_mem hf).2
          have : name = n.name := by rw [← hx, e]
          subst this
          rw [hf] at hs
          injection hs with hs
          rw [e2, hs]
        · rfl
    unfold pfC
    rw [if_neg hk1]
    cases hf : fndC (con ns) n.name with
    | none => rfl
    | some s =>
      simp only
      have hsn := (fndC_mem hf).2
      split
      · exact upd _ s _ hf hsn rfl
      · exact upd _ s _ hf hsn rfl
  · rfl
theorem next_put (C : Con) (name : ByteArray) (v : Nat) (ms : List Int) : nextC (pfC C ⟨1, name, v, ms⟩) name = v + 1 := by
  unfold pfC
  rw [if_pos rfl]
  cases hf : fndC C name with
  | none =>
    simp only
    unfold nextC fndC
    have : C.find? (fun s => decide (s.name = name)) = none := hf
    rw [List.find?_append, this]
    simp
  | some s =>
    simp only
    obtain ⟨h1, h2⟩ := fndC_mem hf
    unfold nextC
    have : fndC (updC C name (putS s v ms)) name = some (putS s v ms) := by
      unfold updC fndC
      rw [List.find?_map]
      have e : ((fun s => decide (s.name = name)) ∘ fun x => if x.name = name then putS s v ms else x) = fun x : Sh => decide (x.name = name) := by
        funext x
        show decide ((if x.name = name then putS s v ms else x).name = name) = _
        split
        · next e => rw [show (putS s v ms).name = s.name from rfl, h2, e]
        · rfl
      rw [e, show C.find? (fun x => decide (x.name = name)) = some s from hf]
      show some (if s.name = name then putS s v ms else s) = _
      rw [if_pos h2]
    rw [this]
    rfl
end Go.Proofs.YtnbopkflhjakdaaGreatDoor.Oc
namespace Go.Proofs.YtnbopkflhjakdaaGreatDoor.Oc
open Go Go.RowKit Dk

theorem tmod_fix (n m : Int) (h0 : 0 < m) : (if n.tmod m < 0 then n.tmod m + m else n.tmod m) = n % m := by
  have h1 := Int.emod_nonneg n (by omega : m ≠ 0)
  have h2 := Int.emod_lt_of_pos n h0
  by_cases hn : 0 ≤ n
  · rw [Int.tmod_eq_emod_of_nonneg hn, if_neg (by omega)]
  · have e := Int.tmod_eq_emod (a := n) (b := m)
    by_cases hd : m ∣ n
    · rw [if_pos (.inr hd)] at e
      rw [e, if_neg (by omega)]; omega
    · rw [if_neg (by rintro (h | h) <;> contradiction)] at e
      have : (m.natAbs : Int) = m := by omega
      rw [e, if_pos (by omega)]; omega

set_option maxHeartbeats 400000 in
set_option maxRecDepth 100000 in
theorem pick_any (n m : Int) (w : World) (h0 : 0 < m) (h1 : m ≤ 1000000) :
    Calls Tryz.prog 7 #[.int .i64 n, .int .i64 m] w fun e w' => e = .returned (.int .i64 (n % m)) ∧ w = w' := by
  have hm0 : (m == 0) = false := by simp; omega
  have hf := Lib.hid (tmod_fix n m h0)
  have hb : -m < n.tmod m ∧ n.tmod m < m := by
    have := Int.tmod_lt_of_pos n h0
    have h3 := Int.lt_tmod_of_pos n h0
    omega
  obtain ⟨hb1, hb2⟩ := hb
  go_enter Tryz.func7, Tryz.ntmps7
  go_wp2
  · go_ret
    refine ⟨ret_int ?_, rfl⟩
    rw [← hf.out, if_pos (by assumption)]
    done
  · go_ret
    refine ⟨ret_int ?_, rfl⟩
    rw [← hf.out, if_neg (by omega)]

/- What came in: acts of four numbers. -/
def Acts (w : World) (L : Option Addr) (n : Nat) : Prop := 0 < n → ∃ ad, L = some ad ∧ ad.block < w.heap.size ∧ ∀ k, k < n → ∃ a b c d : Int, w.cell? (ad.add (k * 4)) = some (.int .i64 a) ∧ w.cell? (ad.add (k * 4 + 1)) = some (.int .i64 b) ∧ w.cell? (ad.add (k * 4 + 2)) = some (.int .i64 c) ∧ w.cell? (ad.add (k * 4 + 3)) = some (.int .i64 d)
theorem add_field (ad : Addr) (k j : Nat) (hj : 0 < j) : (⟨(ad.add k).block, (ad.add k).off + j, none⟩ : Addr) = ad.add (k + j) := by
  unfold Addr.add
  by_cases hk : k = 0
  · subst hk
    simp [show ¬ j = 0 by omega]
  · simp [hk, Nat.add_assoc]
set_option maxHeartbeats 1000000 in
set_option maxRecDepth 100000 in
theorem few_any (A : Option Addr) (n c m : Nat) (w : World) (hn : n ≤ c) (hn2 : n ≤ 9223372036854775807) (hA : A = none → n = 0) (hm : m ≤ 1000) :
    Calls Tryz.prog 4 #[.slice A n c, .int .i64 (m : Int)] w fun e w' => e = .returned (.slice A (min n m) c) ∧ w' = w := by
  rcases (show m < n ∨ n ≤ m by omega) with h | h
  · have hc : m ≤ c := by omega
    cases A with
    | none => have := hA rfl; omega
    | some ad =>
      have e : min n m = m := by omega
      rw [e]
      go_enter Tryz.func4, Tryz.ntmps4
      go_wp2
      go_ret
      exact ⟨by simp, rfl⟩
  · have e : min n m = n := by omega
    rw [e]
    cases A with
    | none =>
      have h0 := hA rfl
      subst h0
      go_enter Tryz.func4, Tryz.ntmps4
      go_wp2
      go_ret
      exact ⟨by simp, rfl⟩
    | some ad =>
      go_enter Tryz.func4, Tryz.ntmps4
      go_wp2
      go_ret
      exact ⟨by simp, rfl⟩
end Go.Proofs.YtnbopkflhjakdaaGreatDoor.Oc
namespace Go.Proofs.YtnbopkflhjakdaaGreatDoor.Oc
open Go Go.RowKit Dk

def nA : ByteArray := ⟨#[97]⟩
def Know : Prop := ∀ w : World, Calls Tryz.prog 14 #[] w fun e w' => e = .returned (.bool true) ∧ Below w.heap.size w w'
def IsOk (name : ByteArray) : Prop := ∀ W : World, Calls Tryz.prog 18 #[.string name] W fun e w' => e = .returned (.bool true) ∧ Below W.heap.size W w'
def Mdl (n : Int) (ms : List Int) : Prop := IsB ms ∧ 0 < ms.length ∧ ms.length ≤ 12000 ∧ ReadOk ms ∧ ∀ W, Calls Tryz.prog 12 #[.int .i64 n] W fun e w' => ∃ cs, e = .returned (.agg cs) ∧ MOk w' cs ms ∧ Below W.heap.size W w'
theorem ntA {kind : Int} {v : Nat} {ms : List Int} (hk : kind = 1 ∨ kind = 2 ∨ kind = 3) (hv : v ≤ 100000) (his : IsOk nA) (hm : kind = 1 → IsB ms ∧ 0 < ms.length ∧ ms.length ≤ 12000 ∧ ReadOk ms) : NtOk ⟨kind, nA, v, ms⟩ :=
  ⟨(by decide : nA.size ≤ 20), (by decide : 0 < nA.size), (by decide : strOf (nums nA) = nA), hv, hk, his, hm⟩

set_option maxHeartbeats 4000000 in
set_option maxRecDepth 100000 in
theorem versions_walk (hknow : Know) (his : IsOk nA) (hmd : ∀ n : Int, 0 ≤ n → n < 7 → ∃ ms, Mdl n ms) (L : Option Addr) (n cl : Nat) (keep : Int) (w : World) (hL : Acts w L n) (hn : n ≤ cl) (hn2 : n ≤ 9223372036854775807) (hLn : L = none → n = 0) (hk0 : -9223372036854775808 ≤ keep) (hk1 : keep ≤ 9223372036854775807) :
    Calls Tryz.prog 3 #[.slice L n cl, .int .i64 keep] w fun e w' => e = .returned (.bool true) ∧ Below w.heap.size w w' := by
  have HL := Lib.hid hL
  have HLN := Lib.hid hLn
  have HIS := Lib.hid his
  have HMD := Lib.hid hmd
  clear hL hLn his hmd
  obtain ⟨m, hm⟩ : ∃ m, m = min n 14 := ⟨_, rfl⟩
  have HM := Lib.hid hm
  have hm14 : m ≤ 14 := by omega
  have hmn : m ≤ n := by omega
  clear hm
  go_enter Tryz.func3, Tryz.ntmps3
  go_wp2_with (first
    | (go_at_call 4; refine (few_any L n cl 14 w hn hn2 HLN.out (by omega)).mono ?_; rintro e w' ⟨rfl, hw⟩; rw [hw, ← HM.out]; clear hw)
    | (go_at_call 5; refine (new_ds w 4194304 (Nat.le_refl _)).mono ?_; rintro e w1 ⟨rfl, hd1, hb1⟩; have HD1 := Lib.hid hd1; have HB1 := Lib.hid hb1; clear hd1 hb1)
    | (go_at_call 6; refine (open_ds HD1.out).mono ?_; rintro e w2 ⟨g, rfl, hs2, hb2⟩; have HS2 := Lib.hid hs2; have HB2 := Lib.hid (HB1.out.trans (hb2.mono HB1.out.size)); clear hs2 hb2))
  have HB0 : Hid (∀ x : World, Below w.heap.size w x → w.heap.size ≤ x.heap.size) := Lib.hid fun _ h => h.size
  go_loopw [6, 8, 9] (fun v6 v8 v9 wz => ∃ (k g last : Nat) (ns : List Nt), k ≤ m ∧ v9 = .int .i64 (k : Int) ∧ v6 = .pointer (some ⟨g, 0, none⟩) ∧ v8 = .int .i64 (last : Int) ∧ last ≤ 100 ∧ Hid (BS wz w.heap.size g w.heap.size 4194304 k ns) ∧ Hid (nextC (con ns) nA = last + 1) ∧ Hid (Below w.heap.size w wz)) (fun _ _ v9 _ => m - (intOf v9).toNat)
  case atStart =>
    exact ⟨0, g, 0, [], Nat.zero_le _, rfl, rfl, rfl, by omega, HS2, Lib.hid rfl, HB2⟩
  case round =>
    obtain ⟨k, g', last, ns, hk, rfl, rfl, rfl, hlast, hbs, hnx, hbe⟩ := hrel
    by_cases hlt : k < m
    · obtain ⟨ad, rfl, hab, hc⟩ := HL.out (by omega)
      obtain ⟨aK, aN, aV, aM, h0, _, h2, h3⟩ := hc k (by omega)
      have g0 := (hbe.out.cell (p := ad.add (k * 4)) (by rw [block_of_add]; exact hab)).trans h0
      have g2 := (hbe.out.cell (p := ad.add (k * 4 + 2)) (by rw [block_of_add]; exact hab)).trans h2
      have g3 := (hbe.out.cell (p := ad.add (k * 4 + 3)) (by rw [block_of_add]; exact hab)).trans h3
      rw [← add_field ad (k * 4) 2 (by omega)] at g2
      rw [← add_field ad (k * 4) 3 (by omega)] at g3
      clear hc h0 h2 h3
      have hv0 := Int.emod_nonneg aV (show (6 : Int) ≠ 0 by omega)
      have hv1 := Int.emod_lt_of_pos aV (show (0 : Int) < 6 by omega)
      obtain ⟨vv, HV⟩ : ∃ vv : Nat, Hid (aV % 6 = (vv : Int)) := ⟨(aV % 6).toNat, Lib.hid (by omega)⟩
      rw [HV.out] at hv0 hv1
      have hm0 := Int.emod_nonneg aM (show (7 : Int) ≠ 0 by omega)
      have hm1 := Int.emod_lt_of_pos aM (show (0 : Int) < 7 by omega)
      obtain ⟨mm, HMM⟩ : ∃ mm, Hid (aM % 7 = mm) := ⟨_, Lib.hid rfl⟩
      rw [HMM.out] at hm0 hm1
      have hk0 := Int.emod_nonneg aK (show (5 : Int) ≠ 0 by omega)
      have hk1 := Int.emod_lt_of_pos aK (show (0 : Int) < 5 by omega)
      obtain ⟨kk, HK⟩ : ∃ kk, Hid (aK % 5 = kk) := ⟨_, Lib.hid rfl⟩
      rw [HK.out] at hk0 hk1
      have HBS := hbs
      have HNX := hnx
      have HBE := hbe
      have HDROP : Hid (Calls Tryz.prog 8 #[.pointer (some ⟨g', 0, none⟩), .string nA, .int .i64 (vv : Int)] wr fun e w' => ∃ r, e = .returned (.int .i64 r) ∧ BS w' w.heap.size g' w.heap.size 4194304 (k + 1) (stepC ns ⟨3, nA, vv, []⟩) ∧ Below w.heap.size w w') := Lib.hid ((drop_bs hbs.out (by omega) (by omega) (ntA (.inr (.inr rfl)) (by omega) HIS.out (fun h => by cases h))).mono (by rintro e w' ⟨rfl, h1, h2⟩; exact ⟨_, rfl, h1, HBE.out.trans h2⟩))
      have HPOINT : Hid (Calls Tryz.prog 9 #[.pointer (some ⟨g', 0, none⟩), .string nA, .int .i64 (vv : Int)] wr fun e w' => ∃ r, e = .returned (.int .i64 r) ∧ BS w' w.heap.size g' w.heap.size 4194304 (k + 1) (stepC ns ⟨2, nA, vv, []⟩) ∧ Below w.heap.size w w') := Lib.hid ((point_bs hbs.out (by omega) (by omega) (ntA (.inr (.inl rfl)) (by omega) HIS.out (fun h => by cases h))).mono (by rintro e w' ⟨rfl, h1, h2⟩; exact ⟨_, rfl, h1, HBE.out.trans h2⟩))
      clear hbs hnx hbe
      go_upto_block 2 with (go_at_call 7; refine (pick_any _ _ _ (by omega) (by omega)).mono ?_; rintro e w' ⟨rfl, hw⟩; rw [← hw, HK.out]; clear hw)
      rcases (show kk = 0 ∨ kk = 1 ∨ kk = 2 ∨ (3 ≤ kk ∧ kk < 5) by omega) with rfl | rfl | rfl | ⟨q0, q1⟩
      · clear HPOINT
        go_wp2_with (first
          | (go_at_call 7; refine (pick_any _ _ _ (by omega) (by omega)).mono ?_; rintro e w' ⟨rfl, hw⟩; rw [← hw, HV.out]; clear hw)
          | (go_at_call 8; go_loud (refine HDROP.out.mono ?_; rintro e w2 ⟨r, rfl, hs2, hb2⟩; have HS2 := Lib.hid hs2; have HB2 := Lib.hid hb2; clear hs2 hb2)))
        go_roundw
        case rel => exact ⟨k + 1, g', last, _, by omega, by go_num, rfl, rfl, hlast, HS2, Lib.hid (by rw [next_step _ _ _ (.inr rfl)]; exact HNX.out), HB2⟩
        case measure => simp [intOf]; omega
      · clear HDROP
        go_wp2_with (first
          | (go_at_call 7; refine (pick_any _ _ _ (by omega) (by omega)).mono ?_; rintro e w' ⟨rfl, hw⟩; rw [← hw, HV.out]; clear hw)
          | (go_at_call 9; go_loud (refine HPOINT.out.mono ?_; rintro e w2 ⟨r, rfl, hs2, hb2⟩; have HS2 := Lib.hid hs2; have HB2 := Lib.hid hb2; clear hs2 hb2)))
        go_roundw
        case rel => exact ⟨k + 1, g', last, _, by omega, by go_num, rfl, rfl, hlast, HS2, Lib.hid (by rw [next_step _ _ _ (.inl rfl)]; exact HNX.out), HB2⟩
        case measure => simp [intOf]; omega
      · clear HDROP HPOINT
        go_wp2_with (first
          | (go_at_call 10; go_loud (refine (crash_ds HBS.out.ds keep ‹_› ‹_›).mono ?_; rintro e w2 ⟨rfl, hd2, hb2⟩; have HD2 := Lib.hid hd2; have HB2 := Lib.hid (HBE.out.trans hb2); clear hd2 hb2))
          | (go_at_call 6; go_loud (refine (open_ds HD2.out).mono ?_; rintro e w3 ⟨g3, rfl, hs3, hb3⟩; have HS3 := Lib.hid hs3; have HB3 := Lib.hid (HB2.out.trans (hb3.mono HB2.out.size)); clear hs3 hb3)))
        go_roundw
        case rel => exact ⟨k + 1, g3, last, ns, by omega, by go_num, rfl, rfl, hlast, Lib.hid HS3.out.more, HNX, HB3⟩
        case measure => simp [intOf]; omega
      · clear HDROP HPOINT
        obtain ⟨ms, hmd⟩ := HMD.out mm hm0 hm1
        have HMS := Lib.hid hmd
        have HFU : Hid (fullC (con ns) nA = false) := Lib.hid (by
          have hwk := HBS.out.wk
          unfold fullC
          have h1 := List.length_filter_le (othC nA) (con ns)
          have h2 := hwk.len
          have h3 : numC (con ns) nA ≤ k := by
            unfold numC
            cases hf : fndC (con ns) nA with
            | none => exact Nat.zero_le _
            | some s => exact (hwk.sh s (fndC_mem hf).1).1
          simp only [Bool.or_eq_false_iff, decide_eq_false_iff_not]
          omega)
        have HNT : Hid (NtOk ⟨1, nA, last + 1, ms⟩) := Lib.hid (ntA (.inl rfl) (by omega) HIS.out (fun _ => ⟨hmd.1, hmd.2.1, hmd.2.2.1, hmd.2.2.2.1⟩))
        clear hmd
        have hkk : ¬ kk = 0 := by omega
        have HNP : Hid (nextC (con (ns ++ [⟨1, nA, last + 1, ms⟩])) nA = last + 2) := Lib.hid (by rw [con_snoc, next_put])
        have hl100 : last + 1 ≤ 100 := by
          have h1 := HBS.out.wk
          have h2 := HNX.out
          have h3 : nextC (con ns) nA ≤ k + 1 := by
            unfold nextC
            cases hf : fndC (con ns) nA with
            | none => simp
            | some s => exact (h1.sh s (fndC_mem hf).1).2.2.1
          omega
        go_wp2_with (first
          | (go_at_call 7; refine (pick_any _ _ _ (by omega) (by omega)).mono ?_; rintro e w' ⟨rfl, hw⟩; rw [← hw, HMM.out]; clear hw)
          | (go_at_call 12; go_loud (refine (HMS.out.2.2.2.2 wr).mono ?_; rintro e w2 ⟨cs, rfl, hm2, hb2⟩; have HM2 := Lib.hid hm2; have HB2 := Lib.hid (HBE.out.trans (hb2.mono HBE.out.size)); have HS2 := Lib.hid (HBS.out.below hb2); clear hm2 hb2))
          | (go_at_call 11; go_loud (refine (put_bs HS2.out (by omega) (by omega) HNT.out HNX.out.symm HFU.out HM2.out).mono ?_; rintro e w3 ⟨rfl, hs3, hb3⟩; have HS3 := Lib.hid hs3; have HB3 := Lib.hid (HB2.out.trans hb3); clear hs3 hb3))
          | (go_at_call 13; go_loud (refine (next_bs HS3.out _).mono ?_; rintro e w4 ⟨rfl, hb4⟩; rw [show nextC (con (ns ++ [⟨1, nA, last + 1, ms⟩])) (⟨#[97]⟩ : ByteArray) = last + 2 from by { have := HNP.out; exact this }]; have HS4 := Lib.hid (HS3.out.below hb4); have HB4 := Lib.hid (HB3.out.trans (hb4.mono HB3.out.size)); clear hb4)))
        go_roundw
        case rel => exact ⟨k + 1, g', last + 1, _, by omega, by go_num, rfl, by go_num, by omega, HS4, HNP, HB4⟩
        case measure => simp [intOf]; omega
    · go_wp2_with (first
        | (go_at_call 14; go_loud (refine (hknow wr).mono ?_; rintro e w2 ⟨rfl, hb2⟩; have HS2 := Lib.hid (hbs.out.below hb2); have HB2 := Lib.hid (hbe.out.trans (hb2.mono hbe.out.size)); clear hb2))
        | (go_at_call 13; go_loud (refine (next_bs HS2.out _).mono ?_; rintro e w3 ⟨rfl, hb3⟩; rw [show nextC (con ns) (⟨#[97]⟩ : ByteArray) = last + 1 from hnx.out]; have HB3 := Lib.hid (HB2.out.trans (hb3.mono HB2.out.size)); clear hb3)))
      go_ret
      exact ⟨rfl, HB3.out⟩
end Go.Proofs.YtnbopkflhjakdaaGreatDoor.Oc
namespace Go.Proofs.YtnbopkflhjakdaaGreatDoor.Dk
open Go Go.RowKit Go.ChangeShapes Go.WideShapes

abbrev Acts := Oc.Acts
section
variable {H : Type} {enc : TypeId × Value → H} {w : World}
theorem act_cells {fuel : Nat} {cs : List Value} {x : DataW H × List MemPlace} (h : DataW.trod enc Tryz.prog w 0 (fun _ => true) true fuel 32 cs = some x) :
    ∀ j, j < 4 → ∃ a : Int, cs[j]? = some (.int .i64 a) := by
  obtain ⟨xs, n, _, _, _, hlen, hg⟩ := DataW.trod_struct Tryz.underlying32 h
  intro j hj
  have one : ∀ f : Field, f.type = 3 → f.offset = j → DataW.trod enc Tryz.prog w 0 (fun _ => true) true n f.type ((cs.drop f.offset).take (Tryz.prog.cellsOf f.type)) = xs[j]? → (∃ y, xs[j]? = some y) → ∃ a : Int, cs[j]? = some (.int .i64 a) := by
    intro f e1 e2 hf ⟨y, hy⟩
    rw [hy, e1, e2] at hf
    obtain ⟨a, hc, _⟩ := DataW.trod_int Tryz.underlying3 hf
    refine ⟨a, ?_⟩
    have h0 := congrArg (·[0]?) hc
    simp only [List.getElem?_cons_zero] at h0
    rw [List.getElem?_take_of_lt (by rw [show Tryz.prog.cellsOf 3 = 1 by kernel_rfl]; omega), List.getElem?_drop] at h0
    simpa using h0
  have hl : xs.length = 4 := hlen
  have some_ : ∃ y, xs[j]? = some y := ⟨xs[j]'(by omega), List.getElem?_eq_getElem (by omega)⟩
  match j, hj with
  | 0, _ => exact one _ rfl rfl (hg 0 _ rfl) some_
  | 1, _ => exact one _ rfl rfl (hg 1 _ rfl) some_
  | 2, _ => exact one _ rfl rfl (hg 2 _ rfl) some_
  | 3, _ => exact one _ rfl rfl (hg 3 _ rfl) some_
theorem acts_open {A : Option Addr} {n c : Nat} {d : DataW H} {p : List MemPlace} (h : DataW.Trod enc Tryz.prog w 0 (fun _ => true) true 22 (.slice A n c) d p) :
    n ≤ c ∧ n ≤ 9223372036854775807 ∧ (A = none → n = 0) ∧ Acts w A n := by
  obtain ⟨fuel, hf⟩ := h
  rcases Deep.open_slice Tryz.underlying22 hf with ⟨hcs, _⟩ | ⟨a, len, cap, m, fu, D, Pl, hcs, hb, hl, hm, hmm, hx, hi⟩
  · simp [Value.cells] at hcs
    obtain ⟨rfl, rfl, rfl⟩ := hcs
    exact ⟨Nat.le_refl _, by omega, fun _ => rfl, fun h => by omega⟩
  · simp [Value.cells] at hcs
    obtain ⟨rfl, rfl, rfl⟩ := hcs
    simp only [if_true] at hmm
    subst hmm
    have hC : Tryz.prog.cellsOf 32 = 4 := by kernel_rfl
    rw [hC] at hi
    have cell : ∀ k, k < n → ∀ j, j < 4 → ∃ x : Int, w.cell? (a.add (k * 4 + j)) = some (.int .i64 x) := by
      intro k hk j hj
      obtain ⟨cs', hc, ht⟩ := hi k (by omega)
      obtain ⟨_, _, hat⟩ := World.cells?_some hc
      obtain ⟨x, hx⟩ := act_cells ht j hj
      refine ⟨x, ?_⟩
      have h1 := (hat j hj).trans hx
      have e : (a.add (k * 4)).add j = a.add (k * 4 + j) := by
        unfold Addr.add
        by_cases h1 : k * 4 = 0 <;> by_cases h2 : j = 0 <;> simp [h1, h2, Nat.add_assoc]
      rwa [e] at h1
    refine ⟨hl, by unfold maxLen at hm; omega, fun e => (by cases e), fun hn => ⟨a, rfl, ?_, fun k hk => ?_⟩⟩
    · obtain ⟨x, hx⟩ := cell 0 hn 0 (by omega)
      have := World.block_lt_of_cell? w _ hx
      rwa [block_of_add] at this
    · obtain ⟨x0, h0⟩ := cell k hk 0 (by omega)
      obtain ⟨x1, h1⟩ := cell k hk 1 (by omega)
      obtain ⟨x2, h2⟩ := cell k hk 2 (by omega)
      obtain ⟨x3, h3⟩ := cell k hk 3 (by omega)
      exact ⟨x0, x1, x2, x3, h0, h1, h2, h3⟩
end
end Go.Proofs.YtnbopkflhjakdaaGreatDoor.Dk
