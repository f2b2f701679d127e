/-
  One cell of a text: what the runs say of any world.
-/
import Derived.Test.YtmkkkeehkobadaaGreatDoorTc0
import Derived.Below
import Derived.Laws.OwnMore
import Derived.WalkKit
namespace Go.Proofs.YtmkkkeehkobadaaGreatDoor.Tc
open Go Go.RowKit CX

def sN (a b : Value) : Nat → Value := fun i => match i with
  | 0 => a
  | 1 => b
  | _ => .bool false
theorem sN_one {a b : Value} (ha : a.oneCell' = true) (hb : b.oneCell' = true) (n : Nat) : (sN a b n).oneCell' = true := by
  unfold sN
  split
  · exact ha
  · exact hb
  · rfl
/- The words of a column lie in a row of one's own. -/
def WordsAt (w : World) (kd : Nat) (v : Value) : Prop := ∃ base, w.ownsRow base 9 1 v kd ((wds.take kd).map sv)
theorem WordsAt.below {w w' : World} {kd : Nat} {v : Value} (h : WordsAt w kd v) (hb : Below w.heap.size w w') : WordsAt w' kd v := by
  obtain ⟨base, h1, h2⟩ := h
  refine ⟨base, h1, ?_⟩
  rcases h2 with h2 | ⟨g, cap, cur, rfl, h3, h4, h5⟩
  · exact .inl h2
  · exact .inr ⟨g, cap, cur, rfl, h3, (hb.block g (lt_of_block h4)).trans h4, h5⟩
def EW (s : Nat → Value) (one : ∀ n, (s n).oneCell' = true) (g m : Nat) : En := { f := fun i => if i < 8 then some ⟨i, 0, 0⟩ else if i = 8 then some ⟨g, 0, m⟩ else none, s := s, one := one }
theorem wordsH_ob {kd i : Nat} {o : Ob} (h : (wordsH kd).ob i = some o) : i = 8 ∧ o = .row { newBk 9 ((wds.take kd).map sv) with ro := true } := by
  rcases lay_ob h with hm | ⟨hm, _⟩
  · have := List.mem_singleton.1 hm
    injection this with h1 h2
    exact ⟨h1, h2⟩
  · cases hm
theorem HR.words {kd : Nat} (hk : 0 < kd) (s : Nat → Value) (one : ∀ n, (s n).oneCell' = true) {w : World} {v : Value} (hv : WordsAt w kd v) : ∃ E : En, HR E (wordsH kd) w ∧ GOk ⟨8, s⟩ E ∧ VR E (wordsV kd) v := by
  obtain ⟨base, h1, h2⟩ := hv
  rcases h2 with ⟨_, h0⟩ | ⟨g, cap, cur, rfl, _, h4, h5, h6, h7, h8⟩
  · omega
  · refine ⟨EW s one g cap, ⟨fun i hi => ?_, fun i o hi => ?_, fun i j o o' e e' hi hj _ _ _ => by rw [(wordsH_ob hi).1, (wordsH_ob hj).1]⟩, ⟨fun i hi => ⟨0, if_pos hi⟩, rfl⟩, ?_⟩
    · have : 9 ≤ i := hi
      show (if i < 8 then _ else if i = 8 then _ else none) = none
      rw [if_neg (by omega), if_neg (by omega)]
    · obtain ⟨rfl, rfl⟩ := wordsH_ob hi
      have hl : ((wds.take kd).map sv).length = kd := by simpa using h1
      refine ⟨⟨g, 0, cap⟩, rfl, cur, (0, 0), h4, by simpa using h7, ?_, fun j u hu => ?_, fun h => (by cases h), fun h => (by cases h)⟩
      · show len ((wds.take kd).map sv) ≤ cap
        rw [len_eq, hl]; exact h5
      · have hu : (newBk 9 ((wds.take kd).map sv)).at j = some u := hu
        rw [newBk_at, ← h8] at hu
        have hp : CX.plainCell u = true := by
          rw [h8] at hu
          obtain ⟨x, _, rfl⟩ := List.mem_map.1 (List.mem_of_getElem? hu)
          rfl
        refine ⟨u, ?_, .plain hp⟩
        rw [Nat.zero_add]
        rw [List.getElem?_take] at hu
        split at hu
        · simpa using hu
        · cases hu
    · refine .slice (e := ⟨g, 0, cap⟩) rfl (.inr ⟨by decide, by omega, ?_, by decide⟩)
      show 0 + cap * (3 / 2 % 65536) = cap
      omega
theorem gets_run {s : Nat → Value} {k : Nat} {av : List Value} {h : Hp} {v : Value} (hg : gets (xo s) k av h v = true) (hv : plain2 v = true) (ht : ∀ p, tupV p v = true → p = v) {E : En} {w : World} {av' : List Value} (H : HR E h w) (hk : GOk ⟨8, s⟩ E) (ha : LR E av av') (hi : ∀ k, ¬ Img E h k) :
    Calls Tryz.prog k ⟨av'⟩ w fun e w' => e = .returned v ∧ Below w.heap.size w w' := by
  unfold gets at hg
  cases hf : fcall (xo s) 100000 k av h with
  | none => rw [hf] at hg; cases hg
  | some p =>
    obtain ⟨u, h'⟩ := p
    rw [hf] at hg
    have := ht u hg; subst this
    rw [fcall_eq] at hf
    refine (xcall_sound (xo_ok s) hf H hk ha).mono ?_
    rintro e w' ⟨E', u', rfl, st, hu⟩
    rw [VR.plain2_eq hv hu]
    exact ⟨rfl, st.below (Nat.le_refl _) fun k _ => hi k⟩
theorem words_img {kd : Nat} {E : En} (k : Nat) : ¬ Img E (wordsH kd) k := by
  rintro ⟨i, o, e, h, hwr, _⟩
  obtain ⟨rfl, rfl⟩ := wordsH_ob h
  cases hwr
theorem zero_img {n : Nat} {E : En} (k : Nat) : ¬ Img E (Hp.zero n) k := by
  rintro ⟨i, o, e, h, _⟩
  rw [Hp.zero_ob] at h; cases h
theorem cells_all (s : Nat → Value) {kd : Nat} (h0 : 0 < kd) (h5 : kd ≤ 5) {t : List UInt8} (ht : t ∈ texts) : cellB s kd t = true := by
  rcases (show kd = 1 ∨ kd = 2 ∨ kd = 3 ∨ kd = 4 ∨ kd = 5 by omega) with rfl | rfl | rfl | rfl | rfl
  · exact List.all_eq_true.1 (cell1 s) t ht
  · exact List.all_eq_true.1 (cell2 s) t ht
  · exact List.all_eq_true.1 (cell3 s) t ht
  · exact List.all_eq_true.1 (cell4 s) t ht
  · exact List.all_eq_true.1 (cell5 s) t ht
theorem which_all (s : Nat → Value) {kd : Nat} (h0 : 0 < kd) (h5 : kd ≤ 5) {t : List UInt8} (ht : t ∈ texts) : whichB s kd t = true := by
  rcases (show kd = 1 ∨ kd = 2 ∨ kd = 3 ∨ kd = 4 ∨ kd = 5 by omega) with rfl | rfl | rfl | rfl | rfl
  · exact List.all_eq_true.1 (which1 s) t ht
  · exact List.all_eq_true.1 (which2 s) t ht
  · exact List.all_eq_true.1 (which3 s) t ht
  · exact List.all_eq_true.1 (which4 s) t ht
  · exact List.all_eq_true.1 (which5 s) t ht
theorem plain_cz (b : Bool) {q : List Value} (hq : q ∈ qs) (n : Nat) : allB CX.plainCell (cz b q n) = true := by
  simp only [qs, List.mem_cons, List.not_mem_nil, or_false] at hq
  rcases hq with rfl | rfl | rfl | rfl <;> rfl
theorem numQ_mem {t : List UInt8} {q : List Value} (h : numQ t = some q) : q ∈ qs := by
  unfold numQ at h
  unfold qs
  split at h
  · injection h with h; subst h; simp
  · split at h
    · injection h with h; subst h; simp
    · split at h
      · injection h with h; subst h; simp
      · cases h
theorem qz_mem : qz ∈ qs := by unfold qs; simp
theorem cellP_form (kd : Nat) (t : List UInt8) : ∃ b q n, (cellP kd t).1 = cz b q n ∧ q ∈ qs := by
  unfold cellP
  split
  · exact ⟨_, _, _, rfl, qz_mem⟩
  · split
    · split
      · next q hq => exact ⟨_, _, _, rfl, numQ_mem hq⟩
      · exact ⟨_, _, _, rfl, qz_mem⟩
    · split
      · exact ⟨_, _, _, rfl, qz_mem⟩
      · exact ⟨_, _, _, rfl, qz_mem⟩
theorem cellP_plain (kd : Nat) (t : List UInt8) : plain2 (.tuple ⟨[.agg ⟨(cellP kd t).1⟩, .int .i64 (cellP kd t).2]⟩) = true := by
  obtain ⟨b, q, n, h, hq⟩ := cellP_form kd t
  rw [h]
  show allB plain [.agg ⟨cz b q n⟩, .int .i64 (cellP kd t).2] = true
  rw [allB_cons]
  have : plain (.agg ⟨cz b q n⟩) = true := plain_cz b hq n
  rw [this]; rfl
def ofKind (kd : Nat) (w : World) (wd : Value) : Prop := if kd = 0 then wd.oneCell' = true else WordsAt w kd wd
theorem cell_any (name : ByteArray) (kd : Nat) (wd : Value) (w : World) (h5 : kd ≤ 5) (hw : ofKind kd w wd) {t : List UInt8} (ht : t ∈ texts) :
    Calls Tryz.prog 12 #[.agg ⟨[.string name, .int .i64 (kindOf kd), wd]⟩, .string ⟨⟨t⟩⟩] w fun e w' => e = .returned (.tuple ⟨[.agg ⟨(cellP kd t).1⟩, .int .i64 (cellP kd t).2]⟩) ∧ Below w.heap.size w w' := by
  unfold ofKind at hw
  by_cases h0 : kd = 0
  · subst h0
    rw [if_pos rfl] at hw
    have one := sN_one (a := .string name) rfl hw
    refine gets_run (List.all_eq_true.1 (cell0 (sN (.string name) wd)) t ht) (cellP_plain _ _) (fun p hp => tupV_eq hp) (HR.zero 8 _ one w) (GOk.zero 8 _ one) ?_ zero_img
    refine .cons ?_ (.cons (.plain rfl) .nil)
    exact VR.agg' (.cons (.sym (E := En.zero 8 (sN (.string name) wd) one) (n := 0)) (.cons (.plain rfl) (.cons (.sym (E := En.zero 8 (sN (.string name) wd) one) (n := 1)) .nil)))
  · rw [if_neg h0] at hw
    have one := sN_one (a := .string name) (b := .bool false) rfl rfl
    obtain ⟨E, H, hg, hv⟩ := HR.words (by omega) (sN (.string name) (.bool false)) one hw
    refine gets_run (cells_all (sN (.string name) (.bool false)) (by omega) h5 ht) (cellP_plain _ _) (fun p hp => tupV_eq hp) H hg ?_ words_img
    refine .cons ?_ (.cons (.plain rfl) .nil)
    have hs : E.s 0 = .string name := by rw [hg.2]; rfl
    refine VR.agg' (.cons ?_ (.cons (.plain rfl) (.cons hv .nil)))
    rw [← hs]; exact .sym
theorem which_any (kd : Nat) (wd : Value) (w : World) (h0 : 0 < kd) (h5 : kd ≤ 5) (hw : WordsAt w kd wd) {t : List UInt8} (ht : t ∈ texts) :
    Calls Tryz.prog 15 #[wd, .string ⟨⟨t⟩⟩] w fun e w' => e = .returned (.int .i64 (whichP kd t)) ∧ Below w.heap.size w w' := by
  have one := sN_one (a := .bool false) (b := .bool false) rfl rfl
  obtain ⟨E, H, hg, hv⟩ := HR.words h0 (sN (.bool false) (.bool false)) one hw
  exact gets_run (which_all _ h0 h5 ht) rfl (fun p hp => tupV_eq hp) H hg (.cons hv (.cons (.plain rfl) .nil)) words_img
theorem parse_any (w : World) {t : List UInt8} (ht : t ∈ texts) :
    Calls Tryz.prog 14 #[.string ⟨⟨t⟩⟩] w fun e w' => e = .returned (parseP t) ∧ Below w.heap.size w w' := by
  have one := sN_one (a := .bool false) (b := .bool false) rfl rfl
  refine gets_run (List.all_eq_true.1 (parse1 (sN (.bool false) (.bool false))) t ht) ?_ (fun p hp => tupV_eq hp) (HR.zero 8 _ one w) (GOk.zero 8 _ one) (.cons (.plain rfl) .nil) zero_img
  unfold parseP
  split
  · next q hq =>
    have := numQ_mem hq
    simp only [qs, List.mem_cons, List.not_mem_nil, or_false] at this
    rcases this with rfl | rfl | rfl | rfl <;> rfl
  · rfl
theorem cmp_any (w : World) {q : List Value} (hq : q ∈ qs) :
    Calls Tryz.prog 10 #[.agg ⟨q⟩, .agg ⟨q⟩] w fun e w' => e = .returned (.int .i64 0) ∧ Below w.heap.size w w' := by
  have one := sN_one (a := .bool false) (b := .bool false) rfl rfl
  refine gets_run (List.all_eq_true.1 (cmp1 (sN (.bool false) (.bool false))) q hq) rfl (fun p hp => tupV_eq hp) (HR.zero 8 _ one w) (GOk.zero 8 _ one) ?_ zero_img
  have hp : plain (.agg ⟨q⟩) = true := by
    simp only [qs, List.mem_cons, List.not_mem_nil, or_false] at hq
    rcases hq with rfl | rfl | rfl | rfl <;> rfl
  exact .cons (VR.of_plain hp) (.cons (VR.of_plain hp) .nil)
end Go.Proofs.YtmkkkeehkobadaaGreatDoor.Tc
