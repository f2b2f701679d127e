/-
  Names and words, by runs.
-/
import Derived.Test.YtdlggegdlknkeaaGreatDoorGp7
namespace Go.Proofs.YtdlggegdlknkeaaGreatDoor.Gp
open Go Go.RowKit CX Ut

def allNames : List ByteArray := [0, 1, 2, 3, 4, 5].flatMap namesAt ++ wds.map fun l => ⟨⟨l⟩⟩
noncomputable def isNameB (s : Nat → Value) (nm : ByteArray) : Bool := gets (xo s) 67 [.string nm] (Hp.zero NG) (.bool true)
theorem isName1 (s : Nat → Value) : allNames.all (isNameB s) = true := by kernel_rfl
noncomputable def wordsH (kd : Nat) : Hp := lay (NG + 1) [(NG, .row { newBk 9 ((wds.take kd).map sv) with ro := true })] .empty
def wordsV (kd : Nat) : Value := .slice (some ⟨NG, 0, none⟩) kd (kd * 131072 + 3)
noncomputable def twiceB (s : Nat → Value) (kd : Nat) : Bool := gets (xo s) 69 [wordsV kd] (wordsH kd) (.bool false)
theorem twice1 (s : Nat → Value) : [1, 2, 3, 4, 5].all (twiceB s) = true := by kernel_rfl
theorem isname_any {nm : ByteArray} (h : nm ∈ allNames) (w : World) : Calls Tryz.prog 67 #[.string nm] w fun e w' => e = .returned (.bool true) ∧ Below w.heap.size w w' :=
  gets_run (List.all_eq_true.1 (isName1 s0) nm h) rfl (HR.zero NG s0 s0_one w) (GOk.zero NG s0 s0_one) (.cons (.plain rfl) .nil) zero_img
theorem wordsH_ob {kd i : Nat} {o : Ob} (h : (wordsH kd).ob i = some o) : i = NG ∧ o = .row { newBk 9 ((wds.take kd).map sv) with ro := true } := by
  rcases lay_ob h with hm | ⟨hm, _⟩
  · have := List.mem_singleton.1 hm
    injection this with h1 h2
    exact ⟨h1, h2⟩
  · cases hm
theorem HR.words {kd : Nat} (hk : 0 < kd) {w : World} {v : Value} (hv : WordsAt w kd v) : ∃ E : En, HR E (wordsH kd) w ∧ GOk ⟨NG, s0⟩ E ∧ VR E (wordsV kd) v := by
  obtain ⟨base, h1, h2⟩ := hv
  rcases h2 with ⟨_, h0⟩ | ⟨g, cap, cur, rfl, _, h4, h5, h6, h7, h8⟩
  · omega
  · refine ⟨EF (some ⟨g, 0, cap⟩) none, ⟨fun i hi => ?_, fun i o hi => ?_, fun i j o o' e e' hi hj _ _ _ => by rw [(wordsH_ob hi).1, (wordsH_ob hj).1]⟩, ⟨fun i hi => ⟨0, if_pos hi⟩, rfl⟩, ?_⟩
    · have : NG + 1 ≤ i := hi
      show (if i < NG then _ else if i = NG then _ else if i = NG + 1 then none else none) = none
      rw [if_neg (by omega), if_neg (by omega)]
      split <;> rfl
    · obtain ⟨rfl, rfl⟩ := wordsH_ob hi
      have hl : ((wds.take kd).map sv).length = kd := by simpa using h1
      refine ⟨⟨g, 0, cap⟩, rfl, cur, (0, 0), h4, by simpa using h7, ?_, fun j u hu => ?_, fun h => (by cases h), fun h => (by cases h)⟩
      · show len ((wds.take kd).map sv) ≤ cap
        rw [len_eq, hl]; exact h5
      · have hu : (newBk 9 ((wds.take kd).map sv)).at j = some u := hu
        rw [newBk_at, ← h8] at hu
        have hp : CX.plainCell u = true := by
          rw [h8] at hu
          obtain ⟨x, _, rfl⟩ := List.mem_map.1 (List.mem_of_getElem? hu)
          rfl
        refine ⟨u, ?_, .plain hp⟩
        rw [Nat.zero_add]
        rw [List.getElem?_take] at hu
        split at hu
        · simpa using hu
        · cases hu
    · have e1 : (kd * 131072 + 3) / 2 % 65536 = 1 := by omega
      refine .slice (e := ⟨g, 0, cap⟩) rfl (.inr ⟨by omega, by omega, ?_, by rw [e1]; decide⟩)
      rw [e1]
      show 0 + cap * 1 = cap
      omega
theorem words_img {kd : Nat} {E : En} (k : Nat) : ¬ Img E (wordsH kd) k := by
  rintro ⟨i, o, e, h, hwr, _⟩
  obtain ⟨rfl, rfl⟩ := wordsH_ob h
  cases hwr
theorem twice_words {kd : Nat} {v : Value} (h0 : 0 < kd) (h5 : kd ≤ 5) (w : World) (h : WordsAt w kd v) : Calls Tryz.prog 69 #[v] w fun e w' => e = .returned (.bool false) ∧ Below w.heap.size w w' := by
  obtain ⟨E, H, hg, hv⟩ := HR.words h0 h
  exact gets_run (List.all_eq_true.1 (twice1 s0) kd (by simp only [List.mem_cons, List.not_mem_nil, or_false]; omega)) rfl H hg (.cons hv .nil) words_img
end Go.Proofs.YtdlggegdlknkeaaGreatDoor.Gp
