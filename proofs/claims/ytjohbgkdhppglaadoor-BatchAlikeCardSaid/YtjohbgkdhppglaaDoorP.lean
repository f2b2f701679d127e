/-
  Plain laws for the statements on groups of requests (no program in sight).
-/
namespace Go.Proofs.YtjohbgkdhppglaaDoor.Pl

def okAt (ts : List Int) (i : Nat) : Bool := decide (0 ≤ ts.getD i 0) && decide (ts.getD i 0 ≤ 1073741824) && (i == 0 || decide (ts.getD (i - 1) 0 ≤ ts.getD i 0))
def okUpto (ts : List Int) (k : Nat) : Bool := (List.range k).all (okAt ts)
def okRules (most wait : Int) : Bool := decide (1 ≤ most) && decide (most ≤ 300) && decide (0 ≤ wait) && decide (wait ≤ 1073741824)
def code (ts : List Int) (most wait : Int) : Int :=
  if okRules most wait = false then 1 else if okUpto ts ts.length = false then 1 else if 65536 < ts.length then 4 else 0

theorem okUpto_zero (ts : List Int) : okUpto ts 0 = true := rfl
theorem okUpto_succ (ts : List Int) (k : Nat) : okUpto ts (k + 1) = (okUpto ts k && okAt ts k) := by
  unfold okUpto
  rw [List.range_succ, List.all_append]; simp
theorem okUpto_mono {ts : List Int} {j k : Nat} (h : okUpto ts k = true) (hj : j ≤ k) : okUpto ts j = true := by
  unfold okUpto at *
  rw [List.all_eq_true] at *
  intro x hx
  exact h x (by simp at *; omega)
theorem okAt_of {ts : List Int} {k i : Nat} (h : okUpto ts k = true) (hi : i < k) : okAt ts i = true := by
  unfold okUpto at h
  rw [List.all_eq_true] at h
  exact h i (by simpa using hi)
theorem ok_bounds {ts : List Int} {k i : Nat} (h : okUpto ts k = true) (hi : i < k) : 0 ≤ ts.getD i 0 ∧ ts.getD i 0 ≤ 1073741824 := by
  have := okAt_of h hi
  unfold okAt at this
  simp only [Bool.and_eq_true, decide_eq_true_eq] at this
  exact ⟨this.1.1, this.1.2⟩
theorem ok_step {ts : List Int} {k i : Nat} (h : okUpto ts k = true) (hi : i + 1 < k) : ts.getD i 0 ≤ ts.getD (i + 1) 0 := by
  have := okAt_of h hi
  unfold okAt at this
  simp only [Bool.and_eq_true, Bool.or_eq_true, decide_eq_true_eq] at this
  rcases this.2 with h | h
  · simp at h
  · simpa using h
theorem ok_mono {ts : List Int} {k i j : Nat} (h : okUpto ts k = true) (hij : i ≤ j) (hj : j < k) : ts.getD i 0 ≤ ts.getD j 0 := by
  obtain ⟨d, rfl⟩ : ∃ d, j = i + d := ⟨j - i, by omega⟩
  induction d with
  | zero => exact Int.le_refl _
  | succ d ih => exact Int.le_trans (ih (by omega) (by omega)) (ok_step h (by omega))

/- The end of the group that begins at 'fr': 'u' is the time until which it waits. -/
def stopF (ts : List Int) (u : Int) (most fr : Nat) : Nat → Nat → Nat
  | 0, to => to
  | k + 1, to => if to - fr < most ∧ ts.getD to 0 ≤ u then stopF ts u most fr k (to + 1) else to
def stop (ts : List Int) (u : Int) (most fr to : Nat) : Nat := stopF ts u most fr (ts.length - to) to

theorem stop_go {ts : List Int} {u : Int} {most fr to : Nat} (h : to < ts.length) (h1 : to - fr < most) (h2 : ts.getD to 0 ≤ u) :
    stop ts u most fr to = stop ts u most fr (to + 1) := by
  unfold stop
  obtain ⟨k, hk⟩ : ∃ k, ts.length - to = k + 1 := ⟨ts.length - to - 1, by omega⟩
  rw [hk, show ts.length - (to + 1) = k by omega]
  simp only [stopF, h1, h2, true_and, if_true]
theorem stop_end {ts : List Int} {u : Int} {most fr to : Nat} (h : ts.length ≤ to ∨ most ≤ to - fr ∨ u < ts.getD to 0) :
    stop ts u most fr to = to := by
  unfold stop
  cases hk : ts.length - to with
  | zero => rfl
  | succ k =>
    simp only [stopF]
    rw [if_neg]
    rintro ⟨h1, h2⟩
    omega
theorem stopF_le (ts : List Int) (u : Int) (most fr : Nat) : ∀ k to, to ≤ stopF ts u most fr k to ∧ stopF ts u most fr k to ≤ to + k
  | 0, to => ⟨Nat.le_refl _, Nat.le_refl _⟩
  | k + 1, to => by
    simp only [stopF]
    split
    · have := stopF_le ts u most fr k (to + 1); omega
    · omega
theorem stop_le (ts : List Int) (u : Int) (most fr to : Nat) (h : to ≤ ts.length) : to ≤ stop ts u most fr to ∧ stop ts u most fr to ≤ ts.length := by
  have := stopF_le ts u most fr (ts.length - to) to
  unfold stop; omega
/- What is known of the end: all between are in time and the group is not too great; it ends for a reason. -/
theorem stop_facts (ts : List Int) (u : Int) (most fr : Nat) : ∀ (d to : Nat), ts.length - to = d → to ≤ ts.length →
    (∀ i, to ≤ i → i < stop ts u most fr to → ts.getD i 0 ≤ u ∧ i - fr < most) ∧
    (stop ts u most fr to = ts.length ∨ most ≤ stop ts u most fr to - fr ∨ u < ts.getD (stop ts u most fr to) 0)
  | 0, to, hd, hto => by
    rw [stop_end (.inl (by omega))]
    exact ⟨fun i h1 h2 => by omega, .inl (by omega)⟩
  | d + 1, to, hd, hto => by
    by_cases h1 : to - fr < most
    · by_cases h2 : ts.getD to 0 ≤ u
      · rw [stop_go (by omega) h1 h2]
        obtain ⟨ha, hb⟩ := stop_facts ts u most fr d (to + 1) (by omega) (by omega)
        refine ⟨fun i hi1 hi2 => ?_, hb⟩
        by_cases he : i = to
        · subst he; exact ⟨h2, h1⟩
        · exact ha i (by omega) hi2
      · rw [stop_end (.inr (.inr (by omega)))]
        exact ⟨fun i h1 h2 => by omega, .inr (.inr (by omega))⟩
    · rw [stop_end (.inr (.inl (by omega)))]
      exact ⟨fun i h1 h2 => by omega, .inr (.inl (by omega))⟩

structure Grp where
  fr : Nat
  to : Nat
  time : Int
def endOf (ts : List Int) (most : Nat) (wait : Int) (fr : Nat) : Nat := stop ts (ts.getD fr 0 + wait) most fr (fr + 1)
def timeOf (ts : List Int) (most : Nat) (wait : Int) (fr to : Nat) : Int := if to - fr = most then ts.getD (to - 1) 0 else ts.getD fr 0 + wait
def grp (ts : List Int) (most : Nat) (wait : Int) (fr : Nat) : Grp := ⟨fr, endOf ts most wait fr, timeOf ts most wait fr (endOf ts most wait fr)⟩
def formF (ts : List Int) (most : Nat) (wait : Int) : Nat → Nat → List Grp
  | 0, _ => []
  | k + 1, fr => if fr < ts.length then grp ts most wait fr :: formF ts most wait k (endOf ts most wait fr) else []
def form (ts : List Int) (most : Nat) (wait : Int) (fr : Nat) : List Grp := formF ts most wait (ts.length - fr) fr
theorem endOf_le (ts : List Int) (most : Nat) (wait : Int) (fr : Nat) (h : fr < ts.length) : fr + 1 ≤ endOf ts most wait fr ∧ endOf ts most wait fr ≤ ts.length :=
  stop_le ts _ most fr (fr + 1) h
theorem formF_more (ts : List Int) (most : Nat) (wait : Int) : ∀ k k' fr, ts.length - fr ≤ k → ts.length - fr ≤ k' → formF ts most wait k fr = formF ts most wait k' fr
  | 0, 0, _, _, _ => rfl
  | 0, k' + 1, fr, h, _ => by simp only [formF]; rw [if_neg (by omega)]
  | k + 1, 0, fr, _, h => by simp only [formF]; rw [if_neg (by omega)]
  | k + 1, k' + 1, fr, h, h' => by
    simp only [formF]
    by_cases hl : fr < ts.length
    · have := endOf_le ts most wait fr hl
      rw [if_pos hl, if_pos hl, formF_more ts most wait k k' _ (by omega) (by omega)]
    · rw [if_neg hl, if_neg hl]
theorem form_cons {ts : List Int} {most : Nat} {wait : Int} {fr : Nat} (h : fr < ts.length) : form ts most wait fr = grp ts most wait fr :: form ts most wait (endOf ts most wait fr) := by
  have hl := endOf_le ts most wait fr h
  unfold form
  obtain ⟨k, hk⟩ : ∃ k, ts.length - fr = k + 1 := ⟨ts.length - fr - 1, by omega⟩
  rw [hk]
  simp only [formF]
  rw [if_pos h, formF_more ts most wait k (ts.length - endOf ts most wait fr) _ (by omega) (by omega)]
theorem form_nil {ts : List Int} {most : Nat} {wait : Int} {fr : Nat} (h : ts.length ≤ fr) : form ts most wait fr = [] := by
  unfold form
  rw [show ts.length - fr = 0 by omega]; rfl
theorem form_length_le (ts : List Int) (most : Nat) (wait : Int) : ∀ d fr, ts.length - fr = d → (form ts most wait fr).length ≤ d := by
  intro d
  induction d using Nat.strongRecOn with
  | _ d ih =>
    intro fr hd
    by_cases h : fr < ts.length
    · have hl := endOf_le ts most wait fr h
      rw [form_cons h]
      have := ih (ts.length - endOf ts most wait fr) (by omega) _ rfl
      simp only [List.length_cons]; omega
    · rw [form_nil (by omega)]; simp
/- What is known of a group's end. -/
theorem endOf_facts {ts : List Int} {most : Nat} {wait : Int} {fr : Nat} (h : fr < ts.length) (hm : 1 ≤ most) :
    fr + 1 ≤ endOf ts most wait fr ∧ endOf ts most wait fr ≤ ts.length ∧ endOf ts most wait fr - fr ≤ most ∧
    (∀ i, fr + 1 ≤ i → i < endOf ts most wait fr → ts.getD i 0 ≤ ts.getD fr 0 + wait) ∧
    (endOf ts most wait fr = ts.length ∨ most ≤ endOf ts most wait fr - fr ∨ ts.getD fr 0 + wait < ts.getD (endOf ts most wait fr) 0) := by
  have hl := endOf_le ts most wait fr h
  obtain ⟨f1, f2⟩ := stop_facts ts (ts.getD fr 0 + wait) most fr (ts.length - (fr + 1)) (fr + 1) rfl (by omega)
  refine ⟨hl.1, hl.2, ?_, fun i h1 h2 => (f1 i h1 h2).1, f2⟩
  by_cases he : endOf ts most wait fr = fr + 1
  · omega
  · have := (f1 (endOf ts most wait fr - 1) (by omega) (by unfold endOf at *; omega)).2
    omega

theorem getD_replicate (n i : Nat) : (List.replicate n (0 : Int)).getD i 0 = 0 := by
  by_cases h : i < n
  · simp [h]
  · simp [h]
theorem zeros_end {n most fr : Nat} (h : fr < n) (hm : 1 ≤ most) : endOf (List.replicate n 0) most 1 fr = min (fr + most) n := by
  have hl : (List.replicate n (0 : Int)).length = n := by simp
  obtain ⟨f1, f2, f3, _, f5⟩ := endOf_facts (ts := List.replicate n 0) (most := most) (wait := 1) (fr := fr) (by omega) hm
  rw [hl] at f2 f5
  rw [getD_replicate, getD_replicate] at f5
  omega
theorem zeros_length {n most : Nat} (hm : 1 ≤ most) : ∀ d fr, n - fr = d → fr ≤ n → (form (List.replicate n 0) most 1 fr).length = (n - fr + most - 1) / most := by
  intro d
  induction d using Nat.strongRecOn with
  | _ d ih =>
    intro fr hd hfr
    have hl : (List.replicate n (0 : Int)).length = n := by simp
    by_cases h : fr < n
    · rw [form_cons (by omega), zeros_end h hm, List.length_cons, ih (n - min (fr + most) n) (by omega) _ rfl (by omega)]
      by_cases hc : fr + most ≤ n
      · rw [Nat.min_eq_left hc]
        have : n - fr + most - 1 = (n - (fr + most) + most - 1) + most := by omega
        rw [this, Nat.add_div_right _ (by omega)]
      · rw [Nat.min_eq_right (by omega)]
        rw [Nat.div_eq_of_lt (by omega)]
        have : n - fr + most - 1 = (n - fr - 1) + most := by omega
        rw [this, Nat.add_div_right _ (by omega), Nat.div_eq_of_lt (by omega)]
    · rw [form_nil (by omega)]
      simp only [List.length_nil]
      rw [Nat.div_eq_of_lt (by omega)]
theorem zeros_ok (n k : Nat) : okUpto (List.replicate n 0) k = true := by
  unfold okUpto okAt
  rw [List.all_eq_true]
  intro i _
  rw [getD_replicate, getD_replicate]; simp
theorem zeros_code {n : Nat} {most : Int} (h1 : 1 ≤ most) (h2 : most ≤ 300) : code (List.replicate n 0) most 1 = if 65536 < n then 4 else 0 := by
  unfold code okRules
  rw [zeros_ok]
  simp [h1, h2]
end Go.Proofs.YtjohbgkdhppglaaDoor.Pl
